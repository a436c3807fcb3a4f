/- Lemmas and contracts, part 5: an abstract machine over the model, and the functions that the statement reaches. -/
import Derived.Test.YtadfdoalifmkhaaMatchingKoenigP4
import Derived.Carry
import Derived.RowKit
import Derived.OpenShut
import Derived.Below
import Derived.ChangeSame
import Derived.JoinedOf
import Derived.Handed
import Derived.Test.YtadfdoalifmkhaaRows
set_option linter.unusedVariables false
set_option linter.unusedSimpArgs false
namespace Go.Proofs.M
open Go.AM Go
set_option maxRecDepth 100000
set_option maxHeartbeats 2000000
theorem ints_gi {l : List Int} {i : Nat} (h : i < l.length) : (ints l).getD i [] = [.int .i64 (gi l i)] := by rw [ints_getD h, gi_eq h]
theorem plc_len (n m : Nat) (P : List (Int × Int)) : (plc n m P).1.length = n ∧ (plc n m P).2.length = m := by
  unfold plc
  have : ∀ (P : List (Int × Int)) (x : List Int × List Int), x.1.length = n ∧ x.2.length = m → (P.foldl pstep x).1.length = n ∧ (P.foldl pstep x).2.length = m := by
    intro P
    induction P with
    | nil => intro x h; exact h
    | cons p P ih => intro x h; rw [List.foldl_cons]; exact ih _ (by simpa [pstep] using h)
  exact this P _ (by simp)
theorem placed_good {n m : Nat} {E : List (Int × Int)} (h : Gd n m E) (P : List (Int × Int)) (hlP : P.length ≤ 9223372036854775807) (hmat : isMat E P = true) :
    Upd Try.prog 40 [] [.int .i64 n, .int .i64 m, .rsl 2 (E.map pairV), .rsl 2 (P.map pairV)] (fun k => .tup [.ptr ⟨0, k, none⟩ 0 0, .bool true]) (fun k => graphS n m (nbOf n E) (plc n m P).1 (plc n m P).2 k k k k k k) := by
  have hn := h.hn
  have hm := h.hm
  have hE := h.hE
  have hl := h.hl
  have hmd := made_u hn hm hE hl
  have hb1 := nbOf_len n E
  generalize hnb : nbOf n E = nb at *
  refine Upd.of_body (rs := [.tmp 8, .tmp 9]) Try.func40 rfl Try.ntmps40 rfl (by simp) ?_
  intro k0 k hk0 hk1
  generalize hQr : retQ _ _ _ = Qr
  refine AW.seq fun K1 hK1 => ?_
  -- region 0
  refine AW.regionK 100 (fun _ => none) [0, 1, 2, 3] [116, 1116, 2116] ?_
  simp only [go_sem, reduceIte, reduceCtorEq, Nat.reduceAdd, Nat.reduceMul, Nat.reduceEqDiff, Nat.reduceLT, Nat.reduceLeDiff, Nat.reduceSub, Nat.reducePow, Nat.reduceBEq, Int.reduceToNat, List.reduceReplicate, graphS, ints_len]
  repeat with_reducible refine cj ?_ ?_
  all_goals try first | omega
  refine hK1 _ _ _ ?_; clear hK1
  refine AW.seq fun K2 hK2 => ?_
  -- region 1
  refine AW.regionK 100 (fun ii => if ii = 3 then some (.upd [] (fun k => graphS n m nb (List.replicate n (-1)) (List.replicate m (-1)) k k k k k k) (fun k => .ptr ⟨0, k, none⟩ 0 0)) else none) [2, 3, 10] [116, 1116, 2116] ?_
  simp only [go_sem, reduceIte, reduceCtorEq, Nat.reduceAdd, Nat.reduceMul, Nat.reduceEqDiff, Nat.reduceLT, Nat.reduceLeDiff, Nat.reduceSub, Nat.reducePow, Nat.reduceBEq, Int.reduceToNat, List.reduceReplicate, graphS, ints_len]
  repeat with_reducible refine cj ?_ ?_
  all_goals try first | ((unfold graphS at hmd; exact hmd)) | omega | exact ent (by kernel_rfl)
  refine hK2 _ _ _ ?_; clear hK2
  refine AW.seq fun K3 hK3 => ?_
  refine AW.seq fun K4 hK4 => ?_
  -- region 2
  refine AW.regionK 100 (fun _ => none) [2, 10, 17, 18, 19] [116, 1116, 2116] ?_
  simp only [go_sem, reduceIte, reduceCtorEq, Nat.reduceAdd, Nat.reduceMul, Nat.reduceEqDiff, Nat.reduceLT, Nat.reduceLeDiff, Nat.reduceSub, Nat.reducePow, Nat.reduceBEq, Int.reduceToNat, List.reduceReplicate, graphS, ints_len]
  repeat with_reducible refine cj ?_ ?_
  all_goals try first | omega
  refine hK4 _ _ _ ?_; clear hK4
  refine AW.block ?_
  -- loop 1
  refine AW.loopE (fun mm ee ss kk => ∃ (j g0 v0 g1 v1 g2 v2 : Nat), P.length - j = mm ∧ ee = [(2, .rsl 2 (E.map pairV)), (10, .ptr ⟨116, g0, none⟩ 0 0), (17, .rsl 2 (P.map pairV)), (18, .int .i64 P.length), (19, .int .i64 (j : Nat))] ∧ ss = [(116, some ⟨g0, v0, 3, [[.rsl 1 (nbR nb), .sl ⟨1116, g1, none⟩ 0 n none, .sl ⟨2116, g2, none⟩ 0 m none]]⟩), (1116, some ⟨g1, v1, 1, ints (plc n m (P.take j)).1⟩), (2116, some ⟨g2, v2, 1, ints (plc n m (P.take j)).2⟩)] ∧ (j ≤ P.length ∧ PlI n m E (P.take j) (plc n m (P.take j)))) ?_ ?_
  · refine ⟨_, 0, ?_, ?_, ?_, ?_, ?_, ?_, rfl, ?henv, ?hstore, ?hst⟩
    case henv =>
      repeat' (first | rfl | refine env_cons ?_ ?_ | refine st_cons ?_ ?_ ?_ ?_ | refine int_eq ?_ | refine bool_eq ?_ | refine rsl_eq ?_ | refine osl_eq ?_ | refine sl_eq ?_ ?_ ?_ | refine ptr_eq ?_ ?_ ?_ | refine agg_eq ?_ | refine es_cons ?_ ?_ | refine row_cons ?_ ?_)
      all_goals (first | (simp; done) | omega | (simp; omega))
    case hstore =>
      repeat' (first | rfl | refine env_cons ?_ ?_ | refine st_cons ?_ ?_ ?_ ?_ | refine int_eq ?_ | refine bool_eq ?_ | refine rsl_eq ?_ | refine osl_eq ?_ | refine sl_eq ?_ ?_ ?_ | refine ptr_eq ?_ ?_ ?_ | refine agg_eq ?_ | refine es_cons ?_ ?_ | refine row_cons ?_ ?_)
      all_goals (first | (simp; done) | omega | (simp; omega))
    case hst =>
      exact ⟨by omega, plI_nil n m E⟩
  rintro mm ee ss kk ⟨j, g0, v0, g1, v1, g2, v2, rfl, rfl, rfl, hI⟩
  generalize hQl1 : thenQ _ _ = Ql1
  obtain ⟨hj, hI⟩ := hI
  have hL := (plc_len n m (P.take j)).1
  have hR := (plc_len n m (P.take j)).2
  refine AW.seq fun K5 hK5 => ?_
  -- region 3
  refine AW.regionK 100 (fun _ => none) [2, 10, 17, 18, 19, 20] [116, 1116, 2116] ?_
  simp only [go_sem, reduceIte, reduceCtorEq, Nat.reduceAdd, Nat.reduceMul, Nat.reduceEqDiff, Nat.reduceLT, Nat.reduceLeDiff, Nat.reduceSub, Nat.reducePow, Nat.reduceBEq, Int.reduceToNat, List.reduceReplicate, graphS, ints_len]
  repeat with_reducible refine cj ?_ ?_
  all_goals try first | omega
  refine hK5 _ _ _ ?_; clear hK5
  refine AW.seq fun K6 hK6 => ?_
  -- cond 1
  refine AW.cond rfl (by simp only [go_sem, reduceIte, reduceCtorEq, Nat.reduceAdd, Nat.reduceMul, Nat.reduceEqDiff, Nat.reduceLT, Nat.reduceLeDiff, Nat.reduceSub, Nat.reducePow, Nat.reduceBEq, Int.reduceToNat, List.reduceReplicate]) ?_ ?_
  · intro hb
    try simp only [hB, decide_eq_true_eq, decide_eq_false_iff_not] at hb
    obtain ⟨p, hp⟩ := getI (l := P) (j := j) (by omega)
    have hgp := getV (f := pairV) hp
    have hha := contains2_r E p (by omega)
    unfold pairV at hha
    have hpv : (fun p : Int × Int => [AV.int .i64 p.1, AV.int .i64 p.2]) = pairV := rfl
    rw [hpv] at hha
    have hts : P.take (j + 1) = P.take j ++ [p] := by rw [List.take_add_one, hp]; rfl
    have hps := plc_succ n m hp
    have hbad := hI.bad hE hp
    have hsnoc := fun h => plI_snoc hE hI (p := p) h
    generalize plc n m (P.take j) = x at *
    obtain ⟨L, R⟩ := x
    simp only at hL hR hps hbad hsnoc
    rw [hmat] at hbad
    have hpe : p ∈ E := Decidable.byContradiction fun h => by cases hbad (.inl h)
    have hl0 : gi L p.1.toNat < 0 := by by_cases h : 0 ≤ gi L p.1.toNat; cases hbad (.inr (.inl h)); omega
    have hr0 : gi R p.2.toNat < 0 := by by_cases h : 0 ≤ gi R p.2.toNat; cases hbad (.inr (.inr h)); omega
    have hr := edgeIn_iff.1 (hE p hpe)
    have hgA := ints_gi (l := L) (i := p.1.toNat) (by omega)
    have hgB := ints_gi (l := R) (i := p.2.toNat) (by omega)
    have hdp : decide (p ∈ E) = true := decide_eq_true hpe
    rw [hdp] at hha
    have hju := join_u n m (nbR nb) L R hL hR hn hm p.1 p.2 ⟨hr.1, hr.2.1⟩ ⟨hr.2.2.1, hr.2.2.2⟩ g0 v0 g1 v1 g2 v2
    have hsn := hsnoc hpe hl0 hr0
    rw [← hps, ← hts] at hsn
    rw [show L.set p.1.toNat p.2 = (plc n m (P.take (j + 1))).1 by rw [hps], show R.set p.2.toNat p.1 = (plc n m (P.take (j + 1))).2 by rw [hps]] at hju
    refine AW.skip ?_
    refine hK6 _ _ _ ?_; clear hK6
    refine AW.seq fun K7 hK7 => ?_
    refine AW.block ?_
    refine AW.seq fun K8 hK8 => ?_
    -- region 4
    refine AW.regionK 100 (fun _ => none) [2, 10, 12, 17, 18, 19] [112, 116, 1116, 2116] ?_
    simp only [go_sem, reduceIte, reduceCtorEq, Nat.reduceAdd, Nat.reduceMul, Nat.reduceEqDiff, Nat.reduceLT, Nat.reduceLeDiff, Nat.reduceSub, Nat.reducePow, Nat.reduceBEq, Int.reduceToNat, List.reduceReplicate, graphS, ints_len, hgp, pairV]
    repeat with_reducible refine cj ?_ ?_
    all_goals try first | omega
    refine hK8 _ _ _ ?_; clear hK8
    refine AW.seq fun K9 hK9 => ?_
    refine AW.seq fun K10 hK10 => ?_
    -- region 5
    refine AW.regionD mixed 100 (fun ii => if ii = 2 then some (.reads false (.bool true)) else none) [2, 10, 12, 17, 18, 19, 48] [112, 116, 1116, 2116] ?_
    simp only [go_sem, reduceIte, reduceCtorEq, Nat.reduceAdd, Nat.reduceMul, Nat.reduceEqDiff, Nat.reduceLT, Nat.reduceLeDiff, Nat.reduceSub, Nat.reducePow, Nat.reduceBEq, Int.reduceToNat, List.reduceReplicate, graphS, ints_len, hL, hR, hgA, hgB]
    repeat with_reducible refine cj ?_ ?_
    all_goals try first | (first | exact hha | (intro _; exact ⟨by omega, by omega⟩) | (intros; (repeat' apply And.intro) <;> first | omega | trivial)) | (intros; (repeat' apply And.intro) <;> first | assumption | (first | exact hha | (intro _; exact ⟨by omega, by omega⟩) | (intros; (repeat' apply And.intro) <;> first | omega | trivial))) | omega | exact chk (by kernel_rfl) | exact ent (by kernel_rfl) | (intro hgd; exact absurd hgd (by decide)) | rfl | (simp only [go_sem, reduceIte, reduceCtorEq, Nat.reduceAdd, Nat.reduceMul, Nat.reduceEqDiff, Nat.reduceLT, Nat.reduceLeDiff, Nat.reduceSub, Nat.reducePow, Nat.reduceBEq, Int.reduceToNat, List.reduceReplicate, graphS, ints_len, hL, hR, hgA, hgB]; done) | (intro _hgd; simp_all [go_sem]; done)
    refine hK10 _ _ _ ?_; clear hK10
    -- cond 2
    refine AW.cond rfl (by simp only [go_sem, reduceIte, reduceCtorEq, Nat.reduceAdd, Nat.reduceMul, Nat.reduceEqDiff, Nat.reduceLT, Nat.reduceLeDiff, Nat.reduceSub, Nat.reducePow, Nat.reduceBEq, Int.reduceToNat, List.reduceReplicate]) ?_ ?_
    · intro hb
      try simp only [hB, decide_eq_true_eq, decide_eq_false_iff_not] at hb
      exfalso; revert hb; simp; omega
    · intro hb
      try simp only [hB, decide_eq_true_eq, decide_eq_false_iff_not] at hb
      refine AW.skip ?_
      refine hK9 _ _ _ ?_; clear hK9
      -- region 7
      refine AW.regionK 100 (fun ii => if ii = 5 then some (.upd [116, 1116, 2116] (fun k => [(0, some ⟨g0, k, 3, [[.rsl 1 (nbR nb), .sl ⟨1, g1, none⟩ 0 n none, .sl ⟨2, g2, none⟩ 0 m none]]⟩), (1, some ⟨g1, k, 1, ints (plc n m (P.take (j + 1))).1⟩), (2, some ⟨g2, k, 1, ints (plc n m (P.take (j + 1))).2⟩)]) (fun _ => .tup [])) else none) [2, 10, 17, 18, 19] [116, 1116, 2116] ?_
      simp only [go_sem, reduceIte, reduceCtorEq, Nat.reduceAdd, Nat.reduceMul, Nat.reduceEqDiff, Nat.reduceLT, Nat.reduceLeDiff, Nat.reduceSub, Nat.reducePow, Nat.reduceBEq, Int.reduceToNat, List.reduceReplicate, graphS, ints_len, hL, hR]
      repeat with_reducible refine cj ?_ ?_
      all_goals try first | (exact hju) | omega | exact ent (by kernel_rfl)
      refine hK7 _ _ _ ?_; clear hK7
      -- region 8
      refine AW.regionK 100 (fun _ => none) [2, 10, 17, 18, 19] [116, 1116, 2116] ?_
      simp only [go_sem, reduceIte, reduceCtorEq, Nat.reduceAdd, Nat.reduceMul, Nat.reduceEqDiff, Nat.reduceLT, Nat.reduceLeDiff, Nat.reduceSub, Nat.reducePow, Nat.reduceBEq, Int.reduceToNat, List.reduceReplicate, graphS, ints_len]
      repeat with_reducible refine cj ?_ ?_
      all_goals try first | omega
      rw [← hQl1]
      change Exists _
      refine ⟨_, ?hm, j + 1, ?_, ?_, ?_, ?_, ?_, ?_, rfl, ?henv, ?hstore, ?hst⟩
      case henv =>
        repeat' (first | rfl | refine env_cons ?_ ?_ | refine st_cons ?_ ?_ ?_ ?_ | refine int_eq ?_ | refine bool_eq ?_ | refine rsl_eq ?_ | refine osl_eq ?_ | refine sl_eq ?_ ?_ ?_ | refine ptr_eq ?_ ?_ ?_ | refine agg_eq ?_ | refine es_cons ?_ ?_ | refine row_cons ?_ ?_)
        all_goals (first | (simp; done) | omega | (simp; omega))
      case hstore =>
        repeat' (first | rfl | refine env_cons ?_ ?_ | refine st_cons ?_ ?_ ?_ ?_ | refine int_eq ?_ | refine bool_eq ?_ | refine rsl_eq ?_ | refine osl_eq ?_ | refine sl_eq ?_ ?_ ?_ | refine ptr_eq ?_ ?_ ?_ | refine agg_eq ?_ | refine es_cons ?_ ?_ | refine row_cons ?_ ?_)
        all_goals (first | (simp; done) | omega | (simp; omega))
      case hst =>
        exact ⟨by omega, hsn⟩
      case hm => omega
  · intro hb
    try simp only [hB, decide_eq_true_eq, decide_eq_false_iff_not] at hb
    have hj2 : j = P.length := by omega
    subst hj2
    rw [List.take_length]
    refine AW.keep [10] [116, 1116, 2116] ?_
    try simp only [go_sem, reduceIte, reduceCtorEq, Nat.reduceAdd, Nat.reduceMul, Nat.reduceEqDiff, Nat.reduceLT, Nat.reduceLeDiff, Nat.reduceSub, Nat.reducePow, Nat.reduceBEq, Int.reduceToNat, List.reduceReplicate]
    refine AW.exit ?_
    rw [← hQl1]
    refine hK3 _ _ _ ?_; clear hK3
    refine AW.seq fun K11 hK11 => ?_
    -- region 9
    refine AW.regionK 100 (fun _ => none) [8, 9] [116, 1116, 2116] ?_
    simp only [go_sem, reduceIte, reduceCtorEq, Nat.reduceAdd, Nat.reduceMul, Nat.reduceEqDiff, Nat.reduceLT, Nat.reduceLeDiff, Nat.reduceSub, Nat.reducePow, Nat.reduceBEq, Int.reduceToNat, List.reduceReplicate, graphS, ints_len]
    repeat with_reducible refine cj ?_ ?_
    all_goals try first | omega
    refine hK11 _ _ _ ?_; clear hK11
    refine AW.ret ?_
    rw [← hQr]
    simp only [go_sem, reduceIte, reduceCtorEq, Nat.reduceAdd, Nat.reduceMul, Nat.reduceEqDiff, Nat.reduceLT, Nat.reduceLeDiff, Nat.reduceSub, Nat.reducePow, Nat.reduceBEq, Int.reduceToNat, List.reduceReplicate, graphS, ints_len]
    refine ⟨[(116, 0, true), (1116, 1, true), (2116, 2, true)], ?_⟩
    simp only [go_sem, reduceIte, Nat.reduceEqDiff, renC_ints, graphS]
    first | rfl | exact ⟨rfl, rfl⟩
end Go.Proofs.M

namespace Go.Proofs.M
open Go.AM Go
set_option maxRecDepth 100000
set_option maxHeartbeats 2000000
theorem bhas_b (b : List Bool) (hb : b.length ≤ 512) (i : Int) (h0 : 0 ≤ i) (h1 : i < b.length) : Reads Try.prog 41 false [.agg [.int .i64 b.length, .rsl 1 (words (setW b b.length))], .int .i64 i] (.bool (b.getD i.toNat false)) := by
  have h := bhas_r b.length (setW b b.length) i (setW_ok b) (by have := setB_len hb; omega)
  have e : memS b.length (setW b b.length) i = b.getD i.toNat false := by
    unfold memS
    rw [validS_setW hb, setW_mem h0 h1, decide_eq_true h0, decide_eq_true h1]; rfl
  rw [e] at h; exact h
def covB (a b : List Bool) (E : List (Int × Int)) : Bool := E.all fun e => a.getD e.1.toNat false || b.getD e.2.toNat false
theorem iscover_r {n m : Nat} {E : List (Int × Int)} (hE : ∀ e ∈ E, edgeIn n m e = true) (hl : E.length ≤ 9223372036854775807) {a b : List Bool} (ha : a.length = n) (hb : b.length = m) (hn : n ≤ 512) (hm : m ≤ 512) :
    Reads Try.prog 26 false [.rsl 2 (E.map pairV), .agg [.int .i64 n, .rsl 1 (words (setW a n))], .agg [.int .i64 m, .rsl 1 (words (setW b m))]] (.bool (covB a b E)) := by
  have hha := rhas_in a (by omega)
  have hhb := rhas_in b (by omega)
  unfold rowB at hha hhb
  rw [ha] at hha
  rw [hb] at hhb
  generalize setW a n = A at *
  generalize setW b m = B at *
  refine Reads.body (rs := [.tmp 6]) Try.func26 rfl Try.ntmps26 rfl (by simp) ?_
  generalize hQr : retQ _ _ _ = Qr
  refine AW.seq fun K1 hK1 => ?_
  -- region 0
  refine AW.regionK 0 (fun _ => none) [0, 4, 5] [4, 5] ?_
  simp only [go_sem, reduceIte, reduceCtorEq, Nat.reduceAdd, Nat.reduceMul, Nat.reduceEqDiff, Nat.reduceLT, Nat.reduceLeDiff, Nat.reduceSub, Nat.reducePow, Nat.reduceBEq, Int.reduceToNat, List.reduceReplicate]
  repeat with_reducible refine cj ?_ ?_
  all_goals try first | omega
  refine hK1 _ _ _ ?_; clear hK1
  refine AW.seq fun K2 hK2 => ?_
  refine AW.seq fun K3 hK3 => ?_
  -- region 1
  refine AW.regionK 0 (fun _ => none) [0, 4, 5, 7] [4, 5] ?_
  simp only [go_sem, reduceIte, reduceCtorEq, Nat.reduceAdd, Nat.reduceMul, Nat.reduceEqDiff, Nat.reduceLT, Nat.reduceLeDiff, Nat.reduceSub, Nat.reducePow, Nat.reduceBEq, Int.reduceToNat, List.reduceReplicate]
  repeat with_reducible refine cj ?_ ?_
  all_goals try first | omega
  refine hK3 _ _ _ ?_; clear hK3
  refine AW.block ?_
  -- loop 1
  refine AW.loopE (fun mm ee ss kk => ∃ (j g4 v4 g5 v5 : Nat), E.length - j = mm ∧ ee = [(0, .rsl 2 (E.map pairV)), (4, .ptr ⟨4, g4, none⟩ 0 0), (5, .ptr ⟨5, g5, none⟩ 0 0), (7, .int .i64 (j : Nat))] ∧ ss = [(4, some ⟨g4, v4, 2, [[.int .i64 n, .rsl 1 (words A)]]⟩), (5, some ⟨g5, v5, 2, [[.int .i64 m, .rsl 1 (words B)]]⟩)] ∧ (j ≤ E.length ∧ ((E.take j).all fun e => a.getD e.1.toNat false || b.getD e.2.toNat false) = true)) ?_ ?_
  · refine ⟨_, 0, ?_, ?_, ?_, ?_, rfl, ?henv, ?hstore, ?hst⟩
    case henv =>
      repeat' (first | rfl | refine env_cons ?_ ?_ | refine st_cons ?_ ?_ ?_ ?_ | refine int_eq ?_ | refine bool_eq ?_ | refine rsl_eq ?_ | refine osl_eq ?_ | refine sl_eq ?_ ?_ ?_ | refine ptr_eq ?_ ?_ ?_ | refine agg_eq ?_ | refine es_cons ?_ ?_ | refine row_cons ?_ ?_)
      all_goals (first | (simp; done) | omega | (simp; omega))
    case hstore =>
      repeat' (first | rfl | refine env_cons ?_ ?_ | refine st_cons ?_ ?_ ?_ ?_ | refine int_eq ?_ | refine bool_eq ?_ | refine rsl_eq ?_ | refine osl_eq ?_ | refine sl_eq ?_ ?_ ?_ | refine ptr_eq ?_ ?_ ?_ | refine agg_eq ?_ | refine es_cons ?_ ?_ | refine row_cons ?_ ?_)
      all_goals (first | (simp; done) | omega | (simp; omega))
    case hst =>
      exact ⟨by omega, by simp⟩
  rintro mm ee ss kk ⟨j, g4, v4, g5, v5, rfl, rfl, rfl, hI⟩
  generalize hQl1 : thenQ _ _ = Ql1
  obtain ⟨hj, hall⟩ := hI
  refine AW.seq fun K4 hK4 => ?_
  refine AW.seq fun K5 hK5 => ?_
  -- region 2
  refine AW.regionK 0 (fun _ => none) [0, 4, 5, 7, 11] [4, 5] ?_
  simp only [go_sem, reduceIte, reduceCtorEq, Nat.reduceAdd, Nat.reduceMul, Nat.reduceEqDiff, Nat.reduceLT, Nat.reduceLeDiff, Nat.reduceSub, Nat.reducePow, Nat.reduceBEq, Int.reduceToNat, List.reduceReplicate]
  repeat with_reducible refine cj ?_ ?_
  all_goals try first | omega
  refine hK5 _ _ _ ?_; clear hK5
  -- cond 1
  refine AW.cond rfl (by simp only [go_sem, reduceIte, reduceCtorEq, Nat.reduceAdd, Nat.reduceMul, Nat.reduceEqDiff, Nat.reduceLT, Nat.reduceLeDiff, Nat.reduceSub, Nat.reducePow, Nat.reduceBEq, Int.reduceToNat, List.reduceReplicate]) ?_ ?_
  · intro hb
    try simp only [hB, decide_eq_true_eq, decide_eq_false_iff_not] at hb
    obtain ⟨e, he⟩ := getI (l := E) (j := j) (by omega)
    have hge := getV (f := pairV) he
    have hr := edgeIn_iff.1 (hE e (List.mem_of_getElem? he))
    have hats := all_take_succ (p := fun e : Int × Int => a.getD e.1.toNat false || b.getD e.2.toNat false) he
    have h1 := hha e.1 hr.1 hr.2.1
    have h2 := hhb e.2 hr.2.2.1 hr.2.2.2
    refine AW.skip ?_
    refine hK4 _ _ _ ?_; clear hK4
    refine AW.seq fun K6 hK6 => ?_
    refine AW.block ?_
    refine AW.seq fun K7 hK7 => ?_
    -- region 4
    refine AW.regionD mixed 0 (fun ii => if ii = 6 then some (.reads false (.bool (a.getD e.1.toNat false))) else if ii = 15 then some (.reads false (.bool (b.getD e.2.toNat false))) else none) [0, 4, 5, 7, 31] [4, 5] ?_
    simp only [go_sem, reduceIte, reduceCtorEq, Nat.reduceAdd, Nat.reduceMul, Nat.reduceEqDiff, Nat.reduceLT, Nat.reduceLeDiff, Nat.reduceSub, Nat.reducePow, Nat.reduceBEq, Int.reduceToNat, List.reduceReplicate, hge, pairV]
    repeat with_reducible refine cj ?_ ?_
    all_goals try first | (first | exact h1 | exact h2 | (intro _; omega) | (intro _; exact ⟨by omega, by omega⟩)) | (intros; (repeat' apply And.intro) <;> first | assumption | (first | exact h1 | exact h2 | (intro _; omega) | (intro _; exact ⟨by omega, by omega⟩))) | omega | exact chk (by kernel_rfl) | exact ent (by kernel_rfl) | (intro hgd; exact absurd hgd (by decide)) | rfl | (simp only [go_sem, reduceIte, reduceCtorEq, Nat.reduceAdd, Nat.reduceMul, Nat.reduceEqDiff, Nat.reduceLT, Nat.reduceLeDiff, Nat.reduceSub, Nat.reducePow, Nat.reduceBEq, Int.reduceToNat, List.reduceReplicate, hge, pairV]; done) | (intro _hgd; simp_all [go_sem]; done)
    refine hK7 _ _ _ ?_; clear hK7
    -- cond 2
    refine AW.cond rfl (by simp only [go_sem, reduceIte, reduceCtorEq, Nat.reduceAdd, Nat.reduceMul, Nat.reduceEqDiff, Nat.reduceLT, Nat.reduceLeDiff, Nat.reduceSub, Nat.reducePow, Nat.reduceBEq, Int.reduceToNat, List.reduceReplicate]) ?_ ?_
    · intro hb
      try simp only [hB, decide_eq_true_eq, decide_eq_false_iff_not] at hb
      refine AW.seq fun K8 hK8 => ?_
      -- region 5
      refine AW.regionK 0 (fun _ => none) [6] [] ?_
      simp only [go_sem, reduceIte, reduceCtorEq, Nat.reduceAdd, Nat.reduceMul, Nat.reduceEqDiff, Nat.reduceLT, Nat.reduceLeDiff, Nat.reduceSub, Nat.reducePow, Nat.reduceBEq, Int.reduceToNat, List.reduceReplicate]
      repeat with_reducible refine cj ?_ ?_
      all_goals try first | omega
      refine hK8 _ _ _ ?_; clear hK8
      refine AW.ret ?_
      rw [← hQl1]
      rw [← hQr]
      simp only [go_sem, reduceIte, reduceCtorEq, Nat.reduceAdd, Nat.reduceMul, Nat.reduceEqDiff, Nat.reduceLT, Nat.reduceLeDiff, Nat.reduceSub, Nat.reducePow, Nat.reduceBEq, Int.reduceToNat, List.reduceReplicate]
      have hf : covB a b E = false := all_false_of he (by obtain ⟨q1, q2⟩ := hb; rw [q1, q2]; rfl)
      exact Wk.of_eq (by rw [hf])
    · intro hb
      try simp only [hB, decide_eq_true_eq, decide_eq_false_iff_not] at hb
      refine AW.skip ?_
      refine hK6 _ _ _ ?_; clear hK6
      -- region 3
      refine AW.regionK 0 (fun _ => none) [0, 4, 5, 7] [4, 5] ?_
      simp only [go_sem, reduceIte, reduceCtorEq, Nat.reduceAdd, Nat.reduceMul, Nat.reduceEqDiff, Nat.reduceLT, Nat.reduceLeDiff, Nat.reduceSub, Nat.reducePow, Nat.reduceBEq, Int.reduceToNat, List.reduceReplicate]
      repeat with_reducible refine cj ?_ ?_
      all_goals try first | omega
      rw [← hQl1]
      change Exists _
      refine ⟨_, ?hm, j + 1, ?_, ?_, ?_, ?_, rfl, ?henv, ?hstore, ?hst⟩
      case henv =>
        repeat' (first | rfl | refine env_cons ?_ ?_ | refine st_cons ?_ ?_ ?_ ?_ | refine int_eq ?_ | refine bool_eq ?_ | refine rsl_eq ?_ | refine osl_eq ?_ | refine sl_eq ?_ ?_ ?_ | refine ptr_eq ?_ ?_ ?_ | refine agg_eq ?_ | refine es_cons ?_ ?_ | refine row_cons ?_ ?_)
        all_goals (first | (simp; done) | omega | (simp; omega))
      case hstore =>
        repeat' (first | rfl | refine env_cons ?_ ?_ | refine st_cons ?_ ?_ ?_ ?_ | refine int_eq ?_ | refine bool_eq ?_ | refine rsl_eq ?_ | refine osl_eq ?_ | refine sl_eq ?_ ?_ ?_ | refine ptr_eq ?_ ?_ ?_ | refine agg_eq ?_ | refine es_cons ?_ ?_ | refine row_cons ?_ ?_)
        all_goals (first | (simp; done) | omega | (simp; omega))
      case hst =>
        exact ⟨by omega, by rw [hats, hall]; revert hb; cases a.getD e.1.toNat false <;> cases b.getD e.2.toNat false <;> simp⟩
      case hm => omega
  · intro hb
    try simp only [hB, decide_eq_true_eq, decide_eq_false_iff_not] at hb
    refine AW.keep [] [] ?_
    try simp only [go_sem, reduceIte, reduceCtorEq, Nat.reduceAdd, Nat.reduceMul, Nat.reduceEqDiff, Nat.reduceLT, Nat.reduceLeDiff, Nat.reduceSub, Nat.reducePow, Nat.reduceBEq, Int.reduceToNat, List.reduceReplicate]
    refine AW.exit ?_
    rw [← hQl1]
    refine hK2 _ _ _ ?_; clear hK2
    refine AW.seq fun K9 hK9 => ?_
    -- region 6
    refine AW.regionK 0 (fun _ => none) [6] [] ?_
    simp only [go_sem, reduceIte, reduceCtorEq, Nat.reduceAdd, Nat.reduceMul, Nat.reduceEqDiff, Nat.reduceLT, Nat.reduceLeDiff, Nat.reduceSub, Nat.reducePow, Nat.reduceBEq, Int.reduceToNat, List.reduceReplicate]
    repeat with_reducible refine cj ?_ ?_
    all_goals try first | omega
    refine hK9 _ _ _ ?_; clear hK9
    refine AW.ret ?_
    rw [← hQr]
    simp only [go_sem, reduceIte, reduceCtorEq, Nat.reduceAdd, Nat.reduceMul, Nat.reduceEqDiff, Nat.reduceLT, Nat.reduceLeDiff, Nat.reduceSub, Nat.reducePow, Nat.reduceBEq, Int.reduceToNat, List.reduceReplicate]
    exact Wk.of_eq (by rw [List.take_of_length_le (by omega)] at hall; unfold covB; rw [hall])
end Go.Proofs.M

namespace Go.Proofs.M
open Go.AM Go
set_option maxRecDepth 100000
set_option maxHeartbeats 2000000
/-- A set with numbers below n. -/
def setOk (n : Int) (x : USet) : Bool := decide (x.N = n) && validS n x.W
theorem chk_t {n m : Nat} {E : List (Int × Int)} (h : Gd n m E) (P : List (Int × Int)) (hlP : P.length ≤ 9223372036854775807) (hmat : isMat E P = true) {a b : List Bool} (ha : a.length = n) (hb : b.length = m) :
    Reads Try.prog 24 false [.int .i64 n, .int .i64 m, .rsl 2 (E.map pairV), .rsl 2 (P.map pairV), .agg [.int .i64 n, .rsl 1 (words (setW a n))], .agg [.int .i64 m, .rsl 1 (words (setW b m))]] (.bool (covB a b E && decide (P.length = (memB a).length + (memB b).length))) := by
  have hn := h.hn
  have hm := h.hm
  have hE := h.hE
  have hEl := h.hl
  have hvr := mvalid_r n m E (by have := h.hl; omega)
  rw [h.valid] at hvr
  have hwa := setB_len (b := a) (by omega)
  have hwb := setB_len (b := b) (by omega)
  have va := validS_setW (b := a) (by omega)
  have vb := validS_setW (b := b) (by omega)
  rw [ha] at va hwa
  rw [hb] at vb hwb
  have hvx := bvalid_r n (setW a n) (by omega)
  have hvy := bvalid_r m (setW b m) (by omega)
  rw [va] at hvx
  rw [vb] at hvy
  have hpl := placed_good h P hlP hmat
  have hha := bhas_b a (by omega)
  have hhb := bhas_b b (by omega)
  have hca := count_b a (by omega)
  have hcb := count_b b (by omega)
  have hma := memB_le a
  have hmb := memB_le b
  unfold rowB at hca hcb
  rw [ha] at hha hca hma
  rw [hb] at hhb hcb hmb
  unfold graphS at hpl
  generalize setW a n = A at *
  generalize setW b m = B at *
  generalize (plc n m P).1 = L at *
  generalize (plc n m P).2 = R at *
  generalize nbR (nbOf n E) = X at *
  generalize hka : (memB a).length = ka at *
  generalize hkb : (memB b).length = kb at *
  refine Reads.body (rs := [.tmp 12]) Try.func24 rfl Try.ntmps24 rfl (by simp) ?_
  generalize hQr : retQ _ _ _ = Qr
  refine AW.seq fun K1 hK1 => ?_
  -- region 0
  refine AW.regionK 0 (fun _ => none) [0, 1, 2, 3, 10, 11] [10, 11] ?_
  simp only [go_sem, reduceIte, reduceCtorEq, Nat.reduceAdd, Nat.reduceMul, Nat.reduceEqDiff, Nat.reduceLT, Nat.reduceLeDiff, Nat.reduceSub, Nat.reducePow, Nat.reduceBEq, Int.reduceToNat, List.reduceReplicate]
  repeat with_reducible refine cj ?_ ?_
  all_goals try first | omega
  refine hK1 _ _ _ ?_; clear hK1
  refine AW.seq fun K2 hK2 => ?_
  refine AW.seq fun K3 hK3 => ?_
  -- region 1
  refine AW.regionK 0 (fun ii => if ii = 3 then some (.reads false (.bool true)) else if ii = 7 then some (.reads false (.bool true)) else if ii = 18 then some (.reads false (.bool true)) else none) [0, 1, 2, 3, 10, 11, 43] [10, 11] ?_
  simp only [go_sem, reduceIte, reduceCtorEq, Nat.reduceAdd, Nat.reduceMul, Nat.reduceEqDiff, Nat.reduceLT, Nat.reduceLeDiff, Nat.reduceSub, Nat.reducePow, Nat.reduceBEq, Int.reduceToNat, List.reduceReplicate]
  repeat with_reducible refine cj ?_ ?_
  all_goals try first | (first | exact hvr | exact hvx | exact hvy) | (intros; (repeat' apply And.intro) <;> first | assumption | (first | exact hvr | exact hvx | exact hvy)) | omega | exact ent (by kernel_rfl) | (intro hgd; exact absurd hgd (by decide)) | rfl | (simp only [go_sem, reduceIte, reduceCtorEq, Nat.reduceAdd, Nat.reduceMul, Nat.reduceEqDiff, Nat.reduceLT, Nat.reduceLeDiff, Nat.reduceSub, Nat.reducePow, Nat.reduceBEq, Int.reduceToNat, List.reduceReplicate]; done) | (intro _hgd; simp_all [go_sem]; done)
  refine hK3 _ _ _ ?_; clear hK3
  -- cond 1
  refine AW.cond rfl (by simp only [go_sem, reduceIte, reduceCtorEq, Nat.reduceAdd, Nat.reduceMul, Nat.reduceEqDiff, Nat.reduceLT, Nat.reduceLeDiff, Nat.reduceSub, Nat.reducePow, Nat.reduceBEq, Int.reduceToNat, List.reduceReplicate]) ?_ ?_
  · intro hb
    try simp only [hB, decide_eq_true_eq, decide_eq_false_iff_not] at hb
    exfalso; simp at hb
  · intro hb
    try simp only [hB, decide_eq_true_eq, decide_eq_false_iff_not] at hb
    refine AW.skip ?_
    refine hK2 _ _ _ ?_; clear hK2
    refine AW.seq fun K4 hK4 => ?_
    refine AW.seq fun K5 hK5 => ?_
    -- region 3
    refine AW.regionK 0 (fun ii => if ii = 4 then some (.upd [] (fun k => [(0, some ⟨k, k, 3, [[.rsl 1 X, .sl ⟨1, k, none⟩ 0 n none, .sl ⟨2, k, none⟩ 0 m none]]⟩), (1, some ⟨k, k, 1, ints L⟩), (2, some ⟨k, k, 1, ints R⟩)]) (fun k => .tup [.ptr ⟨0, k, none⟩ 0 0, .bool true])) else none) [2, 3, 10, 11, 14] [10, 11] ?_
    simp only [go_sem, reduceIte, reduceCtorEq, Nat.reduceAdd, Nat.reduceMul, Nat.reduceEqDiff, Nat.reduceLT, Nat.reduceLeDiff, Nat.reduceSub, Nat.reducePow, Nat.reduceBEq, Int.reduceToNat, List.reduceReplicate]
    repeat with_reducible refine cj ?_ ?_
    all_goals try first | (exact hpl) | omega | exact ent (by kernel_rfl)
    refine hK5 _ _ _ ?_; clear hK5
    refine AW.seq fun K6 hK6 => ?_
    -- region 4
    refine AW.regionK 0 (fun _ => none) [2, 3, 10, 11, 53] [10, 11] ?_
    simp only [go_sem, reduceIte, reduceCtorEq, Nat.reduceAdd, Nat.reduceMul, Nat.reduceEqDiff, Nat.reduceLT, Nat.reduceLeDiff, Nat.reduceSub, Nat.reducePow, Nat.reduceBEq, Int.reduceToNat, List.reduceReplicate]
    repeat with_reducible refine cj ?_ ?_
    all_goals try first | omega
    refine hK6 _ _ _ ?_; clear hK6
    -- cond 2
    refine AW.cond rfl (by simp only [go_sem, reduceIte, reduceCtorEq, Nat.reduceAdd, Nat.reduceMul, Nat.reduceEqDiff, Nat.reduceLT, Nat.reduceLeDiff, Nat.reduceSub, Nat.reducePow, Nat.reduceBEq, Int.reduceToNat, List.reduceReplicate]) ?_ ?_
    · intro hb
      try simp only [hB, decide_eq_true_eq, decide_eq_false_iff_not] at hb
      exfalso; simp at hb
    · intro hb
      try simp only [hB, decide_eq_true_eq, decide_eq_false_iff_not] at hb
      refine AW.skip ?_
      refine hK4 _ _ _ ?_; clear hK4
      refine AW.seq fun K7 hK7 => ?_
      refine AW.seq fun K8 hK8 => ?_
      -- region 6
      refine AW.regionK 0 (fun _ => none) [3, 10, 11, 54, 55, 56] [10, 11] ?_
      simp only [go_sem, reduceIte, reduceCtorEq, Nat.reduceAdd, Nat.reduceMul, Nat.reduceEqDiff, Nat.reduceLT, Nat.reduceLeDiff, Nat.reduceSub, Nat.reducePow, Nat.reduceBEq, Int.reduceToNat, List.reduceReplicate]
      repeat with_reducible refine cj ?_ ?_
      all_goals try first | omega
      refine hK8 _ _ _ ?_; clear hK8
      refine AW.block ?_
      -- loop 1
      refine AW.loopE (fun mm ee ss kk => ∃ (j g4 v4 g5 v5 : Nat), E.length - j = mm ∧ ee = [(3, .rsl 2 (P.map pairV)), (10, .ptr ⟨10, g4, none⟩ 0 0), (11, .ptr ⟨11, g5, none⟩ 0 0), (54, .rsl 2 (E.map pairV)), (55, .int .i64 E.length), (56, .int .i64 (j : Nat))] ∧ ss = [(10, some ⟨g4, v4, 2, [[.int .i64 n, .rsl 1 (words A)]]⟩), (11, some ⟨g5, v5, 2, [[.int .i64 m, .rsl 1 (words B)]]⟩)] ∧ (j ≤ E.length ∧ ((E.take j).all fun e => a.getD e.1.toNat false || b.getD e.2.toNat false) = true)) ?_ ?_
      · refine ⟨_, 0, ?_, ?_, ?_, ?_, rfl, ?henv, ?hstore, ?hst⟩
        case henv =>
          repeat' (first | rfl | refine env_cons ?_ ?_ | refine st_cons ?_ ?_ ?_ ?_ | refine int_eq ?_ | refine bool_eq ?_ | refine rsl_eq ?_ | refine osl_eq ?_ | refine sl_eq ?_ ?_ ?_ | refine ptr_eq ?_ ?_ ?_ | refine agg_eq ?_ | refine es_cons ?_ ?_ | refine row_cons ?_ ?_)
          all_goals (first | (simp; done) | omega | (simp; omega))
        case hstore =>
          repeat' (first | rfl | refine env_cons ?_ ?_ | refine st_cons ?_ ?_ ?_ ?_ | refine int_eq ?_ | refine bool_eq ?_ | refine rsl_eq ?_ | refine osl_eq ?_ | refine sl_eq ?_ ?_ ?_ | refine ptr_eq ?_ ?_ ?_ | refine agg_eq ?_ | refine es_cons ?_ ?_ | refine row_cons ?_ ?_)
          all_goals (first | (simp; done) | omega | (simp; omega))
        case hst =>
          exact ⟨by omega, by simp⟩
      rintro mm ee ss kk ⟨j, g4, v4, g5, v5, rfl, rfl, rfl, hI⟩
      generalize hQl1 : thenQ _ _ = Ql1
      obtain ⟨hj, hall⟩ := hI
      refine AW.seq fun K9 hK9 => ?_
      -- region 7
      refine AW.regionK 0 (fun _ => none) [3, 10, 11, 54, 55, 56, 57] [10, 11] ?_
      simp only [go_sem, reduceIte, reduceCtorEq, Nat.reduceAdd, Nat.reduceMul, Nat.reduceEqDiff, Nat.reduceLT, Nat.reduceLeDiff, Nat.reduceSub, Nat.reducePow, Nat.reduceBEq, Int.reduceToNat, List.reduceReplicate]
      repeat with_reducible refine cj ?_ ?_
      all_goals try first | omega
      refine hK9 _ _ _ ?_; clear hK9
      refine AW.seq fun K10 hK10 => ?_
      -- cond 3
      refine AW.cond rfl (by simp only [go_sem, reduceIte, reduceCtorEq, Nat.reduceAdd, Nat.reduceMul, Nat.reduceEqDiff, Nat.reduceLT, Nat.reduceLeDiff, Nat.reduceSub, Nat.reducePow, Nat.reduceBEq, Int.reduceToNat, List.reduceReplicate]) ?_ ?_
      · intro hb
        try simp only [hB, decide_eq_true_eq, decide_eq_false_iff_not] at hb
        obtain ⟨e, he⟩ := getI (l := E) (j := j) (by omega)
        have hge := getV (f := pairV) he
        have hr := edgeIn_iff.1 (hE e (List.mem_of_getElem? he))
        have hats := all_take_succ (p := fun e : Int × Int => a.getD e.1.toNat false || b.getD e.2.toNat false) he
        have h1 := hha e.1 hr.1 hr.2.1
        have h2 := hhb e.2 hr.2.2.1 hr.2.2.2
        refine AW.skip ?_
        refine hK10 _ _ _ ?_; clear hK10
        refine AW.seq fun K11 hK11 => ?_
        refine AW.block ?_
        refine AW.seq fun K12 hK12 => ?_
        -- region 8
        refine AW.regionK 0 (fun _ => none) [3, 10, 11, 16, 54, 55, 56] [10, 11, 16] ?_
        simp only [go_sem, reduceIte, reduceCtorEq, Nat.reduceAdd, Nat.reduceMul, Nat.reduceEqDiff, Nat.reduceLT, Nat.reduceLeDiff, Nat.reduceSub, Nat.reducePow, Nat.reduceBEq, Int.reduceToNat, List.reduceReplicate, hge, pairV]
        repeat with_reducible refine cj ?_ ?_
        all_goals try first | omega
        refine hK12 _ _ _ ?_; clear hK12
        refine AW.seq fun K13 hK13 => ?_
        -- region 9
        refine AW.regionK 0 (fun ii => if ii = 3 then some (.reads false (.bool (a.getD e.1.toNat false))) else if ii = 9 then some (.reads false (.bool (b.getD e.2.toNat false))) else none) [3, 10, 11, 54, 55, 56, 71] [10, 11] ?_
        simp only [go_sem, reduceIte, reduceCtorEq, Nat.reduceAdd, Nat.reduceMul, Nat.reduceEqDiff, Nat.reduceLT, Nat.reduceLeDiff, Nat.reduceSub, Nat.reducePow, Nat.reduceBEq, Int.reduceToNat, List.reduceReplicate]
        repeat with_reducible refine cj ?_ ?_
        all_goals try first | (first | exact h1 | exact h2 | (intro _; omega) | (intro _; exact ⟨by omega, by omega⟩)) | (intros; (repeat' apply And.intro) <;> first | assumption | (first | exact h1 | exact h2 | (intro _; omega) | (intro _; exact ⟨by omega, by omega⟩))) | omega | exact ent (by kernel_rfl) | (intro hgd; exact absurd hgd (by decide)) | rfl | (simp only [go_sem, reduceIte, reduceCtorEq, Nat.reduceAdd, Nat.reduceMul, Nat.reduceEqDiff, Nat.reduceLT, Nat.reduceLeDiff, Nat.reduceSub, Nat.reducePow, Nat.reduceBEq, Int.reduceToNat, List.reduceReplicate]; done) | (intro _hgd; simp_all [go_sem]; done)
        refine hK13 _ _ _ ?_; clear hK13
        -- cond 4
        refine AW.cond rfl (by simp only [go_sem, reduceIte, reduceCtorEq, Nat.reduceAdd, Nat.reduceMul, Nat.reduceEqDiff, Nat.reduceLT, Nat.reduceLeDiff, Nat.reduceSub, Nat.reducePow, Nat.reduceBEq, Int.reduceToNat, List.reduceReplicate]) ?_ ?_
        · intro hb
          try simp only [hB, decide_eq_true_eq, decide_eq_false_iff_not] at hb
          refine AW.seq fun K14 hK14 => ?_
          -- region 10
          refine AW.regionK 0 (fun _ => none) [12] [] ?_
          simp only [go_sem, reduceIte, reduceCtorEq, Nat.reduceAdd, Nat.reduceMul, Nat.reduceEqDiff, Nat.reduceLT, Nat.reduceLeDiff, Nat.reduceSub, Nat.reducePow, Nat.reduceBEq, Int.reduceToNat, List.reduceReplicate]
          repeat with_reducible refine cj ?_ ?_
          all_goals try first | omega
          refine hK14 _ _ _ ?_; clear hK14
          refine AW.ret ?_
          rw [← hQl1]
          rw [← hQr]
          simp only [go_sem, reduceIte, reduceCtorEq, Nat.reduceAdd, Nat.reduceMul, Nat.reduceEqDiff, Nat.reduceLT, Nat.reduceLeDiff, Nat.reduceSub, Nat.reducePow, Nat.reduceBEq, Int.reduceToNat, List.reduceReplicate]
          have hf : covB a b E = false := all_false_of he (by obtain ⟨q1, q2⟩ := hb; rw [q1, q2]; rfl)
          exact Wk.of_eq (by rw [hf]; rfl)
        · intro hb
          try simp only [hB, decide_eq_true_eq, decide_eq_false_iff_not] at hb
          refine AW.skip ?_
          refine hK11 _ _ _ ?_; clear hK11
          -- region 11
          refine AW.regionK 0 (fun _ => none) [3, 10, 11, 54, 55, 56] [10, 11] ?_
          simp only [go_sem, reduceIte, reduceCtorEq, Nat.reduceAdd, Nat.reduceMul, Nat.reduceEqDiff, Nat.reduceLT, Nat.reduceLeDiff, Nat.reduceSub, Nat.reducePow, Nat.reduceBEq, Int.reduceToNat, List.reduceReplicate]
          repeat with_reducible refine cj ?_ ?_
          all_goals try first | omega
          rw [← hQl1]
          change Exists _
          refine ⟨_, ?hm, j + 1, ?_, ?_, ?_, ?_, rfl, ?henv, ?hstore, ?hst⟩
          case henv =>
            repeat' (first | rfl | refine env_cons ?_ ?_ | refine st_cons ?_ ?_ ?_ ?_ | refine int_eq ?_ | refine bool_eq ?_ | refine rsl_eq ?_ | refine osl_eq ?_ | refine sl_eq ?_ ?_ ?_ | refine ptr_eq ?_ ?_ ?_ | refine agg_eq ?_ | refine es_cons ?_ ?_ | refine row_cons ?_ ?_)
            all_goals (first | (simp; done) | omega | (simp; omega))
          case hstore =>
            repeat' (first | rfl | refine env_cons ?_ ?_ | refine st_cons ?_ ?_ ?_ ?_ | refine int_eq ?_ | refine bool_eq ?_ | refine rsl_eq ?_ | refine osl_eq ?_ | refine sl_eq ?_ ?_ ?_ | refine ptr_eq ?_ ?_ ?_ | refine agg_eq ?_ | refine es_cons ?_ ?_ | refine row_cons ?_ ?_)
            all_goals (first | (simp; done) | omega | (simp; omega))
          case hst =>
            exact ⟨by omega, by rw [hats, hall]; revert hb; cases a.getD e.1.toNat false <;> cases b.getD e.2.toNat false <;> simp⟩
          case hm => omega
      · intro hb
        try simp only [hB, decide_eq_true_eq, decide_eq_false_iff_not] at hb
        refine AW.keep [3, 10, 11] [10, 11] ?_
        try simp only [go_sem, reduceIte, reduceCtorEq, Nat.reduceAdd, Nat.reduceMul, Nat.reduceEqDiff, Nat.reduceLT, Nat.reduceLeDiff, Nat.reduceSub, Nat.reducePow, Nat.reduceBEq, Int.reduceToNat, List.reduceReplicate]
        refine AW.exit ?_
        rw [← hQl1]
        refine hK7 _ _ _ ?_; clear hK7
        refine AW.seq fun K15 hK15 => ?_
        -- region 12
        refine AW.regionD mixed 0 (fun ii => if ii = 3 then some (.reads false (.int .i64 (ka : Nat))) else if ii = 5 then some (.reads false (.int .i64 (kb : Nat))) else none) [12] [] ?_
        simp only [go_sem, reduceIte, reduceCtorEq, Nat.reduceAdd, Nat.reduceMul, Nat.reduceEqDiff, Nat.reduceLT, Nat.reduceLeDiff, Nat.reduceSub, Nat.reducePow, Nat.reduceBEq, Int.reduceToNat, List.reduceReplicate]
        repeat with_reducible refine cj ?_ ?_
        all_goals try first | (first | exact hca | exact hcb) | omega | exact chk (by kernel_rfl) | exact ent (by kernel_rfl)
        refine hK15 _ _ _ ?_; clear hK15
        refine AW.ret ?_
        rw [← hQr]
        simp only [go_sem, reduceIte, reduceCtorEq, Nat.reduceAdd, Nat.reduceMul, Nat.reduceEqDiff, Nat.reduceLT, Nat.reduceLeDiff, Nat.reduceSub, Nat.reducePow, Nat.reduceBEq, Int.reduceToNat, List.reduceReplicate]
        have hcv : covB a b E = true := by rw [List.take_of_length_le (by omega)] at hall; exact hall
        exact Wk.of_eq (by rw [hcv, Bool.true_and]; congr 1; exact decide_eq_decide.2 (by omega))
theorem rchk_good {n m : Nat} {E : List (Int × Int)} (h : Gd n m E) (P : List (Int × Int)) (hlP : P.length ≤ 9223372036854775807) {a b : List Bool} (ha : a.length = n) (hb : b.length = m) :
    Reads Try.prog 25 false [.int .i64 n, .int .i64 m, .rsl 2 (E.map pairV), .rsl 2 (P.map pairV), .agg [.int .i64 n, .rsl 1 (words (setW a n))], .agg [.int .i64 m, .rsl 1 (words (setW b m))]] (.bool (isMat E P && covB a b E && decide (P.length = (memB a).length + (memB b).length))) := by
  have hn := h.hn
  have hm := h.hm
  have hvr := rvalid_r n m E (by have := h.hl; omega)
  rw [h.valid] at hvr
  have hia := isset_b a (by omega)
  have hib := isset_b b (by omega)
  have hcv := iscover_r h.hE (by have := h.hl; omega) ha hb hn hm
  have hmt := ismat_r hn hm E P h.hE (by have := h.hl; omega) hlP
  have hca := rcount_r a (by omega)
  have hcb := rcount_r b (by omega)
  have hma := memB_le a
  have hmb := memB_le b
  unfold rowB at hca hcb
  rw [ha] at hia hca hma
  rw [hb] at hib hcb hmb
  generalize setW a n = A at *
  generalize setW b m = B at *
  generalize hka : (memB a).length = ka at *
  generalize hkb : (memB b).length = kb at *
  refine Reads.body (rs := [.tmp 12]) Try.func25 rfl Try.ntmps25 rfl (by simp) ?_
  generalize hQr : retQ _ _ _ = Qr
  refine AW.seq fun K1 hK1 => ?_
  -- region 0
  refine AW.regionK 0 (fun _ => none) [0, 1, 2, 3, 10, 11] [10, 11] ?_
  simp only [go_sem, reduceIte, reduceCtorEq, Nat.reduceAdd, Nat.reduceMul, Nat.reduceEqDiff, Nat.reduceLT, Nat.reduceLeDiff, Nat.reduceSub, Nat.reducePow, Nat.reduceBEq, Int.reduceToNat, List.reduceReplicate]
  repeat with_reducible refine cj ?_ ?_
  all_goals try first | omega
  refine hK1 _ _ _ ?_; clear hK1
  refine AW.seq fun K2 hK2 => ?_
  refine AW.seq fun K3 hK3 => ?_
  -- region 1
  refine AW.regionK 0 (fun ii => if ii = 3 then some (.reads false (.bool true)) else if ii = 8 then some (.reads false (.bool true)) else if ii = 14 then some (.reads false (.bool true)) else none) [0, 1, 2, 3, 10, 11, 29] [10, 11] ?_
  simp only [go_sem, reduceIte, reduceCtorEq, Nat.reduceAdd, Nat.reduceMul, Nat.reduceEqDiff, Nat.reduceLT, Nat.reduceLeDiff, Nat.reduceSub, Nat.reducePow, Nat.reduceBEq, Int.reduceToNat, List.reduceReplicate]
  repeat with_reducible refine cj ?_ ?_
  all_goals try first | (first | exact hvr | exact hia | exact hib) | (intros; (repeat' apply And.intro) <;> first | assumption | (first | exact hvr | exact hia | exact hib)) | omega | exact ent (by kernel_rfl) | (intro hgd; exact absurd hgd (by decide)) | rfl | (simp only [go_sem, reduceIte, reduceCtorEq, Nat.reduceAdd, Nat.reduceMul, Nat.reduceEqDiff, Nat.reduceLT, Nat.reduceLeDiff, Nat.reduceSub, Nat.reducePow, Nat.reduceBEq, Int.reduceToNat, List.reduceReplicate]; done) | (intro _hgd; simp_all [go_sem]; done)
  refine hK3 _ _ _ ?_; clear hK3
  -- cond 1
  refine AW.cond rfl (by simp only [go_sem, reduceIte, reduceCtorEq, Nat.reduceAdd, Nat.reduceMul, Nat.reduceEqDiff, Nat.reduceLT, Nat.reduceLeDiff, Nat.reduceSub, Nat.reducePow, Nat.reduceBEq, Int.reduceToNat, List.reduceReplicate]) ?_ ?_
  · intro hb
    try simp only [hB, decide_eq_true_eq, decide_eq_false_iff_not] at hb
    exfalso; simp at hb
  · intro hb
    try simp only [hB, decide_eq_true_eq, decide_eq_false_iff_not] at hb
    refine AW.skip ?_
    refine hK2 _ _ _ ?_; clear hK2
    refine AW.seq fun K4 hK4 => ?_
    -- region 3
    refine AW.regionD mixed 0 (fun ii => if ii = 4 then some (.reads false (.bool (isMat E P))) else if ii = 9 then some (.reads false (.bool (covB a b E))) else if ii = 15 then some (.reads false (.int .i64 (ka : Nat))) else if ii = 17 then some (.reads false (.int .i64 (kb : Nat))) else none) [12] [] ?_
    simp only [go_sem, reduceIte, reduceCtorEq, Nat.reduceAdd, Nat.reduceMul, Nat.reduceEqDiff, Nat.reduceLT, Nat.reduceLeDiff, Nat.reduceSub, Nat.reducePow, Nat.reduceBEq, Int.reduceToNat, List.reduceReplicate]
    repeat with_reducible refine cj ?_ ?_
    all_goals try first | (first | exact hmt | exact hcv | exact hca | exact hcb | omega) | (intros; (repeat' apply And.intro) <;> first | assumption | (first | exact hmt | exact hcv | exact hca | exact hcb | omega)) | omega | exact chk (by kernel_rfl) | exact ent (by kernel_rfl) | (intro hgd; exact absurd hgd (by decide)) | rfl | (simp only [go_sem, reduceIte, reduceCtorEq, Nat.reduceAdd, Nat.reduceMul, Nat.reduceEqDiff, Nat.reduceLT, Nat.reduceLeDiff, Nat.reduceSub, Nat.reducePow, Nat.reduceBEq, Int.reduceToNat, List.reduceReplicate]; done) | (intro _hgd; simp_all [go_sem]; done)
    refine hK4 _ _ _ ?_; clear hK4
    refine AW.ret ?_
    rw [← hQr]
    simp only [go_sem, reduceIte, reduceCtorEq, Nat.reduceAdd, Nat.reduceMul, Nat.reduceEqDiff, Nat.reduceLT, Nat.reduceLeDiff, Nat.reduceSub, Nat.reducePow, Nat.reduceBEq, Int.reduceToNat, List.reduceReplicate]
    exact Wk.of_eq (by congr 2; exact decide_eq_decide.2 (by omega))
end Go.Proofs.M

namespace Go.Proofs.M
open Go.AM Go
set_option maxRecDepth 100000
set_option maxHeartbeats 2000000
theorem row_of {n : Nat} {x : USet} (hok : okW x.W) (h : setOk n x = true) : x.N = n ∧ ∃ a : List Bool, a.length = n ∧ x.W = setW a n := by
  unfold setOk at h
  simp only [Bool.and_eq_true, decide_eq_true_eq] at h
  obtain ⟨a, h1, h2⟩ := setW_of hok h.2
  refine ⟨h.1, a, by omega, ?_⟩
  rw [h2]; congr 1; omega
def greatB (n m : Int) (E : List (Int × Int)) : Bool := decide (60 < n) && decide (n ≤ 512) || decide (60 < m) && decide (m ≤ 512) || (decide (400 < (E.length : Int)) && decide ((E.length : Int) ≤ 2000)) || decide (2100 < (E.length : Int))
theorem great_b (n m : Int) (E : List (Int × Int)) (hl : E.length ≤ 9223372036854775807) : Reads Try.prog 10 false [.int .i64 n, .int .i64 m, .rsl 2 (E.map pairV)] (.bool (greatB n m E)) := great_r n m E hl
theorem Gd.rchS {n m : Nat} {E : List (Int × Int)} (h : Gd n m E) : Rch n m E (maxLR (nbOf n E) n m n).1 (maxLR (nbOf n E) n m n).2 (fun i => (refM n m E).1.getD i false) (fun i => (refM n m E).2.getD i false) :=
  ⟨h.max.1, h.max.2, h.hE, h.ref.2.2.1, h.ref.2.2.2⟩
theorem cvL_get {n m : Nat} {E : List (Int × Int)} (h : Gd n m E) {i : Nat} (hi : i < n) : (cvL n m E).getD i false = !(refM n m E).1.getD i false := by
  have hl := h.ref.1
  rw [cvL_eq h, List.getD_eq_getElem?_getD, List.getD_eq_getElem?_getD, List.getElem?_map, List.getElem?_eq_getElem (by omega)]; rfl
theorem maxP_cnt {n m : Nat} {E : List (Int × Int)} (h : Gd n m E) : (maxP n m E).length = cnt (pL (maxLR (nbOf n E) n m n).1) n := prsL_len h.max.1.hL
theorem kon_cov {n m : Nat} {E : List (Int × Int)} (h : Gd n m E) : covB (cvL n m E) (cvR n m E) E = true := by
  unfold covB
  rw [List.all_eq_true]
  intro e he
  have hr := edgeIn_iff.1 (h.hE e he)
  rw [cvL_get h (by omega), cvR_eq h]
  have := h.rchS.edge he
  cases hs : (refM n m E).1.getD e.1.toNat false with
  | false => rfl
  | true => rw [this hs]; rfl
theorem kon_len {n m : Nat} {E : List (Int × Int)} (h : Gd n m E) : (maxP n m E).length = (memB (cvL n m E)).length + (memB (cvR n m E)).length := by
  rw [maxP_cnt h, ← h.rchS.cover, cnt_memB, cnt_memB, cvL_len, cvR_len, cvR_eq h]
  congr 1
  exact cnt_congr fun i hi => (cvL_get h hi).symm
theorem covB_iff {a b : List Bool} {E : List (Int × Int)} : covB a b E = true ↔ ∀ e ∈ E, a.getD e.1.toNat false = true ∨ b.getD e.2.toNat false = true := by
  unfold covB; rw [List.all_eq_true]; simp
theorem kon_weak {n m : Nat} {E P : List (Int × Int)} (h : Gd n m E) (hP : isMat E P = true) {a b : List Bool} (ha : a.length = n) (hb : b.length = m) (hc : covB a b E = true) : P.length ≤ (memB a).length + (memB b).length := by
  have := weak (P := P) h.hE hP (fun i => a.getD i false) (fun i => b.getD i false) (covB_iff.1 hc)
  rw [cnt_memB, cnt_memB, ha, hb]; exact this
theorem kon_most {n m : Nat} {E P : List (Int × Int)} (h : Gd n m E) (hP : isMat E P = true) : P.length ≤ (maxP n m E).length := by
  rw [maxP_cnt h]; exact h.rchS.most hP
theorem kon_least {n m : Nat} {E : List (Int × Int)} (h : Gd n m E) {a b : List Bool} (ha : a.length = n) (hb : b.length = m) (hc : covB a b E = true) (hk : (memB a).length + (memB b).length ≤ (maxP n m E).length) {r : Nat} (hr : (cvR n m E).getD r false = true) : b.getD r false = true := by
  rw [maxP_cnt h, cnt_memB, cnt_memB, ha, hb] at hk
  rw [cvR_eq h] at hr
  exact h.rchS.least (A := fun i => a.getD i false) (B := fun i => b.getD i false) (covB_iff.1 hc) hk hr
theorem kon_chk {n m : Nat} {E : List (Int × Int)} (h : Gd n m E) : Reads Try.prog 24 false [.int .i64 n, .int .i64 m, .rsl 2 (E.map pairV), .rsl 2 ((maxP n m E).map pairV), .agg [.int .i64 n, .rsl 1 (words (setW (cvL n m E) n))], .agg [.int .i64 m, .rsl 1 (words (setW (cvR n m E) m))]] (.bool true) ∧
    Reads Try.prog 25 false [.int .i64 n, .int .i64 m, .rsl 2 (E.map pairV), .rsl 2 ((maxP n m E).map pairV), .agg [.int .i64 n, .rsl 1 (words (setW (cvL n m E) n))], .agg [.int .i64 m, .rsl 1 (words (setW (cvR n m E) m))]] (.bool true) := by
  have hle := maxP_le n m E
  have hn := h.hn
  have h1 := chk_t h (maxP n m E) (by omega) (maxP_mat h) (cvL_len n m E) (cvR_len n m E)
  have h2 := rchk_good h (maxP n m E) (by omega) (cvL_len n m E) (cvR_len n m E)
  rw [maxP_mat h, kon_cov h, ← kon_len h] at h2
  rw [kon_cov h, ← kon_len h] at h1
  exact ⟨by simpa using h1, by simpa using h2⟩
theorem kon_bad (n m : Int) (E P : List (Int × Int)) (x y : USet) (hl : E.length ≤ 9223372036854775807) (hlP : P.length ≤ 9223372036854775807) (hx : x.W.length ≤ 9223372036854775807) (hy : y.W.length ≤ 9223372036854775807) (hv : validM n m E = false) :
    Reads Try.prog 6 false [.int .i64 n, .int .i64 m, .rsl 2 (E.map pairV), .rsl 2 (P.map pairV), .agg [.int .i64 x.N, .rsl 1 (words x.W)], .agg [.int .i64 y.N, .rsl 1 (words y.W)]] (.bool true) := by
  have haw := awake_r
  have hgr := great_b n m E hl
  have hxl := words_len x.W
  have hyl := words_len y.W
  have h1 := max_bad n m E hl hv
  have h2 := cover_bad n m E hl hv
  have h4 := rvalid_r n m E hl
  rw [hv] at h4
  refine Reads.body (rs := [.tmp 12]) Try.func6 rfl Try.ntmps6 rfl (by simp) ?_
  generalize hQr : retQ _ _ _ = Qr
  refine AW.seq fun K1 hK1 => ?_
  -- region 0
  refine AW.regionK 0 (fun _ => none) [0, 1, 2, 3, 10, 11] [10, 11] ?_
  simp only [go_sem, reduceIte, reduceCtorEq, Nat.reduceAdd, Nat.reduceMul, Nat.reduceEqDiff, Nat.reduceLT, Nat.reduceLeDiff, Nat.reduceSub, Nat.reducePow, Nat.reduceBEq, Int.reduceToNat, List.reduceReplicate, hxl, hyl]
  repeat with_reducible refine cj ?_ ?_
  all_goals try first | omega
  refine hK1 _ _ _ ?_; clear hK1
  refine AW.seq fun K2 hK2 => ?_
  refine AW.seq fun K3 hK3 => ?_
  -- region 1
  refine AW.regionK 0 (fun ii => if ii = 0 then some (.reads false (.bool true)) else none) [0, 1, 2, 3, 10, 11, 21] [10, 11] ?_
  simp only [go_sem, reduceIte, reduceCtorEq, Nat.reduceAdd, Nat.reduceMul, Nat.reduceEqDiff, Nat.reduceLT, Nat.reduceLeDiff, Nat.reduceSub, Nat.reducePow, Nat.reduceBEq, Int.reduceToNat, List.reduceReplicate, hxl, hyl]
  repeat with_reducible refine cj ?_ ?_
  all_goals try first | (exact haw) | omega | exact ent (by kernel_rfl)
  refine hK3 _ _ _ ?_; clear hK3
  -- cond 1
  refine AW.cond rfl (by simp only [go_sem, reduceIte, reduceCtorEq, Nat.reduceAdd, Nat.reduceMul, Nat.reduceEqDiff, Nat.reduceLT, Nat.reduceLeDiff, Nat.reduceSub, Nat.reducePow, Nat.reduceBEq, Int.reduceToNat, List.reduceReplicate]) ?_ ?_
  · intro hb
    try simp only [hB, decide_eq_true_eq, decide_eq_false_iff_not] at hb
    simp at hb
  · intro hb
    try simp only [hB, decide_eq_true_eq, decide_eq_false_iff_not] at hb
    refine AW.skip ?_
    refine hK2 _ _ _ ?_; clear hK2
    refine AW.seq fun K4 hK4 => ?_
    refine AW.seq fun K5 hK5 => ?_
    -- region 3
    refine AW.regionK 0 (fun ii => if ii = 3 then some (.reads false (.bool (greatB n m E))) else none) [0, 1, 2, 3, 10, 11, 42] [10, 11] ?_
    simp only [go_sem, reduceIte, reduceCtorEq, Nat.reduceAdd, Nat.reduceMul, Nat.reduceEqDiff, Nat.reduceLT, Nat.reduceLeDiff, Nat.reduceSub, Nat.reducePow, Nat.reduceBEq, Int.reduceToNat, List.reduceReplicate, hxl, hyl]
    repeat with_reducible refine cj ?_ ?_
    all_goals try first | (exact hgr) | (intros; (repeat' apply And.intro) <;> first | assumption | (exact hgr)) | omega | exact ent (by kernel_rfl) | (intro hgd; exact absurd hgd (by decide)) | rfl | (simp only [go_sem, reduceIte, reduceCtorEq, Nat.reduceAdd, Nat.reduceMul, Nat.reduceEqDiff, Nat.reduceLT, Nat.reduceLeDiff, Nat.reduceSub, Nat.reducePow, Nat.reduceBEq, Int.reduceToNat, List.reduceReplicate, hxl, hyl]; done) | (intro _hgd; simp_all [go_sem]; done)
    refine hK5 _ _ _ ?_; clear hK5
    -- cond 2
    refine AW.cond rfl (by simp only [go_sem, reduceIte, reduceCtorEq, Nat.reduceAdd, Nat.reduceMul, Nat.reduceEqDiff, Nat.reduceLT, Nat.reduceLeDiff, Nat.reduceSub, Nat.reducePow, Nat.reduceBEq, Int.reduceToNat, List.reduceReplicate]) ?_ ?_
    · intro hb
      try simp only [hB, decide_eq_true_eq, decide_eq_false_iff_not] at hb
      refine AW.seq fun K6 hK6 => ?_
      -- region 4
      refine AW.regionK 0 (fun _ => none) [12] [] ?_
      simp only [go_sem, reduceIte, reduceCtorEq, Nat.reduceAdd, Nat.reduceMul, Nat.reduceEqDiff, Nat.reduceLT, Nat.reduceLeDiff, Nat.reduceSub, Nat.reducePow, Nat.reduceBEq, Int.reduceToNat, List.reduceReplicate, hxl, hyl]
      repeat with_reducible refine cj ?_ ?_
      all_goals try first | omega
      refine hK6 _ _ _ ?_; clear hK6
      refine AW.ret ?_
      rw [← hQr]
      simp only [go_sem, reduceIte, reduceCtorEq, Nat.reduceAdd, Nat.reduceMul, Nat.reduceEqDiff, Nat.reduceLT, Nat.reduceLeDiff, Nat.reduceSub, Nat.reducePow, Nat.reduceBEq, Int.reduceToNat, List.reduceReplicate, hxl, hyl]
      exact Wk.refl _
    · intro hb
      try simp only [hB, decide_eq_true_eq, decide_eq_false_iff_not] at hb
      refine AW.skip ?_
      refine hK4 _ _ _ ?_; clear hK4
      refine AW.seq fun K7 hK7 => ?_
      -- region 5
      refine AW.regionK 0 (fun ii => if ii = 3 then some (.reads false (.tup [.nilsl, .int .i64 1])) else none) [0, 1, 2, 3, 10, 11, 13, 14] [10, 11] ?_
      simp only [go_sem, reduceIte, reduceCtorEq, Nat.reduceAdd, Nat.reduceMul, Nat.reduceEqDiff, Nat.reduceLT, Nat.reduceLeDiff, Nat.reduceSub, Nat.reducePow, Nat.reduceBEq, Int.reduceToNat, List.reduceReplicate, hxl, hyl]
      repeat with_reducible refine cj ?_ ?_
      all_goals try first | (exact h1) | omega | exact ent (by kernel_rfl)
      refine hK7 _ _ _ ?_; clear hK7
      refine AW.seq fun K8 hK8 => ?_
      -- region 6
      refine AW.regionK 0 (fun ii => if ii = 3 then some (.reads false (.tup [.agg [.int .i64 0, .nilsl], .agg [.int .i64 0, .nilsl], .int .i64 1])) else none) [0, 1, 2, 3, 10, 11, 13, 14, 15, 16, 17] [10, 11, 15, 16] ?_
      simp only [go_sem, reduceIte, reduceCtorEq, Nat.reduceAdd, Nat.reduceMul, Nat.reduceEqDiff, Nat.reduceLT, Nat.reduceLeDiff, Nat.reduceSub, Nat.reducePow, Nat.reduceBEq, Int.reduceToNat, List.reduceReplicate, hxl, hyl]
      repeat with_reducible refine cj ?_ ?_
      all_goals try first | (exact h2) | omega | exact ent (by kernel_rfl)
      refine hK8 _ _ _ ?_; clear hK8
      refine AW.seq fun K9 hK9 => ?_
      refine AW.seq fun K10 hK10 => ?_
      -- region 7
      refine AW.regionK 0 (fun ii => if ii = 7 then some (.reads false (.bool false)) else none) [0, 1, 2, 3, 10, 11, 13, 14, 15, 16, 17, 67] [10, 11, 15, 16] ?_
      simp only [go_sem, reduceIte, reduceCtorEq, Nat.reduceAdd, Nat.reduceMul, Nat.reduceEqDiff, Nat.reduceLT, Nat.reduceLeDiff, Nat.reduceSub, Nat.reducePow, Nat.reduceBEq, Int.reduceToNat, List.reduceReplicate, hxl, hyl]
      repeat with_reducible refine cj ?_ ?_
      all_goals try first | (exact h4) | (intros; (repeat' apply And.intro) <;> first | assumption | (exact h4)) | omega | exact ent (by kernel_rfl) | (intro hgd; exact absurd hgd (by decide)) | rfl | (simp only [go_sem, reduceIte, reduceCtorEq, Nat.reduceAdd, Nat.reduceMul, Nat.reduceEqDiff, Nat.reduceLT, Nat.reduceLeDiff, Nat.reduceSub, Nat.reducePow, Nat.reduceBEq, Int.reduceToNat, List.reduceReplicate, hxl, hyl]; done) | (intro _hgd; simp_all [go_sem]; done)
      refine hK10 _ _ _ ?_; clear hK10
      -- cond 3
      refine AW.cond rfl (by simp only [go_sem, reduceIte, reduceCtorEq, Nat.reduceAdd, Nat.reduceMul, Nat.reduceEqDiff, Nat.reduceLT, Nat.reduceLeDiff, Nat.reduceSub, Nat.reducePow, Nat.reduceBEq, Int.reduceToNat, List.reduceReplicate]) ?_ ?_
      · intro hb
        try simp only [hB, decide_eq_true_eq, decide_eq_false_iff_not] at hb
        refine AW.seq fun K11 hK11 => ?_
        -- region 8
        refine AW.regionK 0 (fun _ => none) [12] [] ?_
        simp only [go_sem, reduceIte, reduceCtorEq, Nat.reduceAdd, Nat.reduceMul, Nat.reduceEqDiff, Nat.reduceLT, Nat.reduceLeDiff, Nat.reduceSub, Nat.reducePow, Nat.reduceBEq, Int.reduceToNat, List.reduceReplicate, hxl, hyl]
        repeat with_reducible refine cj ?_ ?_
        all_goals try first | omega | (intros; (repeat' apply And.intro) <;> first | assumption | omega | decide) | (intro hgd; exact absurd hgd (by decide)) | rfl | (simp only [go_sem, reduceIte, reduceCtorEq, Nat.reduceAdd, Nat.reduceMul, Nat.reduceEqDiff, Nat.reduceLT, Nat.reduceLeDiff, Nat.reduceSub, Nat.reducePow, Nat.reduceBEq, Int.reduceToNat, List.reduceReplicate, hxl, hyl]; done) | (intro _hgd; simp_all [go_sem]; done)
        refine hK11 _ _ _ ?_; clear hK11
        refine AW.ret ?_
        rw [← hQr]
        simp only [go_sem, reduceIte, reduceCtorEq, Nat.reduceAdd, Nat.reduceMul, Nat.reduceEqDiff, Nat.reduceLT, Nat.reduceLeDiff, Nat.reduceSub, Nat.reducePow, Nat.reduceBEq, Int.reduceToNat, List.reduceReplicate, hxl, hyl]
        exact Wk.refl _
      · intro hb
        try simp only [hB, decide_eq_true_eq, decide_eq_false_iff_not] at hb
        exfalso; simp at hb
theorem kon_t {n m : Nat} {E : List (Int × Int)} (h : Gd n m E) (P : List (Int × Int)) (x y : USet) (hlP : P.length ≤ 9223372036854775807) (hx : x.W.length ≤ 9223372036854775807) (hy : y.W.length ≤ 9223372036854775807) (hox : okW x.W) (hoy : okW y.W) (hset : (setOk n x && setOk m y) = true) :
    Reads Try.prog 6 false [.int .i64 n, .int .i64 m, .rsl 2 (E.map pairV), .rsl 2 (P.map pairV), .agg [.int .i64 x.N, .rsl 1 (words x.W)], .agg [.int .i64 y.N, .rsl 1 (words y.W)]] (.bool true) := by
  have hl : E.length ≤ 9223372036854775807 := by have := h.hl; omega
  have haw := awake_r
  have hgr := great_b n m E hl
  have hxl := words_len x.W
  have hyl := words_len y.W
  have hn := h.hn
  have hm := h.hm
  have h1 := max_good h.valid
  have h2 := cover_good h
  have h4 := rvalid_r n m E hl
  rw [h.valid] at h4
  have hck := kon_chk h
  have hma := ismat_r hn hm E P h.hE hl hlP
  have hmost := fun hP => kon_most h (P := P) hP
  have hle := maxP_le n m E
  rw [Bool.and_eq_true] at hset
  obtain ⟨e1, a, ha, e2⟩ := row_of hox hset.1
  obtain ⟨e3, b, hb0, e4⟩ := row_of hoy hset.2
  have hia := isset_b a (by omega)
  have hib := isset_b b (by omega)
  have hcv := iscover_r h.hE hl ha hb0 hn hm
  have hca := rcount_r a (by omega)
  have hcb := rcount_r b (by omega)
  have hba := memB_le a
  have hbb := memB_le b
  have hwk := kon_weak h (maxP_mat h) ha hb0
  have hlst := fun hc hk r hr => kon_least h ha hb0 hc hk (r := r) hr
  have hh1 := rhas_in (cvR n m E) (by rw [cvR_len]; exact hm)
  have hh2 := rhas_in b (by omega)
  unfold rowB at hca hcb hh1 hh2
  rw [cvR_len] at hh1
  rw [ha] at hia hca hba
  rw [hb0] at hib hcb hbb hh2
  rw [e2] at hxl hx
  rw [e4] at hyl hy
  rw [e1, e2, e3, e4]
  generalize setW a n = A at *
  generalize setW b m = B at *
  generalize setW (cvR n m E) m = C at *
  generalize setW (cvL n m E) n = D at *
  generalize cvR n m E = cr at *
  generalize maxP n m E = Q at *
  generalize hka : (memB a).length = ka at *
  generalize hkb : (memB b).length = kb at *
  refine Reads.body (rs := [.tmp 12]) Try.func6 rfl Try.ntmps6 rfl (by simp) ?_
  generalize hQr : retQ _ _ _ = Qr
  refine AW.seq fun K1 hK1 => ?_
  -- region 0
  refine AW.regionK 0 (fun _ => none) [0, 1, 2, 3, 10, 11] [10, 11] ?_
  simp only [go_sem, reduceIte, reduceCtorEq, Nat.reduceAdd, Nat.reduceMul, Nat.reduceEqDiff, Nat.reduceLT, Nat.reduceLeDiff, Nat.reduceSub, Nat.reducePow, Nat.reduceBEq, Int.reduceToNat, List.reduceReplicate, hxl, hyl]
  repeat with_reducible refine cj ?_ ?_
  all_goals try first | omega
  refine hK1 _ _ _ ?_; clear hK1
  refine AW.seq fun K2 hK2 => ?_
  refine AW.seq fun K3 hK3 => ?_
  -- region 1
  refine AW.regionK 0 (fun ii => if ii = 0 then some (.reads false (.bool true)) else none) [0, 1, 2, 3, 10, 11, 21] [10, 11] ?_
  simp only [go_sem, reduceIte, reduceCtorEq, Nat.reduceAdd, Nat.reduceMul, Nat.reduceEqDiff, Nat.reduceLT, Nat.reduceLeDiff, Nat.reduceSub, Nat.reducePow, Nat.reduceBEq, Int.reduceToNat, List.reduceReplicate, hxl, hyl]
  repeat with_reducible refine cj ?_ ?_
  all_goals try first | (exact haw) | omega | exact ent (by kernel_rfl)
  refine hK3 _ _ _ ?_; clear hK3
  -- cond 1
  refine AW.cond rfl (by simp only [go_sem, reduceIte, reduceCtorEq, Nat.reduceAdd, Nat.reduceMul, Nat.reduceEqDiff, Nat.reduceLT, Nat.reduceLeDiff, Nat.reduceSub, Nat.reducePow, Nat.reduceBEq, Int.reduceToNat, List.reduceReplicate]) ?_ ?_
  · intro hb
    try simp only [hB, decide_eq_true_eq, decide_eq_false_iff_not] at hb
    simp at hb
  · intro hb
    try simp only [hB, decide_eq_true_eq, decide_eq_false_iff_not] at hb
    refine AW.skip ?_
    refine hK2 _ _ _ ?_; clear hK2
    refine AW.seq fun K4 hK4 => ?_
    refine AW.seq fun K5 hK5 => ?_
    -- region 3
    refine AW.regionK 0 (fun ii => if ii = 3 then some (.reads false (.bool (greatB n m E))) else none) [0, 1, 2, 3, 10, 11, 42] [10, 11] ?_
    simp only [go_sem, reduceIte, reduceCtorEq, Nat.reduceAdd, Nat.reduceMul, Nat.reduceEqDiff, Nat.reduceLT, Nat.reduceLeDiff, Nat.reduceSub, Nat.reducePow, Nat.reduceBEq, Int.reduceToNat, List.reduceReplicate, hxl, hyl]
    repeat with_reducible refine cj ?_ ?_
    all_goals try first | (exact hgr) | (intros; (repeat' apply And.intro) <;> first | assumption | (exact hgr)) | omega | exact ent (by kernel_rfl) | (intro hgd; exact absurd hgd (by decide)) | rfl | (simp only [go_sem, reduceIte, reduceCtorEq, Nat.reduceAdd, Nat.reduceMul, Nat.reduceEqDiff, Nat.reduceLT, Nat.reduceLeDiff, Nat.reduceSub, Nat.reducePow, Nat.reduceBEq, Int.reduceToNat, List.reduceReplicate, hxl, hyl]; done) | (intro _hgd; simp_all [go_sem]; done)
    refine hK5 _ _ _ ?_; clear hK5
    -- cond 2
    refine AW.cond rfl (by simp only [go_sem, reduceIte, reduceCtorEq, Nat.reduceAdd, Nat.reduceMul, Nat.reduceEqDiff, Nat.reduceLT, Nat.reduceLeDiff, Nat.reduceSub, Nat.reducePow, Nat.reduceBEq, Int.reduceToNat, List.reduceReplicate]) ?_ ?_
    · intro hb
      try simp only [hB, decide_eq_true_eq, decide_eq_false_iff_not] at hb
      refine AW.seq fun K6 hK6 => ?_
      -- region 4
      refine AW.regionK 0 (fun _ => none) [12] [] ?_
      simp only [go_sem, reduceIte, reduceCtorEq, Nat.reduceAdd, Nat.reduceMul, Nat.reduceEqDiff, Nat.reduceLT, Nat.reduceLeDiff, Nat.reduceSub, Nat.reducePow, Nat.reduceBEq, Int.reduceToNat, List.reduceReplicate, hxl, hyl]
      repeat with_reducible refine cj ?_ ?_
      all_goals try first | omega
      refine hK6 _ _ _ ?_; clear hK6
      refine AW.ret ?_
      rw [← hQr]
      simp only [go_sem, reduceIte, reduceCtorEq, Nat.reduceAdd, Nat.reduceMul, Nat.reduceEqDiff, Nat.reduceLT, Nat.reduceLeDiff, Nat.reduceSub, Nat.reducePow, Nat.reduceBEq, Int.reduceToNat, List.reduceReplicate, hxl, hyl]
      exact Wk.refl _
    · intro hb
      try simp only [hB, decide_eq_true_eq, decide_eq_false_iff_not] at hb
      refine AW.skip ?_
      refine hK4 _ _ _ ?_; clear hK4
      refine AW.seq fun K7 hK7 => ?_
      -- region 5
      refine AW.regionK 0 (fun ii => if ii = 3 then some (.reads false (.tup [.rsl 2 (Q.map pairV), .int .i64 0])) else none) [0, 1, 2, 3, 10, 11, 13, 14] [10, 11] ?_
      simp only [go_sem, reduceIte, reduceCtorEq, Nat.reduceAdd, Nat.reduceMul, Nat.reduceEqDiff, Nat.reduceLT, Nat.reduceLeDiff, Nat.reduceSub, Nat.reducePow, Nat.reduceBEq, Int.reduceToNat, List.reduceReplicate, hxl, hyl]
      repeat with_reducible refine cj ?_ ?_
      all_goals try first | (exact h1) | omega | exact ent (by kernel_rfl)
      refine hK7 _ _ _ ?_; clear hK7
      refine AW.seq fun K8 hK8 => ?_
      -- region 6
      refine AW.regionK 0 (fun ii => if ii = 3 then some (.reads false (.tup [.agg [.int .i64 n, .rsl 1 (words D)], .agg [.int .i64 m, .rsl 1 (words C)], .int .i64 0])) else none) [0, 1, 2, 3, 10, 11, 13, 14, 15, 16, 17] [10, 11, 15, 16] ?_
      simp only [go_sem, reduceIte, reduceCtorEq, Nat.reduceAdd, Nat.reduceMul, Nat.reduceEqDiff, Nat.reduceLT, Nat.reduceLeDiff, Nat.reduceSub, Nat.reducePow, Nat.reduceBEq, Int.reduceToNat, List.reduceReplicate, hxl, hyl]
      repeat with_reducible refine cj ?_ ?_
      all_goals try first | (exact h2) | omega | exact ent (by kernel_rfl)
      refine hK8 _ _ _ ?_; clear hK8
      refine AW.seq fun K9 hK9 => ?_
      refine AW.seq fun K10 hK10 => ?_
      -- region 7
      refine AW.regionK 0 (fun ii => if ii = 7 then some (.reads false (.bool true)) else none) [0, 1, 2, 3, 10, 11, 13, 14, 15, 16, 17, 67] [10, 11, 15, 16] ?_
      simp only [go_sem, reduceIte, reduceCtorEq, Nat.reduceAdd, Nat.reduceMul, Nat.reduceEqDiff, Nat.reduceLT, Nat.reduceLeDiff, Nat.reduceSub, Nat.reducePow, Nat.reduceBEq, Int.reduceToNat, List.reduceReplicate, hxl, hyl]
      repeat with_reducible refine cj ?_ ?_
      all_goals try first | (exact h4) | (intros; (repeat' apply And.intro) <;> first | assumption | (exact h4)) | omega | exact ent (by kernel_rfl) | (intro hgd; exact absurd hgd (by decide)) | rfl | (simp only [go_sem, reduceIte, reduceCtorEq, Nat.reduceAdd, Nat.reduceMul, Nat.reduceEqDiff, Nat.reduceLT, Nat.reduceLeDiff, Nat.reduceSub, Nat.reducePow, Nat.reduceBEq, Int.reduceToNat, List.reduceReplicate, hxl, hyl]; done) | (intro _hgd; simp_all [go_sem]; done)
      refine hK10 _ _ _ ?_; clear hK10
      -- cond 3
      refine AW.cond rfl (by simp only [go_sem, reduceIte, reduceCtorEq, Nat.reduceAdd, Nat.reduceMul, Nat.reduceEqDiff, Nat.reduceLT, Nat.reduceLeDiff, Nat.reduceSub, Nat.reducePow, Nat.reduceBEq, Int.reduceToNat, List.reduceReplicate]) ?_ ?_
      · intro hb
        try simp only [hB, decide_eq_true_eq, decide_eq_false_iff_not] at hb
        exfalso; simp at hb
      · intro hb
        try simp only [hB, decide_eq_true_eq, decide_eq_false_iff_not] at hb
        refine AW.skip ?_
        refine hK9 _ _ _ ?_; clear hK9
        refine AW.seq fun K11 hK11 => ?_
        refine AW.seq fun K12 hK12 => ?_
        -- region 9
        refine AW.regionK 0 (fun ii => if ii = 9 then some (.reads false (.bool true)) else if ii = 19 then some (.reads false (.bool true)) else none) [0, 1, 2, 3, 10, 11, 13, 16, 95] [10, 11, 16] ?_
        simp only [go_sem, reduceIte, reduceCtorEq, Nat.reduceAdd, Nat.reduceMul, Nat.reduceEqDiff, Nat.reduceLT, Nat.reduceLeDiff, Nat.reduceSub, Nat.reducePow, Nat.reduceBEq, Int.reduceToNat, List.reduceReplicate, hxl, hyl]
        repeat with_reducible refine cj ?_ ?_
        all_goals try first | (first | exact hck.1 | exact hck.2) | (intros; (repeat' apply And.intro) <;> first | assumption | (first | exact hck.1 | exact hck.2)) | omega | exact ent (by kernel_rfl) | (intro hgd; exact absurd hgd (by decide)) | rfl | (simp only [go_sem, reduceIte, reduceCtorEq, Nat.reduceAdd, Nat.reduceMul, Nat.reduceEqDiff, Nat.reduceLT, Nat.reduceLeDiff, Nat.reduceSub, Nat.reducePow, Nat.reduceBEq, Int.reduceToNat, List.reduceReplicate, hxl, hyl]; done) | (intro _hgd; simp_all [go_sem]; done)
        refine hK12 _ _ _ ?_; clear hK12
        -- cond 4
        refine AW.cond rfl (by simp only [go_sem, reduceIte, reduceCtorEq, Nat.reduceAdd, Nat.reduceMul, Nat.reduceEqDiff, Nat.reduceLT, Nat.reduceLeDiff, Nat.reduceSub, Nat.reducePow, Nat.reduceBEq, Int.reduceToNat, List.reduceReplicate]) ?_ ?_
        · intro hb
          try simp only [hB, decide_eq_true_eq, decide_eq_false_iff_not] at hb
          exfalso; simp at hb
        · intro hb
          try simp only [hB, decide_eq_true_eq, decide_eq_false_iff_not] at hb
          refine AW.skip ?_
          refine hK11 _ _ _ ?_; clear hK11
          refine AW.seq fun K13 hK13 => ?_
          refine AW.seq fun K14 hK14 => ?_
          -- region 11
          refine AW.regionK 0 (fun ii => if ii = 4 then some (.reads false (.bool (isMat E P))) else none) [0, 1, 2, 10, 11, 13, 16, 107] [10, 11, 16] ?_
          simp only [go_sem, reduceIte, reduceCtorEq, Nat.reduceAdd, Nat.reduceMul, Nat.reduceEqDiff, Nat.reduceLT, Nat.reduceLeDiff, Nat.reduceSub, Nat.reducePow, Nat.reduceBEq, Int.reduceToNat, List.reduceReplicate, hxl, hyl]
          repeat with_reducible refine cj ?_ ?_
          all_goals try first | (exact hma) | (intros; (repeat' apply And.intro) <;> first | assumption | (exact hma)) | omega | exact ent (by kernel_rfl) | (intro hgd; exact absurd hgd (by decide)) | rfl | (simp only [go_sem, reduceIte, reduceCtorEq, Nat.reduceAdd, Nat.reduceMul, Nat.reduceEqDiff, Nat.reduceLT, Nat.reduceLeDiff, Nat.reduceSub, Nat.reducePow, Nat.reduceBEq, Int.reduceToNat, List.reduceReplicate, hxl, hyl]; done) | (intro _hgd; simp_all [go_sem]; done)
          refine hK14 _ _ _ ?_; clear hK14
          -- cond 5
          refine AW.cond rfl (by simp only [go_sem, reduceIte, reduceCtorEq, Nat.reduceAdd, Nat.reduceMul, Nat.reduceEqDiff, Nat.reduceLT, Nat.reduceLeDiff, Nat.reduceSub, Nat.reducePow, Nat.reduceBEq, Int.reduceToNat, List.reduceReplicate]) ?_ ?_
          · intro hb
            try simp only [hB, decide_eq_true_eq, decide_eq_false_iff_not] at hb
            exfalso; have := hmost hb.1; omega
          · intro hb
            try simp only [hB, decide_eq_true_eq, decide_eq_false_iff_not] at hb
            refine AW.skip ?_
            refine hK13 _ _ _ ?_; clear hK13
            refine AW.seq fun K15 hK15 => ?_
            refine AW.seq fun K16 hK16 => ?_
            -- region 13
            refine AW.regionK 0 (fun ii => if ii = 2 then some (.reads false (.bool true)) else if ii = 7 then some (.reads false (.bool true)) else if ii = 14 then some (.reads false (.bool (covB a b E))) else none) [1, 10, 11, 13, 16, 124] [10, 11, 16] ?_
            simp only [go_sem, reduceIte, reduceCtorEq, Nat.reduceAdd, Nat.reduceMul, Nat.reduceEqDiff, Nat.reduceLT, Nat.reduceLeDiff, Nat.reduceSub, Nat.reducePow, Nat.reduceBEq, Int.reduceToNat, List.reduceReplicate, hxl, hyl]
            repeat with_reducible refine cj ?_ ?_
            all_goals try first | (first | exact hia | exact hib | exact hcv) | (intros; (repeat' apply And.intro) <;> first | assumption | (first | exact hia | exact hib | exact hcv)) | omega | exact ent (by kernel_rfl) | (intro hgd; exact absurd hgd (by decide)) | rfl | (simp only [go_sem, reduceIte, reduceCtorEq, Nat.reduceAdd, Nat.reduceMul, Nat.reduceEqDiff, Nat.reduceLT, Nat.reduceLeDiff, Nat.reduceSub, Nat.reducePow, Nat.reduceBEq, Int.reduceToNat, List.reduceReplicate, hxl, hyl]; done) | (intro _hgd; simp_all [go_sem]; done)
            refine hK16 _ _ _ ?_; clear hK16
            -- cond 6
            refine AW.cond rfl (by simp only [go_sem, reduceIte, reduceCtorEq, Nat.reduceAdd, Nat.reduceMul, Nat.reduceEqDiff, Nat.reduceLT, Nat.reduceLeDiff, Nat.reduceSub, Nat.reducePow, Nat.reduceBEq, Int.reduceToNat, List.reduceReplicate]) ?_ ?_
            · intro hb
              try simp only [hB, decide_eq_true_eq, decide_eq_false_iff_not] at hb
              refine AW.seq fun K17 hK17 => ?_
              -- region 14
              refine AW.regionK 0 (fun _ => none) [12] [] ?_
              simp only [go_sem, reduceIte, reduceCtorEq, Nat.reduceAdd, Nat.reduceMul, Nat.reduceEqDiff, Nat.reduceLT, Nat.reduceLeDiff, Nat.reduceSub, Nat.reducePow, Nat.reduceBEq, Int.reduceToNat, List.reduceReplicate, hxl, hyl]
              repeat with_reducible refine cj ?_ ?_
              all_goals try first | omega
              refine hK17 _ _ _ ?_; clear hK17
              refine AW.ret ?_
              rw [← hQr]
              simp only [go_sem, reduceIte, reduceCtorEq, Nat.reduceAdd, Nat.reduceMul, Nat.reduceEqDiff, Nat.reduceLT, Nat.reduceLeDiff, Nat.reduceSub, Nat.reducePow, Nat.reduceBEq, Int.reduceToNat, List.reduceReplicate, hxl, hyl]
              exact Wk.refl _
            · intro hb
              try simp only [hB, decide_eq_true_eq, decide_eq_false_iff_not] at hb
              have hcb0 : covB a b E = true := by revert hb; cases covB a b E <;> simp
              have hwk := hwk hcb0
              have hlst := hlst hcb0
              refine AW.skip ?_
              refine hK15 _ _ _ ?_; clear hK15
              refine AW.seq fun K18 hK18 => ?_
              -- region 15
              refine AW.regionD mixed 0 (fun ii => if ii = 1 then some (.reads false (.int .i64 (ka : Nat))) else if ii = 3 then some (.reads false (.int .i64 (kb : Nat))) else none) [1, 11, 13, 16, 18] [11, 16] ?_
              simp only [go_sem, reduceIte, reduceCtorEq, Nat.reduceAdd, Nat.reduceMul, Nat.reduceEqDiff, Nat.reduceLT, Nat.reduceLeDiff, Nat.reduceSub, Nat.reducePow, Nat.reduceBEq, Int.reduceToNat, List.reduceReplicate, hxl, hyl]
              repeat with_reducible refine cj ?_ ?_
              all_goals try first | (first | exact hca | exact hcb | omega) | omega | exact chk (by kernel_rfl) | exact ent (by kernel_rfl)
              refine hK18 _ _ _ ?_; clear hK18
              refine AW.seq fun K19 hK19 => ?_
              refine AW.seq fun K20 hK20 => ?_
              -- region 16
              refine AW.regionK 0 (fun _ => none) [1, 11, 13, 16, 18, 133] [11, 16] ?_
              simp only [go_sem, reduceIte, reduceCtorEq, Nat.reduceAdd, Nat.reduceMul, Nat.reduceEqDiff, Nat.reduceLT, Nat.reduceLeDiff, Nat.reduceSub, Nat.reducePow, Nat.reduceBEq, Int.reduceToNat, List.reduceReplicate, hxl, hyl]
              repeat with_reducible refine cj ?_ ?_
              all_goals try first | omega
              refine hK20 _ _ _ ?_; clear hK20
              -- cond 7
              refine AW.cond rfl (by simp only [go_sem, reduceIte, reduceCtorEq, Nat.reduceAdd, Nat.reduceMul, Nat.reduceEqDiff, Nat.reduceLT, Nat.reduceLeDiff, Nat.reduceSub, Nat.reducePow, Nat.reduceBEq, Int.reduceToNat, List.reduceReplicate]) ?_ ?_
              · intro hb
                try simp only [hB, decide_eq_true_eq, decide_eq_false_iff_not] at hb
                exfalso; omega
              · intro hb
                try simp only [hB, decide_eq_true_eq, decide_eq_false_iff_not] at hb
                refine AW.skip ?_
                refine hK19 _ _ _ ?_; clear hK19
                refine AW.seq fun K21 hK21 => ?_
                refine AW.seq fun K22 hK22 => ?_
                -- region 18
                refine AW.regionK 0 (fun _ => none) [1, 11, 16, 137] [11, 16] ?_
                simp only [go_sem, reduceIte, reduceCtorEq, Nat.reduceAdd, Nat.reduceMul, Nat.reduceEqDiff, Nat.reduceLT, Nat.reduceLeDiff, Nat.reduceSub, Nat.reducePow, Nat.reduceBEq, Int.reduceToNat, List.reduceReplicate, hxl, hyl]
                repeat with_reducible refine cj ?_ ?_
                all_goals try first | omega
                refine hK22 _ _ _ ?_; clear hK22
                -- cond 8
                refine AW.cond rfl (by simp only [go_sem, reduceIte, reduceCtorEq, Nat.reduceAdd, Nat.reduceMul, Nat.reduceEqDiff, Nat.reduceLT, Nat.reduceLeDiff, Nat.reduceSub, Nat.reducePow, Nat.reduceBEq, Int.reduceToNat, List.reduceReplicate]) ?_ ?_
                · intro hb
                  try simp only [hB, decide_eq_true_eq, decide_eq_false_iff_not] at hb
                  refine AW.seq fun K23 hK23 => ?_
                  -- region 19
                  refine AW.regionK 0 (fun _ => none) [12] [] ?_
                  simp only [go_sem, reduceIte, reduceCtorEq, Nat.reduceAdd, Nat.reduceMul, Nat.reduceEqDiff, Nat.reduceLT, Nat.reduceLeDiff, Nat.reduceSub, Nat.reducePow, Nat.reduceBEq, Int.reduceToNat, List.reduceReplicate, hxl, hyl]
                  repeat with_reducible refine cj ?_ ?_
                  all_goals try first | omega
                  refine hK23 _ _ _ ?_; clear hK23
                  refine AW.ret ?_
                  rw [← hQr]
                  simp only [go_sem, reduceIte, reduceCtorEq, Nat.reduceAdd, Nat.reduceMul, Nat.reduceEqDiff, Nat.reduceLT, Nat.reduceLeDiff, Nat.reduceSub, Nat.reducePow, Nat.reduceBEq, Int.reduceToNat, List.reduceReplicate, hxl, hyl]
                  exact Wk.refl _
                · intro hb
                  try simp only [hB, decide_eq_true_eq, decide_eq_false_iff_not] at hb
                  have hlst := hlst (by omega)
                  refine AW.skip ?_
                  refine hK21 _ _ _ ?_; clear hK21
                  refine AW.seq fun K24 hK24 => ?_
                  refine AW.seq fun K25 hK25 => ?_
                  -- region 20
                  refine AW.regionK 0 (fun _ => none) [11, 16, 138, 139] [11, 16] ?_
                  simp only [go_sem, reduceIte, reduceCtorEq, Nat.reduceAdd, Nat.reduceMul, Nat.reduceEqDiff, Nat.reduceLT, Nat.reduceLeDiff, Nat.reduceSub, Nat.reducePow, Nat.reduceBEq, Int.reduceToNat, List.reduceReplicate, hxl, hyl]
                  repeat with_reducible refine cj ?_ ?_
                  all_goals try first | omega
                  refine hK25 _ _ _ ?_; clear hK25
                  refine AW.block ?_
                  -- loop 1
                  refine AW.loopE (fun mm ee ss kk => ∃ (j g4 v4 g5 v5 : Nat), m - j = mm ∧ ee = [(11, .ptr ⟨11, g4, none⟩ 0 0), (16, .ptr ⟨16, g5, none⟩ 0 0), (138, .int .i64 m), (139, .int .i64 (j : Nat))] ∧ ss = [(11, some ⟨g4, v4, 2, [[.int .i64 m, .rsl 1 (words B)]]⟩), (16, some ⟨g5, v5, 2, [[.int .i64 m, .rsl 1 (words C)]]⟩)] ∧ (j ≤ m)) ?_ ?_
                  · refine ⟨_, 0, ?_, ?_, ?_, ?_, rfl, ?henv, ?hstore, ?hst⟩
                    case henv =>
                      repeat' (first | rfl | refine env_cons ?_ ?_ | refine st_cons ?_ ?_ ?_ ?_ | refine int_eq ?_ | refine bool_eq ?_ | refine rsl_eq ?_ | refine osl_eq ?_ | refine sl_eq ?_ ?_ ?_ | refine ptr_eq ?_ ?_ ?_ | refine agg_eq ?_ | refine es_cons ?_ ?_ | refine row_cons ?_ ?_)
                      all_goals (first | (simp; done) | omega | (simp; omega))
                    case hstore =>
                      repeat' (first | rfl | refine env_cons ?_ ?_ | refine st_cons ?_ ?_ ?_ ?_ | refine int_eq ?_ | refine bool_eq ?_ | refine rsl_eq ?_ | refine osl_eq ?_ | refine sl_eq ?_ ?_ ?_ | refine ptr_eq ?_ ?_ ?_ | refine agg_eq ?_ | refine es_cons ?_ ?_ | refine row_cons ?_ ?_)
                      all_goals (first | (simp; done) | omega | (simp; omega))
                    case hst =>
                      first | trivial | omega | (simp; done) | (simp; omega)
                  rintro mm ee ss kk ⟨j, g4, v4, g5, v5, rfl, rfl, rfl, hI⟩
                  generalize hQl1 : thenQ _ _ = Ql1
                  refine AW.seq fun K26 hK26 => ?_
                  -- region 21
                  refine AW.regionK 0 (fun _ => none) [11, 16, 138, 139, 140] [11, 16] ?_
                  simp only [go_sem, reduceIte, reduceCtorEq, Nat.reduceAdd, Nat.reduceMul, Nat.reduceEqDiff, Nat.reduceLT, Nat.reduceLeDiff, Nat.reduceSub, Nat.reducePow, Nat.reduceBEq, Int.reduceToNat, List.reduceReplicate, hxl, hyl]
                  repeat with_reducible refine cj ?_ ?_
                  all_goals try first | omega
                  refine hK26 _ _ _ ?_; clear hK26
                  refine AW.seq fun K27 hK27 => ?_
                  -- cond 9
                  refine AW.cond rfl (by simp only [go_sem, reduceIte, reduceCtorEq, Nat.reduceAdd, Nat.reduceMul, Nat.reduceEqDiff, Nat.reduceLT, Nat.reduceLeDiff, Nat.reduceSub, Nat.reducePow, Nat.reduceBEq, Int.reduceToNat, List.reduceReplicate]) ?_ ?_
                  · intro hb
                    try simp only [hB, decide_eq_true_eq, decide_eq_false_iff_not] at hb
                    have h5 := hh1 (j : Int) (by omega) (by omega)
                    have h6 := hh2 (j : Int) (by omega) (by omega)
                    rw [Int.toNat_natCast] at h5 h6
                    have h7 := hlst j
                    refine AW.skip ?_
                    refine hK27 _ _ _ ?_; clear hK27
                    refine AW.seq fun K28 hK28 => ?_
                    refine AW.block ?_
                    refine AW.seq fun K29 hK29 => ?_
                    -- region 22
                    refine AW.regionK 0 (fun _ => none) [11, 16, 19, 138, 139] [11, 16] ?_
                    simp only [go_sem, reduceIte, reduceCtorEq, Nat.reduceAdd, Nat.reduceMul, Nat.reduceEqDiff, Nat.reduceLT, Nat.reduceLeDiff, Nat.reduceSub, Nat.reducePow, Nat.reduceBEq, Int.reduceToNat, List.reduceReplicate, hxl, hyl]
                    repeat with_reducible refine cj ?_ ?_
                    all_goals try first | omega
                    refine hK29 _ _ _ ?_; clear hK29
                    refine AW.seq fun K30 hK30 => ?_
                    -- region 23
                    refine AW.regionK 0 (fun ii => if ii = 2 then some (.reads false (.bool (cr.getD j false))) else if ii = 6 then some (.reads false (.bool (b.getD j false))) else none) [11, 16, 138, 139, 150] [11, 16] ?_
                    simp only [go_sem, reduceIte, reduceCtorEq, Nat.reduceAdd, Nat.reduceMul, Nat.reduceEqDiff, Nat.reduceLT, Nat.reduceLeDiff, Nat.reduceSub, Nat.reducePow, Nat.reduceBEq, Int.reduceToNat, List.reduceReplicate, hxl, hyl]
                    repeat with_reducible refine cj ?_ ?_
                    all_goals try first | (first | exact h5 | exact h6) | (intros; (repeat' apply And.intro) <;> first | assumption | (first | exact h5 | exact h6)) | omega | exact ent (by kernel_rfl) | (intro hgd; exact absurd hgd (by decide)) | rfl | (simp only [go_sem, reduceIte, reduceCtorEq, Nat.reduceAdd, Nat.reduceMul, Nat.reduceEqDiff, Nat.reduceLT, Nat.reduceLeDiff, Nat.reduceSub, Nat.reducePow, Nat.reduceBEq, Int.reduceToNat, List.reduceReplicate, hxl, hyl]; done) | (intro _hgd; simp_all [go_sem]; done)
                    refine hK30 _ _ _ ?_; clear hK30
                    -- cond 10
                    refine AW.cond rfl (by simp only [go_sem, reduceIte, reduceCtorEq, Nat.reduceAdd, Nat.reduceMul, Nat.reduceEqDiff, Nat.reduceLT, Nat.reduceLeDiff, Nat.reduceSub, Nat.reducePow, Nat.reduceBEq, Int.reduceToNat, List.reduceReplicate]) ?_ ?_
                    · intro hb
                      try simp only [hB, decide_eq_true_eq, decide_eq_false_iff_not] at hb
                      exfalso; have := h7 hb.1; rw [this] at hb; simp at hb
                    · intro hb
                      try simp only [hB, decide_eq_true_eq, decide_eq_false_iff_not] at hb
                      refine AW.skip ?_
                      refine hK28 _ _ _ ?_; clear hK28
                      -- region 25
                      refine AW.regionK 0 (fun _ => none) [11, 16, 138, 139] [11, 16] ?_
                      simp only [go_sem, reduceIte, reduceCtorEq, Nat.reduceAdd, Nat.reduceMul, Nat.reduceEqDiff, Nat.reduceLT, Nat.reduceLeDiff, Nat.reduceSub, Nat.reducePow, Nat.reduceBEq, Int.reduceToNat, List.reduceReplicate, hxl, hyl]
                      repeat with_reducible refine cj ?_ ?_
                      all_goals try first | omega
                      rw [← hQl1]
                      change Exists _
                      refine ⟨_, ?hm, j + 1, ?_, ?_, ?_, ?_, rfl, ?henv, ?hstore, ?hst⟩
                      case henv =>
                        repeat' (first | rfl | refine env_cons ?_ ?_ | refine st_cons ?_ ?_ ?_ ?_ | refine int_eq ?_ | refine bool_eq ?_ | refine rsl_eq ?_ | refine osl_eq ?_ | refine sl_eq ?_ ?_ ?_ | refine ptr_eq ?_ ?_ ?_ | refine agg_eq ?_ | refine es_cons ?_ ?_ | refine row_cons ?_ ?_)
                        all_goals (first | (simp; done) | omega | (simp; omega))
                      case hstore =>
                        repeat' (first | rfl | refine env_cons ?_ ?_ | refine st_cons ?_ ?_ ?_ ?_ | refine int_eq ?_ | refine bool_eq ?_ | refine rsl_eq ?_ | refine osl_eq ?_ | refine sl_eq ?_ ?_ ?_ | refine ptr_eq ?_ ?_ ?_ | refine agg_eq ?_ | refine es_cons ?_ ?_ | refine row_cons ?_ ?_)
                        all_goals (first | (simp; done) | omega | (simp; omega))
                      case hst =>
                        first | trivial | omega | (simp; done) | (simp; omega)
                      case hm => omega
                  · intro hb
                    try simp only [hB, decide_eq_true_eq, decide_eq_false_iff_not] at hb
                    refine AW.keep [] [] ?_
                    try simp only [go_sem, reduceIte, reduceCtorEq, Nat.reduceAdd, Nat.reduceMul, Nat.reduceEqDiff, Nat.reduceLT, Nat.reduceLeDiff, Nat.reduceSub, Nat.reducePow, Nat.reduceBEq, Int.reduceToNat, List.reduceReplicate]
                    refine AW.exit ?_
                    rw [← hQl1]
                    refine hK24 _ _ _ ?_; clear hK24
                    refine AW.seq fun K31 hK31 => ?_
                    -- region 26
                    refine AW.regionK 0 (fun _ => none) [12] [] ?_
                    simp only [go_sem, reduceIte, reduceCtorEq, Nat.reduceAdd, Nat.reduceMul, Nat.reduceEqDiff, Nat.reduceLT, Nat.reduceLeDiff, Nat.reduceSub, Nat.reducePow, Nat.reduceBEq, Int.reduceToNat, List.reduceReplicate, hxl, hyl]
                    repeat with_reducible refine cj ?_ ?_
                    all_goals try first | omega
                    refine hK31 _ _ _ ?_; clear hK31
                    refine AW.ret ?_
                    rw [← hQr]
                    simp only [go_sem, reduceIte, reduceCtorEq, Nat.reduceAdd, Nat.reduceMul, Nat.reduceEqDiff, Nat.reduceLT, Nat.reduceLeDiff, Nat.reduceSub, Nat.reducePow, Nat.reduceBEq, Int.reduceToNat, List.reduceReplicate, hxl, hyl]
                    exact Wk.refl _
theorem kon_f {n m : Nat} {E : List (Int × Int)} (h : Gd n m E) (P : List (Int × Int)) (x y : USet) (hlP : P.length ≤ 9223372036854775807) (hx : x.W.length ≤ 9223372036854775807) (hy : y.W.length ≤ 9223372036854775807) (hox : okW x.W) (hoy : okW y.W) (hset : (setOk n x && setOk m y) = false) :
    Reads Try.prog 6 false [.int .i64 n, .int .i64 m, .rsl 2 (E.map pairV), .rsl 2 (P.map pairV), .agg [.int .i64 x.N, .rsl 1 (words x.W)], .agg [.int .i64 y.N, .rsl 1 (words y.W)]] (.bool true) := by
  have hl : E.length ≤ 9223372036854775807 := by have := h.hl; omega
  have haw := awake_r
  have hgr := great_b n m E hl
  have hxl := words_len x.W
  have hyl := words_len y.W
  have hn := h.hn
  have hm := h.hm
  have h1 := max_good h.valid
  have h2 := cover_good h
  have h4 := rvalid_r n m E hl
  rw [h.valid] at h4
  have hck := kon_chk h
  have hma := ismat_r hn hm E P h.hE hl hlP
  have hmost := fun hP => kon_most h (P := P) hP
  have hle := maxP_le n m E
  have hia := fun hh => isset_r x.N n x.W hox hh
  have hib := fun hh => isset_r y.N m y.W hoy hh
  rw [show (decide (x.N = (n : Int)) && validS n x.W) = setOk n x from rfl] at hia
  rw [show (decide (y.N = (m : Int)) && validS m y.W) = setOk m y from rfl] at hib
  have hcs : (setOk n x = false ∧ setOk m y = false) ∨ (setOk n x = false ∧ setOk m y = true) ∨ (setOk n x = true ∧ setOk m y = false) := by
    revert hset; cases setOk n x <;> cases setOk m y <;> simp
  generalize setW (cvR n m E) m = C at *
  generalize setW (cvL n m E) n = D at *
  generalize maxP n m E = Q at *
  refine Reads.body (rs := [.tmp 12]) Try.func6 rfl Try.ntmps6 rfl (by simp) ?_
  generalize hQr : retQ _ _ _ = Qr
  refine AW.seq fun K1 hK1 => ?_
  -- region 0
  refine AW.regionK 0 (fun _ => none) [0, 1, 2, 3, 10, 11] [10, 11] ?_
  simp only [go_sem, reduceIte, reduceCtorEq, Nat.reduceAdd, Nat.reduceMul, Nat.reduceEqDiff, Nat.reduceLT, Nat.reduceLeDiff, Nat.reduceSub, Nat.reducePow, Nat.reduceBEq, Int.reduceToNat, List.reduceReplicate, hxl, hyl]
  repeat with_reducible refine cj ?_ ?_
  all_goals try first | omega
  refine hK1 _ _ _ ?_; clear hK1
  refine AW.seq fun K2 hK2 => ?_
  refine AW.seq fun K3 hK3 => ?_
  -- region 1
  refine AW.regionK 0 (fun ii => if ii = 0 then some (.reads false (.bool true)) else none) [0, 1, 2, 3, 10, 11, 21] [10, 11] ?_
  simp only [go_sem, reduceIte, reduceCtorEq, Nat.reduceAdd, Nat.reduceMul, Nat.reduceEqDiff, Nat.reduceLT, Nat.reduceLeDiff, Nat.reduceSub, Nat.reducePow, Nat.reduceBEq, Int.reduceToNat, List.reduceReplicate, hxl, hyl]
  repeat with_reducible refine cj ?_ ?_
  all_goals try first | (exact haw) | omega | exact ent (by kernel_rfl)
  refine hK3 _ _ _ ?_; clear hK3
  -- cond 1
  refine AW.cond rfl (by simp only [go_sem, reduceIte, reduceCtorEq, Nat.reduceAdd, Nat.reduceMul, Nat.reduceEqDiff, Nat.reduceLT, Nat.reduceLeDiff, Nat.reduceSub, Nat.reducePow, Nat.reduceBEq, Int.reduceToNat, List.reduceReplicate]) ?_ ?_
  · intro hb
    try simp only [hB, decide_eq_true_eq, decide_eq_false_iff_not] at hb
    simp at hb
  · intro hb
    try simp only [hB, decide_eq_true_eq, decide_eq_false_iff_not] at hb
    refine AW.skip ?_
    refine hK2 _ _ _ ?_; clear hK2
    refine AW.seq fun K4 hK4 => ?_
    refine AW.seq fun K5 hK5 => ?_
    -- region 3
    refine AW.regionK 0 (fun ii => if ii = 3 then some (.reads false (.bool (greatB n m E))) else none) [0, 1, 2, 3, 10, 11, 42] [10, 11] ?_
    simp only [go_sem, reduceIte, reduceCtorEq, Nat.reduceAdd, Nat.reduceMul, Nat.reduceEqDiff, Nat.reduceLT, Nat.reduceLeDiff, Nat.reduceSub, Nat.reducePow, Nat.reduceBEq, Int.reduceToNat, List.reduceReplicate, hxl, hyl]
    repeat with_reducible refine cj ?_ ?_
    all_goals try first | (exact hgr) | (intros; (repeat' apply And.intro) <;> first | assumption | (exact hgr)) | omega | exact ent (by kernel_rfl) | (intro hgd; exact absurd hgd (by decide)) | rfl | (simp only [go_sem, reduceIte, reduceCtorEq, Nat.reduceAdd, Nat.reduceMul, Nat.reduceEqDiff, Nat.reduceLT, Nat.reduceLeDiff, Nat.reduceSub, Nat.reducePow, Nat.reduceBEq, Int.reduceToNat, List.reduceReplicate, hxl, hyl]; done) | (intro _hgd; simp_all [go_sem]; done)
    refine hK5 _ _ _ ?_; clear hK5
    -- cond 2
    refine AW.cond rfl (by simp only [go_sem, reduceIte, reduceCtorEq, Nat.reduceAdd, Nat.reduceMul, Nat.reduceEqDiff, Nat.reduceLT, Nat.reduceLeDiff, Nat.reduceSub, Nat.reducePow, Nat.reduceBEq, Int.reduceToNat, List.reduceReplicate]) ?_ ?_
    · intro hb
      try simp only [hB, decide_eq_true_eq, decide_eq_false_iff_not] at hb
      refine AW.seq fun K6 hK6 => ?_
      -- region 4
      refine AW.regionK 0 (fun _ => none) [12] [] ?_
      simp only [go_sem, reduceIte, reduceCtorEq, Nat.reduceAdd, Nat.reduceMul, Nat.reduceEqDiff, Nat.reduceLT, Nat.reduceLeDiff, Nat.reduceSub, Nat.reducePow, Nat.reduceBEq, Int.reduceToNat, List.reduceReplicate, hxl, hyl]
      repeat with_reducible refine cj ?_ ?_
      all_goals try first | omega
      refine hK6 _ _ _ ?_; clear hK6
      refine AW.ret ?_
      rw [← hQr]
      simp only [go_sem, reduceIte, reduceCtorEq, Nat.reduceAdd, Nat.reduceMul, Nat.reduceEqDiff, Nat.reduceLT, Nat.reduceLeDiff, Nat.reduceSub, Nat.reducePow, Nat.reduceBEq, Int.reduceToNat, List.reduceReplicate, hxl, hyl]
      exact Wk.refl _
    · intro hb
      try simp only [hB, decide_eq_true_eq, decide_eq_false_iff_not] at hb
      refine AW.skip ?_
      refine hK4 _ _ _ ?_; clear hK4
      refine AW.seq fun K7 hK7 => ?_
      -- region 5
      refine AW.regionK 0 (fun ii => if ii = 3 then some (.reads false (.tup [.rsl 2 (Q.map pairV), .int .i64 0])) else none) [0, 1, 2, 3, 10, 11, 13, 14] [10, 11] ?_
      simp only [go_sem, reduceIte, reduceCtorEq, Nat.reduceAdd, Nat.reduceMul, Nat.reduceEqDiff, Nat.reduceLT, Nat.reduceLeDiff, Nat.reduceSub, Nat.reducePow, Nat.reduceBEq, Int.reduceToNat, List.reduceReplicate, hxl, hyl]
      repeat with_reducible refine cj ?_ ?_
      all_goals try first | (exact h1) | omega | exact ent (by kernel_rfl)
      refine hK7 _ _ _ ?_; clear hK7
      refine AW.seq fun K8 hK8 => ?_
      -- region 6
      refine AW.regionK 0 (fun ii => if ii = 3 then some (.reads false (.tup [.agg [.int .i64 n, .rsl 1 (words D)], .agg [.int .i64 m, .rsl 1 (words C)], .int .i64 0])) else none) [0, 1, 2, 3, 10, 11, 13, 14, 15, 16, 17] [10, 11, 15, 16] ?_
      simp only [go_sem, reduceIte, reduceCtorEq, Nat.reduceAdd, Nat.reduceMul, Nat.reduceEqDiff, Nat.reduceLT, Nat.reduceLeDiff, Nat.reduceSub, Nat.reducePow, Nat.reduceBEq, Int.reduceToNat, List.reduceReplicate, hxl, hyl]
      repeat with_reducible refine cj ?_ ?_
      all_goals try first | (exact h2) | omega | exact ent (by kernel_rfl)
      refine hK8 _ _ _ ?_; clear hK8
      refine AW.seq fun K9 hK9 => ?_
      refine AW.seq fun K10 hK10 => ?_
      -- region 7
      refine AW.regionK 0 (fun ii => if ii = 7 then some (.reads false (.bool true)) else none) [0, 1, 2, 3, 10, 11, 13, 14, 15, 16, 17, 67] [10, 11, 15, 16] ?_
      simp only [go_sem, reduceIte, reduceCtorEq, Nat.reduceAdd, Nat.reduceMul, Nat.reduceEqDiff, Nat.reduceLT, Nat.reduceLeDiff, Nat.reduceSub, Nat.reducePow, Nat.reduceBEq, Int.reduceToNat, List.reduceReplicate, hxl, hyl]
      repeat with_reducible refine cj ?_ ?_
      all_goals try first | (exact h4) | (intros; (repeat' apply And.intro) <;> first | assumption | (exact h4)) | omega | exact ent (by kernel_rfl) | (intro hgd; exact absurd hgd (by decide)) | rfl | (simp only [go_sem, reduceIte, reduceCtorEq, Nat.reduceAdd, Nat.reduceMul, Nat.reduceEqDiff, Nat.reduceLT, Nat.reduceLeDiff, Nat.reduceSub, Nat.reducePow, Nat.reduceBEq, Int.reduceToNat, List.reduceReplicate, hxl, hyl]; done) | (intro _hgd; simp_all [go_sem]; done)
      refine hK10 _ _ _ ?_; clear hK10
      -- cond 3
      refine AW.cond rfl (by simp only [go_sem, reduceIte, reduceCtorEq, Nat.reduceAdd, Nat.reduceMul, Nat.reduceEqDiff, Nat.reduceLT, Nat.reduceLeDiff, Nat.reduceSub, Nat.reducePow, Nat.reduceBEq, Int.reduceToNat, List.reduceReplicate]) ?_ ?_
      · intro hb
        try simp only [hB, decide_eq_true_eq, decide_eq_false_iff_not] at hb
        exfalso; simp at hb
      · intro hb
        try simp only [hB, decide_eq_true_eq, decide_eq_false_iff_not] at hb
        refine AW.skip ?_
        refine hK9 _ _ _ ?_; clear hK9
        refine AW.seq fun K11 hK11 => ?_
        refine AW.seq fun K12 hK12 => ?_
        -- region 9
        refine AW.regionK 0 (fun ii => if ii = 9 then some (.reads false (.bool true)) else if ii = 19 then some (.reads false (.bool true)) else none) [0, 1, 2, 3, 10, 11, 13, 16, 95] [10, 11, 16] ?_
        simp only [go_sem, reduceIte, reduceCtorEq, Nat.reduceAdd, Nat.reduceMul, Nat.reduceEqDiff, Nat.reduceLT, Nat.reduceLeDiff, Nat.reduceSub, Nat.reducePow, Nat.reduceBEq, Int.reduceToNat, List.reduceReplicate, hxl, hyl]
        repeat with_reducible refine cj ?_ ?_
        all_goals try first | (first | exact hck.1 | exact hck.2) | (intros; (repeat' apply And.intro) <;> first | assumption | (first | exact hck.1 | exact hck.2)) | omega | exact ent (by kernel_rfl) | (intro hgd; exact absurd hgd (by decide)) | rfl | (simp only [go_sem, reduceIte, reduceCtorEq, Nat.reduceAdd, Nat.reduceMul, Nat.reduceEqDiff, Nat.reduceLT, Nat.reduceLeDiff, Nat.reduceSub, Nat.reducePow, Nat.reduceBEq, Int.reduceToNat, List.reduceReplicate, hxl, hyl]; done) | (intro _hgd; simp_all [go_sem]; done)
        refine hK12 _ _ _ ?_; clear hK12
        -- cond 4
        refine AW.cond rfl (by simp only [go_sem, reduceIte, reduceCtorEq, Nat.reduceAdd, Nat.reduceMul, Nat.reduceEqDiff, Nat.reduceLT, Nat.reduceLeDiff, Nat.reduceSub, Nat.reducePow, Nat.reduceBEq, Int.reduceToNat, List.reduceReplicate]) ?_ ?_
        · intro hb
          try simp only [hB, decide_eq_true_eq, decide_eq_false_iff_not] at hb
          exfalso; simp at hb
        · intro hb
          try simp only [hB, decide_eq_true_eq, decide_eq_false_iff_not] at hb
          refine AW.skip ?_
          refine hK11 _ _ _ ?_; clear hK11
          refine AW.seq fun K13 hK13 => ?_
          refine AW.seq fun K14 hK14 => ?_
          -- region 11
          refine AW.regionK 0 (fun ii => if ii = 4 then some (.reads false (.bool (isMat E P))) else none) [0, 1, 2, 10, 11, 13, 16, 107] [10, 11, 16] ?_
          simp only [go_sem, reduceIte, reduceCtorEq, Nat.reduceAdd, Nat.reduceMul, Nat.reduceEqDiff, Nat.reduceLT, Nat.reduceLeDiff, Nat.reduceSub, Nat.reducePow, Nat.reduceBEq, Int.reduceToNat, List.reduceReplicate, hxl, hyl]
          repeat with_reducible refine cj ?_ ?_
          all_goals try first | (exact hma) | (intros; (repeat' apply And.intro) <;> first | assumption | (exact hma)) | omega | exact ent (by kernel_rfl) | (intro hgd; exact absurd hgd (by decide)) | rfl | (simp only [go_sem, reduceIte, reduceCtorEq, Nat.reduceAdd, Nat.reduceMul, Nat.reduceEqDiff, Nat.reduceLT, Nat.reduceLeDiff, Nat.reduceSub, Nat.reducePow, Nat.reduceBEq, Int.reduceToNat, List.reduceReplicate, hxl, hyl]; done) | (intro _hgd; simp_all [go_sem]; done)
          refine hK14 _ _ _ ?_; clear hK14
          -- cond 5
          refine AW.cond rfl (by simp only [go_sem, reduceIte, reduceCtorEq, Nat.reduceAdd, Nat.reduceMul, Nat.reduceEqDiff, Nat.reduceLT, Nat.reduceLeDiff, Nat.reduceSub, Nat.reducePow, Nat.reduceBEq, Int.reduceToNat, List.reduceReplicate]) ?_ ?_
          · intro hb
            try simp only [hB, decide_eq_true_eq, decide_eq_false_iff_not] at hb
            exfalso; have := hmost hb.1; omega
          · intro hb
            try simp only [hB, decide_eq_true_eq, decide_eq_false_iff_not] at hb
            refine AW.skip ?_
            refine hK13 _ _ _ ?_; clear hK13
            refine AW.seq fun K15 hK15 => ?_
            refine AW.seq fun K16 hK16 => ?_
            have hD13 : ∀ (g1 v1 g2 v2 g3 v3 : Nat) (kk : Nat), K16 [(1, .int .i64 m), (10, .ptr ⟨10, g1, none⟩ 0 0), (11, .ptr ⟨11, g2, none⟩ 0 0), (13, .rsl 2 (Q.map pairV)), (16, .ptr ⟨16, g3, none⟩ 0 0), (124, .bool true)] [(10, some ⟨g1, v1, 2, [[.int .i64 x.N, .rsl 1 (words x.W)]]⟩), (11, some ⟨g2, v2, 2, [[.int .i64 y.N, .rsl 1 (words y.W)]]⟩), (16, some ⟨g3, v3, 2, [[.int .i64 m, .rsl 1 (words C)]]⟩)] kk := by
              intro g1 v1 g2 v2 g3 v3 kk
              refine hK16 _ _ _ ?_; clear hK16
              -- cond 6
              refine AW.cond rfl (by simp only [go_sem, reduceIte, reduceCtorEq, Nat.reduceAdd, Nat.reduceMul, Nat.reduceEqDiff, Nat.reduceLT, Nat.reduceLeDiff, Nat.reduceSub, Nat.reducePow, Nat.reduceBEq, Int.reduceToNat, List.reduceReplicate]) ?_ ?_
              · intro hb
                try simp only [hB, decide_eq_true_eq, decide_eq_false_iff_not] at hb
                refine AW.seq fun K18 hK18 => ?_
                -- region 14
                refine AW.regionK 0 (fun _ => none) [12] [] ?_
                simp only [go_sem, reduceIte, reduceCtorEq, Nat.reduceAdd, Nat.reduceMul, Nat.reduceEqDiff, Nat.reduceLT, Nat.reduceLeDiff, Nat.reduceSub, Nat.reducePow, Nat.reduceBEq, Int.reduceToNat, List.reduceReplicate, hxl, hyl]
                repeat with_reducible refine cj ?_ ?_
                all_goals try first | omega
                refine hK18 _ _ _ ?_; clear hK18
                refine AW.ret ?_
                rw [← hQr]
                simp only [go_sem, reduceIte, reduceCtorEq, Nat.reduceAdd, Nat.reduceMul, Nat.reduceEqDiff, Nat.reduceLT, Nat.reduceLeDiff, Nat.reduceSub, Nat.reducePow, Nat.reduceBEq, Int.reduceToNat, List.reduceReplicate, hxl, hyl]
                exact Wk.refl _
              · intro hb
                try simp only [hB, decide_eq_true_eq, decide_eq_false_iff_not] at hb
                exfalso; simp at hb
            rcases hcs with ⟨hs1, hs2⟩ | ⟨hs1, hs2⟩ | ⟨hs1, hs2⟩
            · -- region 13
              refine AW.regionS 0 (fun ii => if ii = 2 then some (.reads false (.bool (setOk n x))) else if ii = 7 then some (.reads false (.bool (setOk m y))) else if ii = 14 then some (.skip) else none) [1, 10, 11, 13, 16, 124] [10, 11, 16] ?_
              simp only [go_sem, reduceIte, reduceCtorEq, Nat.reduceAdd, Nat.reduceMul, Nat.reduceEqDiff, Nat.reduceLT, Nat.reduceLeDiff, Nat.reduceSub, Nat.reducePow, Nat.reduceBEq, Int.reduceToNat, List.reduceReplicate, hxl, hyl, hs1, hs2]
              repeat with_reducible refine cj ?_ ?_
              all_goals try first | (first | (have q := hia (by omega); rw [hs1] at q; exact q) | (have q := hib (by omega); rw [hs2] at q; exact q)) | (intros; (repeat' apply And.intro) <;> first | assumption | (first | (have q := hia (by omega); rw [hs1] at q; exact q) | (have q := hib (by omega); rw [hs2] at q; exact q))) | omega | exact ent (by kernel_rfl) | (intro hgd; exact absurd hgd (by decide)) | rfl | (simp only [go_sem, reduceIte, reduceCtorEq, Nat.reduceAdd, Nat.reduceMul, Nat.reduceEqDiff, Nat.reduceLT, Nat.reduceLeDiff, Nat.reduceSub, Nat.reducePow, Nat.reduceBEq, Int.reduceToNat, List.reduceReplicate, hxl, hyl, hs1, hs2]; done) | (intro _hgd; simp_all [go_sem]; done)
              exact hD13 _ _ _ _ _ _ _
            · -- region 13
              refine AW.regionS 0 (fun ii => if ii = 2 then some (.reads false (.bool (setOk n x))) else if ii = 7 then some (.reads false (.bool (setOk m y))) else if ii = 14 then some (.skip) else none) [1, 10, 11, 13, 16, 124] [10, 11, 16] ?_
              simp only [go_sem, reduceIte, reduceCtorEq, Nat.reduceAdd, Nat.reduceMul, Nat.reduceEqDiff, Nat.reduceLT, Nat.reduceLeDiff, Nat.reduceSub, Nat.reducePow, Nat.reduceBEq, Int.reduceToNat, List.reduceReplicate, hxl, hyl, hs1, hs2]
              repeat with_reducible refine cj ?_ ?_
              all_goals try first | (first | (have q := hia (by omega); rw [hs1] at q; exact q) | (have q := hib (by omega); rw [hs2] at q; exact q)) | (intros; (repeat' apply And.intro) <;> first | assumption | (first | (have q := hia (by omega); rw [hs1] at q; exact q) | (have q := hib (by omega); rw [hs2] at q; exact q))) | omega | exact ent (by kernel_rfl) | (intro hgd; exact absurd hgd (by decide)) | rfl | (simp only [go_sem, reduceIte, reduceCtorEq, Nat.reduceAdd, Nat.reduceMul, Nat.reduceEqDiff, Nat.reduceLT, Nat.reduceLeDiff, Nat.reduceSub, Nat.reducePow, Nat.reduceBEq, Int.reduceToNat, List.reduceReplicate, hxl, hyl, hs1, hs2]; done) | (intro _hgd; simp_all [go_sem]; done)
              exact hD13 _ _ _ _ _ _ _
            · -- region 13
              refine AW.regionS 0 (fun ii => if ii = 2 then some (.reads false (.bool (setOk n x))) else if ii = 7 then some (.reads false (.bool (setOk m y))) else if ii = 14 then some (.skip) else none) [1, 10, 11, 13, 16, 124] [10, 11, 16] ?_
              simp only [go_sem, reduceIte, reduceCtorEq, Nat.reduceAdd, Nat.reduceMul, Nat.reduceEqDiff, Nat.reduceLT, Nat.reduceLeDiff, Nat.reduceSub, Nat.reducePow, Nat.reduceBEq, Int.reduceToNat, List.reduceReplicate, hxl, hyl, hs1, hs2]
              repeat with_reducible refine cj ?_ ?_
              all_goals try first | (first | (have q := hia (by omega); rw [hs1] at q; exact q) | (have q := hib (by omega); rw [hs2] at q; exact q)) | (intros; (repeat' apply And.intro) <;> first | assumption | (first | (have q := hia (by omega); rw [hs1] at q; exact q) | (have q := hib (by omega); rw [hs2] at q; exact q))) | omega | exact ent (by kernel_rfl) | (intro hgd; exact absurd hgd (by decide)) | rfl | (simp only [go_sem, reduceIte, reduceCtorEq, Nat.reduceAdd, Nat.reduceMul, Nat.reduceEqDiff, Nat.reduceLT, Nat.reduceLeDiff, Nat.reduceSub, Nat.reducePow, Nat.reduceBEq, Int.reduceToNat, List.reduceReplicate, hxl, hyl, hs1, hs2]; done) | (intro _hgd; simp_all [go_sem]; done)
              exact hD13 _ _ _ _ _ _ _
theorem law_koenig (n m : Int) (E P : List (Int × Int)) (x y : USet) (hl : E.length ≤ 9223372036854775807) (hlP : P.length ≤ 9223372036854775807) (hx : x.W.length ≤ 9223372036854775807) (hy : y.W.length ≤ 9223372036854775807) (hox : okW x.W) (hoy : okW y.W) :
    Reads Try.prog 6 false [.int .i64 n, .int .i64 m, .rsl 2 (E.map pairV), .rsl 2 (P.map pairV), .agg [.int .i64 x.N, .rsl 1 (words x.W)], .agg [.int .i64 y.N, .rsl 1 (words y.W)]] (.bool true) := by
  by_cases hv : validM n m E = true
  · obtain ⟨a, b, rfl, rfl, h⟩ := gd_of hv
    cases hs : setOk a x && setOk b y with
    | true => exact kon_t h P x y hlP hx hy hox hoy hs
    | false => exact kon_f h P x y hlP hx hy hox hoy hs
  · exact kon_bad n m E P x y hl hlP hx hy (by simpa using hv)
end Go.Proofs.M

/- Arguments that are read as data, as pure trees. -/
namespace Go.AM

inductive F2 {α β : Type} (R : α → β → Prop) : List α → List β → Prop
  | nil : F2 R [] []
  | cons {a b l r} (h : R a b) (t : F2 R l r) : F2 R (a :: l) (b :: r)

/-- The shape of a type's cells. -/
def Fit (P : Program) : Nat → TypeId → List AV → Prop
  | 0, _, _ => False
  | f + 1, t, avs => match P.underlying t with
    | some .bool => ∃ b, avs = [.bool b]
    | some (.int k) => ∃ n, avs = [.int k n] ∧ k.min ≤ n ∧ n ≤ k.max
    | some .string => ∃ s, avs = [.str s]
    | some (.slice e) => P.cellsOf e = 0 ∨ ∃ es, avs = [.rsl (P.cellsOf e) es] ∧ es.length ≤ maxLen ∧ ∀ x ∈ es, x.length = P.cellsOf e ∧ Fit P f e x
    | some (.struct fs) => ∃ parts : List (List AV), avs = parts.flatten ∧ F2 (fun (fl : Field) p => p.length = P.cellsOf fl.type ∧ Fit P f fl.type p) fs.toList parts
    | some (.array n e) => ∃ parts : List (List AV), avs = parts.flatten ∧ parts.length = n ∧ ∀ p ∈ parts, p.length = P.cellsOf e ∧ Fit P f e p
    | _ => True

abbrev immW (w : World) : Nat → Prop := immF w fun _ => False
def Match (w : World) (avs : List AV) (cs : List Value) : Prop := avs.length = cs.length ∧ ∀ i, i < avs.length → RelP (immW w) w (avs.getD i .any) (cs.getD i undef)

theorem Match.append {w : World} {a a' : List AV} {c c' : List Value} (h : Match w a c) (h' : Match w a' c') : Match w (a ++ a') (c ++ c') := by
  obtain ⟨h1, h2⟩ := h
  obtain ⟨k1, k2⟩ := h'
  refine ⟨by simp [h1, k1], fun i hi => ?_⟩
  rw [getD_append, getD_append, ← h1]
  by_cases hlt : i < a.length
  · rw [if_pos hlt, if_pos hlt]; exact h2 i hlt
  · rw [if_neg hlt, if_neg hlt]
    exact k2 _ (by simp at hi; omega)
theorem Match.one {w : World} {a : AV} {u : Value} (h : RelP (immW w) w a u) : Match w [a] [u] := ⟨rfl, fun i hi => by
  match i, hi with
  | 0, _ => exact h⟩

theorem mapM_some {α β : Type} {f : α → Option β} : ∀ {l : List α} {r : List β}, l.mapM f = some r → F2 (fun a b => f a = some b) l r
  | [], r, h => by
    simp only [List.mapM_nil, Option.pure_def, Option.some.injEq] at h
    subst h; exact .nil
  | a :: l, r, h => by
    rw [List.mapM_cons] at h
    cases ha : f a with
    | none => simp [ha] at h
    | some b =>
      cases hl : l.mapM f with
      | none => simp [ha, hl] at h
      | some r' =>
        simp [ha, hl] at h
        subst h
        exact .cons ha (mapM_some hl)

theorem range_mapM {β : Type} {f : Nat → Option β} {n : Nat} {r : List β} (h : (List.range n).mapM f = some r) : r.length = n ∧ ∀ i, i < n → ∃ b, r[i]? = some b ∧ f i = some b := by
  have h2 := mapM_some h
  have key : ∀ {l : List Nat} {r : List β}, F2 (fun a b => f a = some b) l r → r.length = l.length ∧ ∀ (i a : Nat), l[i]? = some a → ∃ b, r[i]? = some b ∧ f a = some b := by
    intro l r h
    induction h with
    | nil => exact ⟨rfl, by simp⟩
    | cons h t ih =>
      refine ⟨by simp [ih.1], fun i a ha => ?_⟩
      cases i with
      | zero => simp only [List.getElem?_cons_zero, Option.some.injEq] at ha; subst ha; exact ⟨_, rfl, h⟩
      | succ i => simpa using ih.2 i a (by simpa using ha)
  obtain ⟨k1, k2⟩ := key h2
  refine ⟨by simpa using k1, fun i hi => k2 i i (by simp [hi])⟩

theorem cells?_spec {w : World} {a : Addr} {n : Nat} {cs : List Value} (h : w.cells? 0 a n = some cs) : cs.length = n ∧ ∀ j, j < n → w.cell? (a.add j) = some (cs.getD j undef) := by
  simp only [World.cells?, Nat.zero_le, if_true] at h
  obtain ⟨h1, h2⟩ := range_mapM h
  refine ⟨h1, fun j hj => ?_⟩
  obtain ⟨b, e1, e2⟩ := h2 j hj
  rw [e2, List.getD_eq_getElem?_getD, e1]; rfl

theorem cell?_spot {w : World} {a : Addr} {v : Value} (h : w.cell? a = some v) : a.spot = none ∧ a.block < w.heap.size := by
  unfold World.cell? at h
  split at h
  · rename_i c _ _ hh
    split at h
    · cases h
    · rename_i hs
      exact ⟨by simpa using hs, heap_lt hh⟩
  · cases h

theorem chunks_struct {P : Program} (cs : List Value) : ∀ (fs : List Field) (o : Nat), (∀ (j : Nat) f, fs[j]? = some f → f.offset = o + ((fs.take j).map fun f => P.cellsOf f.type).sum) →
    (fs.map fun f => (cs.drop f.offset).take (P.cellsOf f.type)).flatten = (cs.drop o).take ((fs.map fun f => P.cellsOf f.type).sum)
  | [], o, _ => by simp
  | f :: fs, o, h => by
    have h0 := h 0 f rfl
    simp at h0
    have ih := chunks_struct (P := P) cs fs (o + P.cellsOf f.type) fun j g hj => by
      have := h (j + 1) g (by simpa using hj)
      rw [this]
      simp [Nat.add_assoc]
    simp only [List.map_cons, List.flatten_cons, List.sum_cons, ih, h0]
    rw [List.take_add, List.drop_drop]

theorem chunks_array (cs : List Value) (m : Nat) : ∀ n, ((List.range n).map fun i => (cs.drop (i * m)).take m).flatten = cs.take (n * m)
  | 0 => by simp
  | n + 1 => by
    rw [List.range_succ, List.map_append, List.flatten_append, chunks_array cs m n, Nat.succ_mul, List.take_add]
    simp

theorem match_flatten {α : Type} {w : World} {g : α → List Value} {p : α → List AV → Prop} : ∀ {l : List α} {parts : List (List AV)}, F2 (fun a x => p a x ∧ Match w x (g a)) l parts → Match w parts.flatten (l.map g).flatten
  | _, _, .nil => ⟨rfl, by simp⟩
  | _, _, .cons h t => by
    simp only [List.flatten_cons, List.map_cons]
    exact h.2.append (match_flatten t)

theorem forall2_imp {α β : Type} {R S : α → β → Prop} (h : ∀ a b, R a b → S a b) : ∀ {l : List α} {r : List β}, F2 R l r → F2 S l r
  | _, _, .nil => .nil
  | _, _, .cons h1 t => .cons (h _ _ h1) (forall2_imp h t)
theorem forall2_len {α β : Type} {R : α → β → Prop} : ∀ {l : List α} {r : List β}, F2 R l r → l.length = r.length
  | _, _, .nil => rfl
  | _, _, .cons _ t => by simp [forall2_len t]
theorem forall2_right {α β : Type} {R : α → β → Prop} {Q : β → Prop} (h : ∀ a b, R a b → Q b) : ∀ {l : List α} {r : List β}, F2 R l r → ∀ b ∈ r, Q b
  | _, _, .nil, b, hb => by cases hb
  | _, _, .cons h1 t, b, hb => by
    rcases List.mem_cons.1 hb with rfl | hb
    · exact h _ _ h1
    · exact forall2_right h t b hb

theorem fit_of_trod {H : Type} {enc : TypeId × Value → H} {P : Program} {w : World} (hl : laidOutB P = true) : ∀ (n : Nat) (t : TypeId) (cs : List Value) (x : DataW H × List MemPlace), t < P.types.size →
    DataW.trod enc P w 0 (fun _ => true) true n t cs = some x → ∃ avs, Fit P n t avs ∧ Match w avs cs := by
  intro n
  induction n with
  | zero => intro t cs x _ h; simp [DataW.trod] at h
  | succ n ih =>
    intro t cs x ht h
    have hany : (match P.underlying t with | some .bool | some (.int _) | some .string | some (.slice _) | some (.struct _) | some (.array _ _) => False | _ => True) → ∃ avs, Fit P (n + 1) t avs ∧ Match w avs cs := fun hh => by
      refine ⟨List.replicate cs.length .any, ?_, by simp, fun i hi => ?_⟩
      · unfold Fit
        split <;> simp_all
      · have : (List.replicate cs.length AV.any).getD i .any = .any := by
          simp only [List.getD_eq_getElem?_getD]
          cases h : (List.replicate cs.length AV.any)[i]? with
          | none => rfl
          | some y => simp [List.getElem?_replicate] at h; simp [h.2]
        rw [this]; exact .any _
    by_cases hh : (match P.underlying t with | some .bool | some (.int _) | some .string | some (.slice _) | some (.struct _) | some (.array _ _) => False | _ => True)
    · exact hany hh
    cases hu : P.underlying t with
    | none => exact absurd (by rw [hu]; trivial) hh
    | some d =>
      rw [hu] at hh
      cases d <;> first | exact absurd trivial hh | skip
      case bool =>
        unfold DataW.trod at h
        rw [hu] at h
        rcases cs with _ | ⟨c, _ | ⟨c2, rest⟩⟩ <;> (try cases c) <;> simp at h
        exact ⟨[.bool _], by unfold Fit; rw [hu]; exact ⟨_, rfl⟩, .one (.bool _)⟩
      case int k =>
        unfold DataW.trod at h
        rw [hu] at h
        rcases cs with _ | ⟨c, _ | ⟨c2, rest⟩⟩ <;> (try cases c) <;> simp at h
        rename_i k' m
        obtain ⟨⟨rfl, h1⟩, _⟩ := h
        exact ⟨[.int k' m], by unfold Fit; rw [hu]; exact ⟨_, rfl, by simpa [Lit.wf] using h1⟩, .one (.int _ _)⟩
      case string =>
        unfold DataW.trod at h
        rw [hu] at h
        rcases cs with _ | ⟨c, _ | ⟨c2, rest⟩⟩ <;> (try cases c) <;> simp at h
        exact ⟨[.str _], by unfold Fit; rw [hu]; exact ⟨_, rfl⟩, .one (.str _)⟩
      case slice e =>
        have he := kid_slice hl ht hu
        unfold DataW.trod at h
        rw [hu] at h
        have hbad : ∀ c c2 rest, cs ≠ c :: c2 :: rest := fun c c2 rest e => by subst e; cases c <;> simp at h
        rcases cs with _ | ⟨c, _ | ⟨c2, rest⟩⟩
        · simp at h
        rotate_left
        · exact absurd rfl (hbad _ _ _)
        cases c <;> first | (simp at h; done) | skip
        rename_i a len cap
        cases a with
        | none =>
          rcases len with _ | len <;> rcases cap with _ | cap <;> first | (simp at h; done) | skip
          exact ⟨[.rsl (P.cellsOf e) []], by unfold Fit; rw [hu]; exact .inr ⟨[], rfl, by simp, by simp⟩, .one (.rnil _ _ _)⟩
        | some a =>
          dsimp only at h
          split at h
          · rename_i hb
            cases hm : (List.range len).mapM (fun i => (w.cells? 0 (a.add (i * P.cellsOf e)) (P.cellsOf e)).bind (DataW.trod enc P w 0 (fun _ => true) true n e)) with
            | none => rw [hm] at h; simp at h
            | some elems =>
              obtain ⟨k1, k2⟩ := range_mapM hm
              have k3 : ∀ i, i < len → ∃ avs cs', w.cells? 0 (a.add (i * P.cellsOf e)) (P.cellsOf e) = some cs' ∧ Fit P n e avs ∧ Match w avs cs' := fun i hi => by
                obtain ⟨b, _, e2⟩ := k2 i hi
                cases hc : w.cells? 0 (a.add (i * P.cellsOf e)) (P.cellsOf e) with
                | none => rw [hc] at e2; simp at e2
                | some cs' =>
                  rw [hc] at e2
                  obtain ⟨avs, h1, h2⟩ := ih e cs' b he e2
                  exact ⟨avs, cs', rfl, h1, h2⟩
              classical
              let F : Nat → List AV := fun i => if hi : i < len then Classical.choose (k3 i hi) else []
              let es := (List.range len).map F
              have hlen : es.length = len := by simp [es]
              have hget : ∀ i, i < len → es.getD i [] = F i := fun i hi => by simp [es, List.getD_eq_getElem?_getD, hi]
              have hF : ∀ i, i < len → ∃ cs', w.cells? 0 (a.add (i * P.cellsOf e)) (P.cellsOf e) = some cs' ∧ Fit P n e (F i) ∧ Match w (F i) cs' := fun i hi => by
                have := Classical.choose_spec (k3 i hi)
                simp only [F, dif_pos hi]
                exact this
              have hes : ∀ x ∈ es, x.length = P.cellsOf e ∧ Fit P n e x := fun x hx => by
                simp only [es, List.mem_map, List.mem_range] at hx
                obtain ⟨i, hi, rfl⟩ := hx
                obtain ⟨cs', h1, h2, h3⟩ := hF i hi
                exact ⟨h3.1.trans (cells?_spec h1).1, h2⟩
              rcases Nat.eq_zero_or_pos (P.cellsOf e) with hz | hz
              · exact ⟨[.any], by unfold Fit; rw [hu]; exact .inl hz, .one (.any _)⟩
              refine ⟨[.rsl (P.cellsOf e) es], by unfold Fit; rw [hu]; exact .inr ⟨es, rfl, by rw [hlen]; omega, hes⟩, .one ?_⟩
              rcases Nat.eq_zero_or_pos len with h0 | h0
              · have : es = [] := List.length_eq_zero_iff.1 (by omega)
                rw [this, h0]; exact .rnil _ _ _
              · have hcell : ∀ i j, i < len → j < P.cellsOf e → ∃ v, w.cell? ((a.add (i * P.cellsOf e)).add j) = some v ∧ RelP (immW w) w ((es.getD i []).getD j .any) v := fun i j hi hj => by
                  obtain ⟨cs', h1, h2, h3⟩ := hF i hi
                  obtain ⟨g1, g2⟩ := cells?_spec h1
                  refine ⟨_, g2 j hj, ?_⟩
                  rw [hget i hi]
                  exact h3.2 j (by rw [h3.1, g1]; exact hj)
                obtain ⟨v0, g1, _⟩ := hcell 0 0 h0 hz
                simp only [Nat.zero_mul, Addr.add, if_true] at g1
                obtain ⟨hs, hblk⟩ := cell?_spot g1
                obtain ⟨b, off, sp⟩ := a
                simp only at hs
                subst hs
                have hadd : ∀ i j, ((⟨b, off, none⟩ : Addr).add (i * P.cellsOf e)).add j = ⟨b, off + i * P.cellsOf e + j, none⟩ := fun i j => by
                  simp only [Addr.add]
                  split <;> split <;> simp_all
                rw [← hlen]
                refine .rsl _ es b off cap (fun i j => (w.cell? ⟨b, off + i * P.cellsOf e + j, none⟩).getD undef) (by omega) ⟨hblk, fun h => h⟩ (fun x hx => (hes x hx).1) (fun i j hi hj => ?_) (fun i j hi hj => ?_)
                · obtain ⟨v, e1, _⟩ := hcell i j (by omega) hj
                  rw [hadd] at e1
                  simp [e1]
                · obtain ⟨v, e1, e2⟩ := hcell i j (by omega) hj
                  rw [hadd] at e1
                  simpa [e1] using e2
          · cases h
      case struct fs =>
        obtain ⟨hk1, hk2, hk3⟩ := kid_struct hl ht hu
        unfold DataW.trod at h
        rw [hu] at h
        dsimp only at h
        split at h
        · rename_i hlen
          cases hm : (fs.toList.mapM fun f => DataW.trod enc P w 0 (fun _ => true) true n f.type ((cs.drop f.offset).take (P.cellsOf f.type))) with
          | none => rw [hm] at h; simp at h
          | some xs =>
            have h2 := mapM_some hm
            have h3 : ∃ parts : List (List AV), F2 (fun (fl : Field) p => (p.length = P.cellsOf fl.type ∧ Fit P n fl.type p) ∧ Match w p ((cs.drop fl.offset).take (P.cellsOf fl.type))) fs.toList parts := by
              have hall : ∀ f ∈ fs.toList, f.type < P.types.size ∧ f.offset + P.cellsOf f.type ≤ cs.length := fun f hf => by
                refine ⟨hk1 f hf, ?_⟩
                obtain ⟨j, hj, rfl⟩ := List.mem_iff_getElem.1 hf
                have h5 := hk3 j fs.toList[j] (List.getElem?_eq_getElem hj)
                rw [h5, hlen, hk2]
                have h6 : (fs.toList.map fun f => P.cellsOf f.type).sum = ((fs.toList.take j).map fun f => P.cellsOf f.type).sum + ((fs.toList.drop j).map fun f => P.cellsOf f.type).sum := by
                  rw [← List.sum_append, ← List.map_append, List.take_append_drop]
                rw [h6, List.drop_eq_getElem_cons hj]
                simp
              clear hm h hk1 hk2 hk3
              generalize fs.toList = l at h2 hall
              induction h2 with
              | nil => exact ⟨[], .nil⟩
              | cons h1 t ih2 =>
                rename_i f y l' r'
                obtain ⟨parts, hp⟩ := ih2 fun f hf => hall f (List.mem_cons_of_mem _ hf)
                obtain ⟨g1, g2⟩ := hall f (List.mem_cons_self ..)
                obtain ⟨avs, k1, k2⟩ := ih _ _ _ g1 h1
                exact ⟨avs :: parts, .cons ⟨⟨by rw [k2.1]; simp; omega, k1⟩, k2⟩ hp⟩
            obtain ⟨parts, hp⟩ := h3
            refine ⟨parts.flatten, by unfold Fit; rw [hu]; exact ⟨parts, rfl, forall2_imp (fun _ _ h => h.1) hp⟩, ?_⟩
            have h4 := match_flatten hp
            rw [chunks_struct cs fs.toList 0 (fun j f hj => by simpa using hk3 j f hj)] at h4
            rw [← hk2, ← hlen] at h4
            simpa using h4
        · cases h
      case array m e =>
        obtain ⟨he, hsz⟩ := kid_array hl ht hu
        unfold DataW.trod at h
        rw [hu] at h
        dsimp only at h
        split at h
        · rename_i hlen
          cases hm : ((List.range m).mapM fun i => DataW.trod enc P w 0 (fun _ => true) true n e ((cs.drop (i * P.cellsOf e)).take (P.cellsOf e))) with
          | none => rw [hm] at h; simp at h
          | some xs =>
            have h2 := mapM_some hm
            have h3 : ∃ parts : List (List AV), F2 (fun (i : Nat) p => (p.length = P.cellsOf e ∧ Fit P n e p) ∧ Match w p ((cs.drop (i * P.cellsOf e)).take (P.cellsOf e))) (List.range m) parts := by
              have hall : ∀ i ∈ List.range m, (i + 1) * P.cellsOf e ≤ cs.length := fun i hi => by
                rw [hlen, hsz]
                exact Nat.mul_le_mul_right _ (by have := List.mem_range.1 hi; omega)
              clear hm h hsz
              generalize List.range m = l at h2 hall
              induction h2 with
              | nil => exact ⟨[], .nil⟩
              | cons h1 t ih2 =>
                rename_i i y l' r'
                obtain ⟨parts, hp⟩ := ih2 fun f hf => hall f (List.mem_cons_of_mem _ hf)
                have g2 := hall i (List.mem_cons_self ..)
                obtain ⟨avs, k1, k2⟩ := ih _ _ _ he h1
                rw [Nat.succ_mul] at g2
                exact ⟨avs :: parts, .cons ⟨⟨by rw [k2.1]; simp; omega, k1⟩, k2⟩ hp⟩
            obtain ⟨parts, hp⟩ := h3
            refine ⟨parts.flatten, by unfold Fit; rw [hu]; exact ⟨parts, rfl, by have := forall2_len hp; simpa using this.symm, forall2_right (fun _ _ h => h.1) hp⟩, ?_⟩
            have h4 := match_flatten (g := fun i => (cs.drop (i * P.cellsOf e)).take (P.cellsOf e)) hp
            rw [chunks_array, ← hsz, ← hlen] at h4
            simpa using h4
        · cases h

end Go.AM

/- A law's contract out of a contract over pure trees. -/
namespace Go.AM
open Go.RowKit Go.WideShapes Go.ChangeShapes

def aggT (P : Program) (t : TypeId) : Bool :=
  match P.underlying t with
  | some (.struct _) | some (.array _ _) => true
  | _ => false
def supT (P : Program) (t : TypeId) : Bool :=
  match P.underlying t with
  | some .bool | some (.int _) | some .string | some (.slice _) | some (.struct _) | some (.array _ _) => true
  | _ => false
def argAV (P : Program) (t : TypeId) (avs : List AV) : AV := if aggT P t then .agg avs else avs.getD 0 .any
def argsAV (P : Program) : List TypeId → List (List AV) → List AV
  | t :: ts, a :: avs => argAV P t a :: argsAV P ts avs
  | _, _ => []

theorem match_arg {P : Program} {w : World} {t : TypeId} {v : Value} {avs : List AV} {base : Nat} (hs : supT P t = true) (hok : Value.okWide P w .any base t v) (h : Match w avs v.cells.toList) : RelP (immW w) w (argAV P t avs) v := by
  have hone : (∀ cs, v ≠ .agg cs) → aggT P t = false → RelP (immW w) w (argAV P t avs) v := fun hv ha => by
    have hc : v.cells.toList = [v] := by
      cases v <;> first | rfl | exact absurd rfl (hv _)
    rw [hc] at h
    unfold argAV
    rw [ha]
    exact h.2 0 (by rw [h.1]; simp)
  have hagg : (∃ cs, v = .agg cs) → aggT P t = true → RelP (immW w) w (argAV P t avs) v := fun ⟨cs, e⟩ ha => by
    subst e
    unfold argAV
    rw [ha]
    obtain ⟨l⟩ := cs
    exact .agg _ _ h.1 h.2
  cases hu : P.underlying t with
  | none => simp [supT, hu] at hs
  | some d =>
    cases d <;> first | (simp [supT, hu] at hs; done) | skip
    case bool => obtain ⟨b, rfl⟩ := okWide_bool hu hok; exact hone (by simp) (by simp [aggT, hu])
    case int => obtain ⟨b, rfl⟩ := okWide_int hu hok; exact hone (by simp) (by simp [aggT, hu])
    case string => obtain ⟨b, rfl⟩ := okWide_string hu hok; exact hone (by simp) (by simp [aggT, hu])
    case slice => obtain ⟨b, _, _, rfl⟩ := okWide_slice hu hok; exact hone (by simp) (by simp [aggT, hu])
    case struct => obtain ⟨cs, rfl, _⟩ := okWide_struct hu hok; exact hagg ⟨_, rfl⟩ (by simp [aggT, hu])
    case array =>
      unfold Value.okWide at hok
      rw [hu] at hok
      obtain ⟨cs, rfl, _⟩ := hok
      exact hagg ⟨_, rfl⟩ (by simp [aggT, hu])

theorem args_match {H : Type} {enc : TypeId × Value → H} {P : Program} {w : World} {base : Nat} (hl : laidOutB P = true) : ∀ {ts : List TypeId} {vs : List Value} {ds : List (DataW H)} {ps : List MemPlace}, (∀ t ∈ ts, t < P.types.size ∧ supT P t = true) →
    (∀ (j : Nat) t v, ts[j]? = some t → vs[j]? = some v → Value.okWide P w .any base t v) → DataW.TrodAll enc P w 0 (fun _ => true) true ts vs ds ps →
    ∃ ass, F2 (fun t avs => ∃ n, Fit P n t avs) ts ass ∧ (argsAV P ts ass).length = vs.length ∧ ∀ i, i < vs.length → RelP (immW w) w ((argsAV P ts ass).getD i .any) (vs.getD i undef)
  | [], vs, ds, ps, _, _, h => by
    obtain ⟨rfl, _, _⟩ := trodAll_nil h
    exact ⟨[], .nil, rfl, by simp⟩
  | t :: ts, vs, ds, ps, hts, hv, h => by
    obtain ⟨v, vs', d, ds', p, q, rfl, rfl, rfl, ⟨n, h1⟩, h2⟩ := trodAll_cons h
    obtain ⟨avs, k1, k2⟩ := fit_of_trod hl n t _ _ (hts t (List.mem_cons_self ..)).1 h1
    obtain ⟨ass, j1, j2, j3⟩ := args_match hl (fun t ht => hts t (List.mem_cons_of_mem _ ht)) (fun j t v e1 e2 => hv (j + 1) t v (by simpa using e1) (by simpa using e2)) h2
    refine ⟨avs :: ass, .cons ⟨n, k1⟩ j1, by simp [argsAV, j2], fun i hi => ?_⟩
    cases i with
    | zero => simpa [argsAV] using match_arg (hts t (List.mem_cons_self ..)).2 (hv 0 t v rfl rfl) k2
    | succ i => simpa [argsAV] using j3 i (by simpa using hi)

theorem Ext.below {w w' : World} (h : Ext (fun _ => False) w w') : Below w.heap.size w w' := ⟨h.os, h.tape, h.output, h.size, fun k hk => h.block k hk fun e => e⟩

theorem trodAll_below {H : Type} {enc : TypeId × Value → H} {P : Program} {W W' : World} (hl : laidOutB P = true) (hb : Below W.heap.size W W') {sp : Nat → Bool} : ∀ {ts : List TypeId} {vs : List Value} {ds : List (DataW H)} {ps : List MemPlace},
    (∀ t ∈ ts, t < P.types.size ∧ P.readableRec t = true) → DataW.TrodAll enc P W 0 (fun _ => true) true ts vs ds ps → (∀ p ∈ ps, p.block < W.heap.size ∧ sp p.block = true) → DataW.TrodAll enc P W' 0 sp true ts vs ds ps
  | [], vs, ds, ps, _, h, _ => by
    obtain ⟨rfl, rfl, rfl⟩ := trodAll_nil h
    rfl
  | t :: ts, vs, ds, ps, hts, h, hp => by
    obtain ⟨v, vs', d, ds', p, q, rfl, rfl, rfl, h1, h2⟩ := trodAll_cons h
    obtain ⟨g1, g2⟩ := hts t (List.mem_cons_self ..)
    exact ⟨p, q, WideElems.Trod_stays hl g2 g1 h1 (fun x hx => hb.same (hp x (List.mem_append_left _ hx)).1) (fun x hx => (hp x (List.mem_append_left _ hx)).2),
      trodAll_below hl hb (fun t ht => hts t (List.mem_cons_of_mem _ ht)) h2 (fun x hx => hp x (List.mem_append_right _ hx)), rfl⟩

theorem trodAll_len {H : Type} {enc : TypeId × Value → H} {P : Program} {w : World} {b : Nat} {sp : Nat → Bool} {hd : Bool} : ∀ {ts : List TypeId} {vs : List Value} {ds : List (DataW H)} {ps : List MemPlace}, DataW.TrodAll enc P w b sp hd ts vs ds ps → vs.length = ts.length ∧ ds.length = ts.length
  | [], vs, ds, ps, h => by
    obtain ⟨rfl, rfl, rfl⟩ := trodAll_nil h
    exact ⟨rfl, rfl⟩
  | t :: ts, vs, ds, ps, h => by
    obtain ⟨v, vs', d, ds', p, q, rfl, rfl, rfl, _, h2⟩ := trodAll_cons h
    have := trodAll_len h2
    exact ⟨by simp [this.1], by simp [this.2]⟩

/-- What the form asks of a law's call, out of a contract over pure trees. -/
theorem law_contract {H : Type} {enc : TypeId × Value → H} {P : Program} {fn : Func} {f : FuncId} {s : ChangeSpec} (hl : laidOutB P = true) {ts : List TypeId} {T : TypeId} (hps : fn.params.toList = ts) (hrs : fn.resultTypes = #[T]) (hT : P.underlying T = some .bool)
    (hts : ts.all (fun t => decide (t < P.types.size) && supT P t && P.readableRec t) = true) (hvars : s.vars = []) (hs : ∀ ds : List (DataW H), ds.length = ts.length → s.fn H ds = { results := [.lit (.bool true)], args := ds })
    (hread : ∀ ass, F2 (fun t avs => ∃ n, Fit P n t avs) ts ass → Reads P f false (argsAV P ts ass) (.bool true))
    {W : World} {base : Nat} {args : Array Value} {ds gs : List (DataW H)} {before : List MemPlace} (hval : ∀ (j : Nat) t v, fn.params[j]? = some t → args[j]? = some v → Value.okWide P W .any base t v)
    (hW : DataW.Whole enc P fn.params.toList s.vars false W args.toList ds gs before) (hgl : GL (immF W fun _ => False) W) :
    Calls P f args W fun e W' => ∃ v, e = .returned v ∧ s.post enc P fn false true false false W args v W' := by
  have hts' : ∀ t ∈ ts, t < P.types.size ∧ supT P t = true ∧ P.readableRec t = true := fun t ht => by
    have := List.all_eq_true.1 hts t ht
    simpa [and_assoc] using this
  have hW' := hW
  obtain ⟨p, q, hA, hV, rfl, hfz, hnd⟩ := hW
  rw [hvars] at hV
  obtain ⟨rfl, rfl⟩ := trodVars_none hV
  rw [hps] at hA
  obtain ⟨hl1, hl2⟩ := trodAll_len hA
  obtain ⟨ass, j1, j2, j3⟩ := args_match hl (fun t ht => ⟨(hts' t ht).1, (hts' t ht).2.1⟩) (fun j t v e1 e2 => hval j t v (by rw [← hps] at e1; simpa using e1) (by simpa using e2)) hA
  have hc := hread ass j1 W (fun _ => False) args.toList (fun _ h => h.elim) hgl j2.symm (fun i hi => j3 i (by omega))
  rw [show args.toList.toArray = args by simp] at hc
  refine hc.mono fun e W' ⟨u, h1, h2, h3⟩ => ⟨u, h1, ?_⟩
  have hu : u = .bool true := by cases h3; rfl
  subst hu
  have hb := h2.below
  have hlt : ∀ x ∈ p, x.block < W.heap.size := fun x hx => hW'.lt x (by simpa using hx)
  have hsf := hs ds hl2
  have hres : ∀ (b : Nat) (sp : Nat → Bool) (hd : Bool), DataW.TrodAll enc P W' b sp hd fn.resultTypes.toList ((Value.bool true).resultList fn.resultTypes.size) (s.fn H (ds ++ [])).results [] := fun b sp hd => by
    rw [hrs, List.append_nil, hsf]
    exact trodAll_mk1 (shut_bool hT true)
  have hargs : ∀ sp : Nat → Bool, (∀ x ∈ p, sp x.block = true) → DataW.TrodAll enc P W' 0 sp true fn.params.toList args.toList (s.fn H (ds ++ [])).args p := fun sp hsp => by
    rw [List.append_nil, hsf, hps]
    exact trodAll_below hl hb (fun t ht => ⟨(hts' t ht).1, (hts' t ht).2.2⟩) hA fun x hx => ⟨hlt x hx, hsp x hx⟩
  have hvs : ∀ sp : Nat → Bool, DataW.TrodVars enc P W' sp s.vars (s.fn H (ds ++ [])).vars [] := fun sp => by
    rw [List.append_nil, hsf, hvars]; rfl
  refine ⟨ds, [], p ++ [], [], p, [], hW', hres _ _ _, hargs _ (fun x hx => by simpa using hlt x hx), hvs _, World.keptBut_mono (fun x hx => ⟨hx, ?_⟩) (hb.frame (· ∈ p ++ [])), fun _ => ?_⟩
  · simpa using hx
  · refine ⟨ok_one hrs rfl (okWide_bool_mk hT _), _, _, ([] ++ p) ++ [], ⟨[] ++ p, [], trodAll_append (hargs _ (fun _ _ => rfl)) (hres _ _ _), hvs _, rfl, ?_, ?_⟩, ?_⟩
    · intro b off hp
      have hin : MemPlace.cell b off ∈ p := by simpa using hp
      rw [hb.frozen (hlt _ hin)]
      exact hfz b off (by simpa using hin)
    · intro ha; cases ha
    · intro x hx _
      simpa using hx

end Go.AM

/- The shapes of arguments. -/
namespace Go.AM
theorem fit_int {P : Program} {t : TypeId} {k : IntKind} (hu : P.underlying t = some (.int k)) {f : Nat} {x : List AV} (h : Fit P f t x) : ∃ n, x = [.int k n] ∧ k.min ≤ n ∧ n ≤ k.max := by
  cases f with
  | zero => exact h.elim
  | succ f => unfold Fit at h; rw [hu] at h; exact h
theorem fit_slice {P : Program} {t e : TypeId} {m : Nat} (hu : P.underlying t = some (.slice e)) (hm : P.cellsOf e = m) (h0 : m ≠ 0) {f : Nat} {x : List AV} (h : Fit P f t x) : ∃ es f', x = [.rsl m es] ∧ es.length ≤ maxLen ∧ ∀ y ∈ es, Fit P f' e y := by
  cases f with
  | zero => exact h.elim
  | succ f =>
    unfold Fit at h; rw [hu] at h
    rcases h with h | ⟨es, h1, h2, h3⟩
    · exact absurd (hm ▸ h) h0
    · rw [hm] at h1; exact ⟨es, f, h1, h2, fun y hy => (h3 y hy).2⟩
theorem fit_struct {P : Program} {t : TypeId} {fs : Array Field} (hu : P.underlying t = some (.struct fs)) {f : Nat} {x : List AV} (h : Fit P f t x) : ∃ f' parts, x = List.flatten parts ∧ F2 (fun (fl : Field) p => Fit P f' fl.type p) fs.toList parts := by
  cases f with
  | zero => exact h.elim
  | succ f =>
    unfold Fit at h; rw [hu] at h
    obtain ⟨parts, h1, h2⟩ := h
    exact ⟨f, parts, h1, forall2_imp (fun _ _ h => h.2) h2⟩
theorem fit_array {P : Program} {t e : TypeId} {m : Nat} (hu : P.underlying t = some (.array m e)) {f : Nat} {x : List AV} (h : Fit P f t x) : ∃ f' parts, x = List.flatten parts ∧ parts.length = m ∧ ∀ p ∈ parts, Fit P f' e p := by
  cases f with
  | zero => exact h.elim
  | succ f =>
    unfold Fit at h; rw [hu] at h
    obtain ⟨parts, h1, h2, h3⟩ := h
    exact ⟨f, parts, h1, h2, fun p hp => (h3 p hp).2⟩
theorem F2.two {α β : Type} {R : α → β → Prop} {a b : α} {l : List β} (h : F2 R [a, b] l) : ∃ x y, l = [x, y] ∧ R a x ∧ R b y := by
  cases h with | cons h1 t => cases t with | cons h2 t => cases t with | nil => exact ⟨_, _, rfl, h1, h2⟩
theorem F2.five {α β : Type} {R : α → β → Prop} {a b c d e : α} {l : List β} (h : F2 R [a, b, c, d, e] l) : ∃ x y z u v, l = [x, y, z, u, v] ∧ R a x ∧ R b y ∧ R c z ∧ R d u ∧ R e v := by
  cases h with | cons h1 t => cases t with | cons h2 t => cases t with | cons h3 t => cases t with | cons h4 t => cases t with | cons h5 t => cases t with | nil => exact ⟨_, _, _, _, _, rfl, h1, h2, h3, h4, h5⟩
theorem exists_mapP {α β : Type} {f : α → β} {p : α → Prop} : ∀ {l : List β}, (∀ x ∈ l, ∃ a, x = f a ∧ p a) → ∃ m : List α, l = m.map f ∧ ∀ a ∈ m, p a
  | [], _ => ⟨[], rfl, fun _ h => by cases h⟩
  | x :: l, h => by
    obtain ⟨a, rfl, ha⟩ := h x (List.mem_cons_self ..)
    obtain ⟨m, rfl, hm⟩ := exists_mapP fun y hy => h y (List.mem_cons_of_mem _ hy)
    exact ⟨a :: m, rfl, fun b hb => by rcases List.mem_cons.1 hb with rfl | hb; exact ha; exact hm b hb⟩
theorem okW_of {W : List Int} (h : ∀ w ∈ W, 0 ≤ w ∧ w ≤ 18446744073709551615) : okW W := fun i => by
  by_cases hi : i < W.length
  · have := h _ (mem_getD hi 0); omega
  · rw [List.getD_eq_getElem?_getD, List.getElem?_eq_none (by omega)]; simp
end Go.AM

/- The shapes of the matching laws' arguments. -/
namespace Go.AM
open Go.Proofs
theorem fit_words {f : Nat} {x : List AV} (h : Fit Try.prog f 28 x) : ∃ W : List Int, x = [.rsl 1 (words W)] ∧ W.length ≤ 9223372036854775807 ∧ okW W := by
  obtain ⟨es, f2, rfl, h5, h6⟩ := fit_slice (m := 1) Try.underlying28 (by kernel_rfl) (by decide) h
  obtain ⟨ws, rfl, hw⟩ := exists_mapP (f := fun x : Int => [AV.int .u64 x]) (p := fun w => 0 ≤ w ∧ w ≤ 18446744073709551615) fun y hy => by
    obtain ⟨n, e, h1, h2⟩ := fit_int Try.underlying61 (h6 y hy)
    exact ⟨n, e, by simpa [IntKind.min, IntKind.signed] using h1, by simpa [IntKind.max, IntKind.signed, IntKind.bits] using h2⟩
  exact ⟨ws, rfl, by simpa [maxLen] using h5, okW_of hw⟩
theorem fit_set {f : Nat} {x : List AV} (h : Fit Try.prog f 30 x) : ∃ y : USet, x = rowV y ∧ y.W.length ≤ 9223372036854775807 ∧ okW y.W := by
  obtain ⟨f', parts, rfl, h2⟩ := fit_struct Try.underlying30 h
  obtain ⟨a, b, rfl, h3, h4⟩ := F2.two h2
  obtain ⟨i, rfl, _⟩ := fit_int Try.underlying3 h3
  obtain ⟨W, rfl, h5, h6⟩ := fit_words h4
  exact ⟨⟨i, W⟩, rfl, h5, h6⟩
theorem fit_pair {f : Nat} {x : List AV} (h : Fit Try.prog f 51 x) : ∃ p : Int × Int, x = pairV p := by
  obtain ⟨f', parts, rfl, hl, h2⟩ := fit_array Try.underlying51 h
  match parts, hl, h2 with
  | [a, b], _, h2 =>
    obtain ⟨i, rfl, _⟩ := fit_int Try.underlying3 (h2 a (by simp))
    obtain ⟨j, rfl, _⟩ := fit_int Try.underlying3 (h2 b (by simp))
    exact ⟨(i, j), rfl⟩
theorem fit_pairs {f : Nat} {x : List AV} (h : Fit Try.prog f 22 x) : ∃ ns : List (Int × Int), x = [.rsl 2 (ns.map pairV)] ∧ ns.length ≤ 9223372036854775807 := by
  obtain ⟨es, f2, rfl, h5, h6⟩ := fit_slice (m := 2) Try.underlying22 (by kernel_rfl) (by decide) h
  obtain ⟨ns, rfl, _⟩ := exists_mapP (f := pairV) (p := fun _ => True) fun y hy => by
    obtain ⟨p, e⟩ := fit_pair (h6 y hy)
    exact ⟨p, e, trivial⟩
  exact ⟨ns, rfl, by simpa [maxLen] using h5⟩
theorem F2.six {α β : Type} {R : α → β → Prop} {a b c d e g : α} {l : List β} (h : F2 R [a, b, c, d, e, g] l) : ∃ x y z u v w, l = [x, y, z, u, v, w] ∧ R a x ∧ R b y ∧ R c z ∧ R d u ∧ R e v ∧ R g w := by
  cases h with | cons h1 t => obtain ⟨y, z, u, v, w, rfl, h2⟩ := F2.five t; exact ⟨_, _, _, _, _, _, rfl, h1, h2⟩
theorem gl_none {imm : Nat → Prop} {w : World} : GL imm w := fun g cs e => by cases e
end Go.AM

