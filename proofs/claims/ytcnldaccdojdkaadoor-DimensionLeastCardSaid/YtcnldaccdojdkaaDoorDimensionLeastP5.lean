/- Lemmas and contracts, part 5: an abstract machine over the model, and the functions that the statement reaches. -/
import Derived.Test.YtcnldaccdojdkaaDoorDimensionLeastP4
set_option linter.unusedVariables false
set_option linter.unusedSimpArgs false
open Nat renaming reduceAdd → zA, reduceMul → zM, reduceEqDiff → zE, reduceLT → zL, reduceLeDiff → zD, reduceSub → zS, reducePow → zP, reduceBEq → zB
open Int renaming reduceToNat → zI
open List renaming reduceReplicate → zR
namespace Go.Proofs.D
open Go.AM Go
set_option maxRecDepth 100000
set_option maxHeartbeats 2000000
theorem rhas_in (b : List Bool) (hb : b.length ≤ 512) (i : Int) (h0 : 0 ≤ i) (h1 : i < b.length) : Reads Tryd.prog 59 false [.agg (rowB b), .int .i64 i] (.bool (b.getD i.toNat false)) := by
  have hd := div64_rng (i := i) (n := b.length) h0 (by omega)
  have hwl := setW_len' b
  have hgw := words_getD (l := setW b b.length) (i := (i.tdiv 64).toNat) (by omega)
  have hwr := wrap64 h0
  have hm := setW_mem h0 h1
  have hbl := setB_len hb
  unfold rowB hasW at *
  generalize setW b b.length = W at *
  refine Reads.body (rs := [.tmp 4]) Tryd.func59 rfl Tryd.ntmps59 rfl (by simp) ?_
  generalize hQr : retQ _ _ _ = Qr
  -- block 1
  refine AW.sg [1,2] [2] trivial ?_
  refine AW.sg [4] [] (@hgw) ?_
  repeat with_reducible refine cj ?_ ?_
  all_goals try first | omega | (intros; (repeat' apply And.intro) <;> first | assumption | omega | decide) | (intro hgd; exact absurd hgd (by decide)) | rfl | (simp only [go_sem, reduceIte, reduceCtorEq, zA, zM, zE, zL, zD, zS, zP, zB, zI, zR, hgw]; done) | (intro _hgd; simp_all [go_sem]; done)
  -- ret 1
  rw [← hQr]
  refine AW.rt trivial ?_
  exact Wk.of_eq (by rw [hm, decide_eq_true h0, decide_eq_true h1]; rfl)
theorem isset_r (N n : Int) (W : List Int) (hW : okW W) (hl : W.length ≤ 1000000) : Reads Tryd.prog 46 false [.agg [.int .i64 N, .rsl 1 (words W)], .int .i64 n] (.bool (decide (N = n) && validS n W)) := by
  have hwe := wordsN_ref n
  have hnv : ¬ (0 ≤ n ∧ n ≤ 512 ∧ (W.length : Int) = wordsN n) → validS n W = false := fun h => by
    cases e : validS n W
    · rfl
    · exact absurd (validS_sz e) h
  refine Reads.body (rs := [.tmp 4]) Tryd.func46 rfl Tryd.ntmps46 rfl (by simp) ?_
  generalize hQr : retQ _ _ _ = Qr
  -- block 2
  refine AW.sg [1,2] [2] (@hwe) ?_
  refine AW.seq fun K1 hK1 => ?_
  refine AW.sg [1,2,26] [2] (@hwe) ?_
  repeat with_reducible refine cj ?_ ?_
  all_goals try first | ((intro hh; have hc := hh; simp only [Bool.or_eq_false_iff, decide_eq_false_iff_not] at hc; have hwn2 := wordsN_rng (n := n) (by omega); (repeat' apply And.intro) <;> first | exact hh | omega | decide)) | (intros; (repeat' apply And.intro) <;> first | assumption | ((intro hh; have hc := hh; simp only [Bool.or_eq_false_iff, decide_eq_false_iff_not] at hc; have hwn2 := wordsN_rng (n := n) (by omega); (repeat' apply And.intro) <;> first | exact hh | omega | decide))) | omega | (intro hgd; exact absurd hgd (by decide)) | rfl | (simp only [go_sem, reduceIte, reduceCtorEq, zA, zM, zE, zL, zD, zS, zP, zB, zI, zR, hwe]; done) | (intro _hgd; simp_all [go_sem]; done)
  refine AW.cn ?_ ?_
  · intro hb
    refine AW.sg [4] [] (@hwe) ?_
    -- ret 1
    rw [← hQr]
    refine AW.rt (@hwe) ?_
    exact Wk.of_eq (by by_cases hNn : N = n; rw [hnv (by rintro ⟨a, b, c⟩; rcases hb with ((hb | hb) | hb) | hb; exact hb hNn; omega; omega; exact hb c)]; simp; simp [hNn])
  · intro hb
    have hsz : N = n ∧ 0 ≤ n ∧ n ≤ 512 ∧ (W.length : Int) = wordsN n := by refine ⟨?_, ?_, ?_, ?_⟩ <;> (obtain ⟨⟨⟨a, b⟩, c⟩, d⟩ := hb; omega)
    have hwn := wordsN_rng hsz.2.1
    have hNn := hsz.1
    refine AW.skip ?_
    refine hK1 _ _ _ ?_; clear hK1
    refine AW.seq fun K2 hK2 => ?_
    refine AW.sg [2,5] [2] (@hwe) ?_
    refine AW.block ?_
    refine AW.loopE (fun mm ee ss kk => ∃ (i : Nat) (g1 v1 : Nat), 64 * W.length - i = mm ∧ ee = [(2, .ptr ⟨2, g1, none⟩ 0 0), (5, .int .i64 (i : Nat))] ∧ ss = [(2, some ⟨g1, v1, 2, [[.int .i64 N, .rsl 1 (words W)]]⟩)] ∧ (n ≤ i ∧ i ≤ 100000000 ∧ ∀ q : Nat, n ≤ q → q < i → q < 64 * W.length → hasW W q = false)) ?_ ?_
    -- init 1
    · exact ⟨_, n.toNat, _, _, rfl, eD, eD, (⟨by omega, by omega, fun q h1 h2 => by omega⟩)⟩
    rintro mm ee ss kk ⟨i, g1, v1, rfl, rfl, rfl, hI⟩
    generalize hQl1 : thenQ _ _ = Ql1
    obtain ⟨hNi, hi6, hall⟩ := hI
    refine AW.seq fun K3 hK3 => ?_
    refine AW.sg [2,5,33] [2] (@hwe) ?_
    refine AW.cn ?_ ?_
    · intro hb
      have hgw := words_getD (l := W) (i := (((i : Nat) : Int).tdiv 64).toNat) (by rw [Int.tdiv_eq_ediv_of_nonneg (by omega)]; omega)
      have hd := div64_rng (i := (i : Int)) (n := (i : Int) + 1) (by omega) (by omega)
      have hdl : (i : Int).tdiv 64 < W.length := by rw [Int.tdiv_eq_ediv_of_nonneg (by omega)]; omega
      have hdh : hasW W (i : Nat) = decide ((bShr .u64 (W.getD ((i : Int).tdiv 64).toNat 0) ((i : Int).tmod 64)).tmod 2 = 1) := rfl
      refine AW.skip ?_
      refine hK3 _ _ _ ?_; clear hK3
      refine AW.seq fun K4 hK4 => ?_
      refine AW.block ?_
      refine AW.sg [2,5,46] [2] (e3 @hwe @hgw (Eq.symm hdh)) ?_
      refine AW.cn ?_ ?_
      · intro hb
        refine AW.sg [4] [] (@hwe) ?_
        -- ret 2
        rw [← hQl1, ← hQr]
        refine AW.rt (@hwe) ?_
        have hvf : validS n W = false := by
          cases e : validS n W
          · rfl
          · rw [validS_bit hW e hNi (by omega)] at hb; cases hb
        exact Wk.of_eq (by rw [hvf]; simp)
      · intro hb
        have hb0 : hasW W (i : Nat) = false := by simpa using hb
        refine AW.skip ?_
        refine hK4 _ _ _ ?_; clear hK4
        refine AW.rg [2,5] [2] (@hwe) ?_
        -- again 1
        rw [← hQl1]; change Exists _
        refine ⟨_, eO, i + 1, _, _, rfl, eD, eD, ?_⟩
        refine ⟨by omega, by omega, fun q h1 h2 h3 => ?_⟩
        by_cases e : q = i
        · rw [e]; exact hb0
        · exact hall q h1 (by omega) h3
    · intro hb
      -- exit 0
      refine AW.kx [] [] ?_
      rw [← hQl1]
      refine hK2 _ _ _ ?_; clear hK2
      refine AW.sg [4] [] (@hwe) ?_
      -- ret 3
      rw [← hQr]
      refine AW.rt (@hwe) ?_
      exact Wk.of_eq (by rw [validS_bits hW hsz.2.1 hsz.2.2.1 hsz.2.2.2 fun q h1 h2 => hall q h1 (by omega) h2]; simp [hNn])
theorem rsame_r (N : Int) (W : List Int) (hl : W.length ≤ 9223372036854775807) : Reads Tryd.prog 58 false [.agg [.int .i64 N, .rsl 1 (words W)], .agg [.int .i64 N, .rsl 1 (words W)]] (.bool true) := by
  refine Reads.body (rs := [.tmp 4]) Tryd.func58 rfl Tryd.ntmps58 rfl (by simp) ?_
  generalize hQr : retQ _ _ _ = Qr
  -- block 3
  refine AW.sg [2,3] [2,3] trivial ?_
  refine AW.seq fun K1 hK1 => ?_
  refine AW.sg [2,3,19] [2,3] trivial ?_
  repeat with_reducible refine cj ?_ ?_
  all_goals try first | omega | (intros; (repeat' apply And.intro) <;> first | assumption | omega | decide) | (intro hgd; exact absurd hgd (by decide)) | rfl | exact gD | (intro _hgd; simp_all [go_sem]; done)
  refine AW.cn ?_ ?_
  · intro hb
    exfalso; simp at hb
  · intro hb
    refine AW.skip ?_
    refine hK1 _ _ _ ?_; clear hK1
    refine AW.seq fun K2 hK2 => ?_
    refine AW.sg [2,3,5] [2,3] trivial ?_
    refine AW.block ?_
    refine AW.loopE (fun mm ee ss kk => ∃ (i g2 v2 g3 v3 : Nat), W.length - i = mm ∧ ee = [(2, .ptr ⟨2, g2, none⟩ 0 0), (3, .ptr ⟨3, g3, none⟩ 0 0), (5, .int .i64 (i : Nat))] ∧ ss = [(2, some ⟨g2, v2, 2, [[.int .i64 N, .rsl 1 (words W)]]⟩), (3, some ⟨g3, v3, 2, [[.int .i64 N, .rsl 1 (words W)]]⟩)] ∧ (i ≤ W.length)) ?_ ?_
    -- init 1
    · exact ⟨_, 0, _, _, _, _, rfl, eD, eD, eT⟩
    rintro mm ee ss kk ⟨i, g2, v2, g3, v3, rfl, rfl, rfl, hI⟩
    generalize hQl1 : thenQ _ _ = Ql1
    refine AW.seq fun K3 hK3 => ?_
    refine AW.sg [2,3,5,24] [2,3] trivial ?_
    refine AW.cn ?_ ?_
    · intro hb
      have hgw := words_getD (l := W) (i := i) (by omega)
      refine AW.skip ?_
      refine hK3 _ _ _ ?_; clear hK3
      refine AW.seq fun K4 hK4 => ?_
      refine AW.block ?_
      refine AW.sd mixed 0 (fun _ => none) [2,3,5,37] [2,3] (@hgw) ?_
      refine AW.cn ?_ ?_
      · intro hb
        exfalso; simp at hb
      · intro hb
        refine AW.skip ?_
        refine hK4 _ _ _ ?_; clear hK4
        refine AW.rg [2,3,5] [2,3] trivial ?_
        -- again 1
        rw [← hQl1]; change Exists _
        exact ⟨_, eO, i + 1, _, _, _, _, rfl, eD, eD, eT⟩
    · intro hb
      -- exit 0
      refine AW.kx [] [] ?_
      rw [← hQl1]
      refine hK2 _ _ _ ?_; clear hK2
      refine AW.sg [4] [] trivial ?_
      -- ret 3
      rw [← hQr]
      refine AW.rt trivial ?_
      exact Wk.refl _
theorem isset_b (b : List Bool) (hb : b.length ≤ 512) : Reads Tryd.prog 46 false [.agg (rowB b), .int .i64 b.length] (.bool true) := by
  have h := isset_r b.length b.length (setW b b.length) (setW_ok b) (by have := setB_len hb; omega)
  rw [validS_setW hb] at h
  simpa [rowB] using h
theorem less_r (n : Nat) (t : List (List Bool)) (hs : Sq n t) (hn : n ≤ 512) (i j : Nat) (hi : i < n) (hj : j < n) : Reads Tryd.prog 29 false [relB t, .int .i64 i, .int .i64 j] (.bool (atT t i j)) := by
  have hgi := tabR_get (t := t) (i := i) (by rw [hs.len]; exact hi)
  have hri := hs.rowLen hi
  have hlt := tabR_len t
  have hlen := hs.len
  have h := rhas_in (rowT t i) (by omega) j (by omega) (by omega)
  rw [Int.toNat_natCast, show (rowT t i).getD j false = atT t i j from rfl] at h
  unfold relB rowB at *
  refine Reads.body (rs := [.tmp 6]) Tryd.func29 rfl Tryd.ntmps29 rfl (by simp) ?_
  generalize hQr : retQ _ _ _ = Qr
  -- block 4
  refine AW.sg [1,2,3] [3] (e4 @hgi @rowB.eq_1 @hlt @hlen) ?_
  refine AW.so 0 (fun ii => if ii = 6 then some (.reads false (.bool (atT t i j))) else none) [6] [] (e4 @hgi @rowB.eq_1 @hlt @hlen) ?_
  repeat with_reducible refine cj ?_ ?_
  all_goals try first | (exact h) | omega | exact ent (by kernel_rfl)
  -- ret 1
  rw [← hQr]
  refine AW.rt (e4 @hgi @rowB.eq_1 @hlt @hlen) ?_
  exact Wk.of_eq rfl
def conB (n : Nat) (t : List (List Bool)) (i j : Nat) : Bool := (List.range n).all fun k => !atT t j k || atT t i k
theorem all_succ (p : Nat → Bool) (k : Nat) : (List.range (k + 1)).all p = ((List.range k).all p && p k) := by rw [List.range_succ, List.all_append]; simp
theorem all_cut {p : Nat → Bool} {n k : Nat} (hk : k < n) (h : p k = false) : (List.range n).all p = false := by
  refine Bool.eq_false_iff.2 fun e => ?_
  have := List.all_eq_true.1 e k (List.mem_range.2 hk)
  rw [h] at this; cases this
theorem contained_r (n : Nat) (t : List (List Bool)) (hs : Sq n t) (hn : n ≤ 512) (i j : Nat) (hi : i < n) (hj : j < n) : Reads Tryd.prog 47 false [relB t, .int .i64 i, .int .i64 j] (.bool (conB n t i j)) := by
  have hlt := tabR_len t
  have hlen := hs.len
  have hls := fun a b ha hb => less_r n t hs hn a b ha hb
  have hc : conB n t i j = (List.range n).all fun k => !atT t j k || atT t i k := rfl
  unfold relB at *
  refine Reads.body (rs := [.tmp 6]) Tryd.func47 rfl Tryd.ntmps47 rfl (by simp) ?_
  generalize hQr : retQ _ _ _ = Qr
  -- block 5
  refine AW.sg [1,2,3] [3] (e2 @hlt @hlen) ?_
  refine AW.seq fun K1 hK1 => ?_
  refine AW.sg [1,2,3,7] [3] (e2 @hlt @hlen) ?_
  refine AW.block ?_
  refine AW.loopE (fun mm ee ss kk => ∃ (k g3 v3 : Nat), n - k = mm ∧ ee = [(1, .int .i64 i), (2, .int .i64 j), (3, .ptr ⟨3, g3, none⟩ 0 0), (7, .int .i64 (k : Nat))] ∧ ss = [(3, some ⟨g3, v3, 1, [[.rsl 2 (tabR t)]]⟩)] ∧ (k ≤ n ∧ ((List.range k).all fun k => !atT t j k || atT t i k) = true)) ?_ ?_
  -- init 1
  · exact ⟨_, 0, _, _, rfl, eD, eD, eT⟩
  rintro mm ee ss kk ⟨k, g3, v3, rfl, rfl, rfl, hI⟩
  generalize hQl1 : thenQ _ _ = Ql1
  obtain ⟨hk, hall⟩ := hI
  refine AW.seq fun K2 hK2 => ?_
  refine AW.sg [1,2,3,7,12] [3] (e2 @hlt @hlen) ?_
  refine AW.cn ?_ ?_
  · intro hb
    have h1 := hls j k hj (by omega)
    have h2 := hls i k hi (by omega)
    have hsu := all_succ (fun k => !atT t j k || atT t i k) k
    refine AW.skip ?_
    refine hK2 _ _ _ ?_; clear hK2
    refine AW.seq fun K3 hK3 => ?_
    refine AW.block ?_
    refine AW.so 0 (fun ii => if ii = 3 then some (.reads false (.bool (atT t j k))) else if ii = 8 then some (.reads false (.bool (atT t i k))) else none) [1,2,3,7,25] [3] (e2 @hlt @hlen) ?_
    repeat with_reducible refine cj ?_ ?_
    all_goals try first | (first | exact h1 | exact h2 | (intro hh; exact ⟨hh, h2⟩)) | (intros; (repeat' apply And.intro) <;> first | assumption | (first | exact h1 | exact h2 | (intro hh; exact ⟨hh, h2⟩))) | omega | exact ent (by kernel_rfl) | (intro hgd; exact absurd hgd (by decide)) | rfl | (simp only [go_sem, reduceIte, reduceCtorEq, zA, zM, zE, zL, zD, zS, zP, zB, zI, zR, hlt, hlen]; done) | (intro _hgd; simp_all [go_sem]; done)
    refine AW.cn ?_ ?_
    · intro hb
      refine AW.sg [6] [] (e2 @hlt @hlen) ?_
      -- ret 1
      rw [← hQl1, ← hQr]
      refine AW.rt (e2 @hlt @hlen) ?_
      exact Wk.of_eq (by rw [hc, all_cut (k := k) (by omega) (by revert hb; cases atT t j k <;> cases atT t i k <;> simp)])
    · intro hb
      refine AW.skip ?_
      refine hK3 _ _ _ ?_; clear hK3
      refine AW.rg [1,2,3,7] [3] (e2 @hlt @hlen) ?_
      -- again 1
      rw [← hQl1]; change Exists _
      exact ⟨_, eO, k + 1, _, _, rfl, eD, eD, (⟨by omega, by rw [hsu, hall]; revert hb; cases atT t j k <;> cases atT t i k <;> simp⟩)⟩
  · intro hb
    -- exit 0
    refine AW.kx [] [] ?_
    rw [← hQl1]
    refine hK1 _ _ _ ?_; clear hK1
    refine AW.sg [6] [] (e2 @hlt @hlen) ?_
    -- ret 2
    rw [← hQr]
    refine AW.rt (e2 @hlt @hlen) ?_
    obtain rfl : k = n := by omega
    exact Wk.of_eq (by rw [hc, hall])
end Go.Proofs.D

namespace Go.Proofs.D
open Go.AM Go
set_option maxRecDepth 100000
set_option maxHeartbeats 2000000
theorem poset_e (rs : List USet) (hl1 : rs.length ≤ 9223372036854775807) (hl2 : ∀ x ∈ rs, x.W.length ≤ 1000000) (hok : ∀ x ∈ rs, okW x.W) (hv : validR rs = false) : Reads Tryd.prog 15 false [relV rs] (.bool false) := by
  have hll : (rs.map rowV).length = rs.length := by simp
  have hv2 : rs.length ≤ 512 → (rs.all fun x => decide (x.N = rs.length) && validS x.N x.W) = false := fun h => by
    unfold validR at hv
    rw [decide_eq_true h] at hv
    simpa using hv
  unfold relV
  refine Reads.body (rs := [.tmp 2]) Tryd.func15 rfl Tryd.ntmps15 rfl (by simp) ?_
  generalize hQr : retQ _ _ _ = Qr
  -- block 1
  refine AW.sg [1] [1] (@hll) ?_
  refine AW.sg [1,3] [1] (@hll) ?_
  refine AW.seq fun K1 hK1 => ?_
  refine AW.sg [1,3,11] [1] (@hll) ?_
  refine AW.cn ?_ ?_
  · intro hb
    refine AW.sg [2] [] (@hll) ?_
    -- ret 1
    rw [← hQr]
    refine AW.rt (@hll) ?_
    exact Wk.refl _
  · intro hb
    refine AW.skip ?_
    refine hK1 _ _ _ ?_; clear hK1
    refine AW.seq fun K2 hK2 => ?_
    refine AW.sg [1,3,4] [1] (@hll) ?_
    refine AW.block ?_
    refine AW.loopE (fun mm ee ss kk => ∃ (i g1 v1 : Nat), rs.length - i = mm ∧ ee = [(1, .ptr ⟨1, g1, none⟩ 0 0), (3, .int .i64 rs.length), (4, .int .i64 (i : Nat))] ∧ ss = [(1, some ⟨g1, v1, 1, [[.rsl 2 (rs.map rowV)]]⟩)] ∧ (i ≤ rs.length ∧ ((rs.take i).all fun x => decide (x.N = rs.length) && validS x.N x.W) = true)) ?_ ?_
    -- init 1
    · exact ⟨_, 0, _, _, rfl, eD, eD, eT⟩
    rintro mm ee ss kk ⟨i, g1, v1, rfl, rfl, rfl, hI⟩
    generalize hQl1 : thenQ _ _ = Ql1
    obtain ⟨hi, hall⟩ := hI
    refine AW.seq fun K3 hK3 => ?_
    refine AW.sg [1,3,4,14] [1] (@hll) ?_
    refine AW.cn ?_ ?_
    · intro hb
      obtain ⟨x, hx⟩ := getI (l := rs) (j := i) (by omega)
      have hgx : (rs.map rowV).getD i [] = [.int .i64 x.N, .rsl 1 (words x.W)] := getV hx
      have hxm := List.mem_of_getElem? hx
      have hset := isset_r x.N rs.length x.W (hok x hxm) (hl2 x hxm)
      have hsu : (rs.take (i + 1)).all (fun x => decide (x.N = rs.length) && validS x.N x.W) = ((rs.take i).all (fun x => decide (x.N = rs.length) && validS x.N x.W) && (decide (x.N = rs.length) && validS x.N x.W)) := by rw [List.take_add_one, hx, List.all_append]; simp
      have heq : (decide (x.N = (rs.length : Int)) && validS rs.length x.W) = (decide (x.N = rs.length) && validS x.N x.W) := by
        by_cases e : x.N = (rs.length : Int)
        · rw [e]
        · simp [e]
      rw [heq] at hset
      refine AW.skip ?_
      refine hK3 _ _ _ ?_; clear hK3
      refine AW.seq fun K4 hK4 => ?_
      refine AW.block ?_
      refine AW.so 0 (fun ii => if ii = 6 then some (.reads false (.bool (decide (x.N = rs.length) && validS x.N x.W))) else none) [1,3,4,24] [1] (e2 @hll @hgx) ?_
      repeat with_reducible refine cj ?_ ?_
      all_goals try first | (exact hset) | omega | exact ent (by kernel_rfl)
      refine AW.cn ?_ ?_
      · intro hb
        refine AW.sg [2] [] (@hll) ?_
        -- ret 2
        rw [← hQl1, ← hQr]
        refine AW.rt (@hll) ?_
        exact Wk.refl _
      · intro hb
        refine AW.skip ?_
        refine hK4 _ _ _ ?_; clear hK4
        refine AW.rg [1,3,4] [1] (@hll) ?_
        -- again 1
        rw [← hQl1]; change Exists _
        exact ⟨_, eO, i + 1, _, _, rfl, eD, eD, (⟨by omega, by rw [hsu, hall]; simpa using hb⟩)⟩
    · intro hb
      exfalso
      have hi2 : i = rs.length := by omega
      rw [hi2, List.take_length, hv2 (by omega)] at hall
      cases hall
theorem poset_g (n : Nat) (t : List (List Bool)) (hs : Sq n t) (hn : n ≤ 512) : Reads Tryd.prog 15 false [relB t] (.bool (poB n t)) := by
  have hlt := tabR_len t
  have hlen := hs.len
  have hls := fun a ha => less_r n t hs hn a a ha ha
  have hls2 := fun a b ha hb => less_r n t hs hn a b ha hb
  have hco := fun a b ha hb => contained_r n t hs hn a b ha hb
  have hpo := poB_iff hs
  unfold relB at *
  refine Reads.body (rs := [.tmp 2]) Tryd.func15 rfl Tryd.ntmps15 rfl (by simp) ?_
  generalize hQr : retQ _ _ _ = Qr
  -- block 2
  refine AW.sg [1] [1] (e2 @hlt @hlen) ?_
  refine AW.sg [1,3] [1] (e2 @hlt @hlen) ?_
  refine AW.seq fun K1 hK1 => ?_
  refine AW.sg [1,3,11] [1] (e2 @hlt @hlen) ?_
  refine AW.cn ?_ ?_
  · intro hb
    exfalso; omega
  · intro hb
    refine AW.skip ?_
    refine hK1 _ _ _ ?_; clear hK1
    refine AW.seq fun K2 hK2 => ?_
    refine AW.sg [1,3,4] [1] (e2 @hlt @hlen) ?_
    refine AW.block ?_
    refine AW.loopE (fun mm ee ss kk => ∃ (i g1 v1 : Nat), n - i = mm ∧ ee = [(1, .ptr ⟨1, g1, none⟩ 0 0), (3, .int .i64 n), (4, .int .i64 (i : Nat))] ∧ ss = [(1, some ⟨g1, v1, 1, [[.rsl 2 (tabR t)]]⟩)] ∧ (i ≤ n)) ?_ ?_
    -- init 1
    · exact ⟨_, 0, _, _, rfl, eD, eD, eT⟩
    rintro mm ee ss kk ⟨i, g1, v1, rfl, rfl, rfl, hI⟩
    generalize hQl1 : thenQ _ _ = Ql1
    refine AW.seq fun K3 hK3 => ?_
    refine AW.sg [1,3,4,14] [1] (e2 @hlt @hlen) ?_
    refine AW.cn ?_ ?_
    · intro hb
      have hgi := tabR_get (t := t) (i := i) (by omega)
      have hri := hs.rowLen (i := i) (by omega)
      have hset := isset_b (rowT t i) (by omega)
      rw [hri] at hset
      unfold rowB at hset
      rw [hri] at hset
      refine AW.skip ?_
      refine hK3 _ _ _ ?_; clear hK3
      refine AW.seq fun K4 hK4 => ?_
      refine AW.block ?_
      refine AW.so 0 (fun ii => if ii = 6 then some (.reads false (.bool true)) else none) [1,3,4,24] [1] (e5 @hlt @hlen @hgi @rowB.eq_1 @hri) ?_
      repeat with_reducible refine cj ?_ ?_
      all_goals try first | (exact hset) | omega | exact ent (by kernel_rfl)
      refine AW.cn ?_ ?_
      · intro hb
        exfalso; simp at hb
      · intro hb
        refine AW.skip ?_
        refine hK4 _ _ _ ?_; clear hK4
        refine AW.rg [1,3,4] [1] (e2 @hlt @hlen) ?_
        -- again 1
        rw [← hQl1]; change Exists _
        exact ⟨_, eO, i + 1, _, _, rfl, eD, eD, eT⟩
    · intro hb
      -- exit 0
      refine AW.kx [1,3] [1] ?_
      rw [← hQl1]
      refine hK2 _ _ _ ?_; clear hK2
      refine AW.seq fun K5 hK5 => ?_
      refine AW.sg [1,3,5] [1] (e2 @hlt @hlen) ?_
      refine AW.block ?_
      refine AW.loopE (fun mm ee ss kk => ∃ (i g1 v1 : Nat), n - i = mm ∧ ee = [(1, .ptr ⟨1, g1, none⟩ 0 0), (3, .int .i64 n), (5, .int .i64 (i : Nat))] ∧ ss = [(1, some ⟨g1, v1, 1, [[.rsl 2 (tabR t)]]⟩)] ∧ (i ≤ n ∧ ∀ a, a < i → atT t a a = false ∧ ∀ b c, b < n → c < n → atT t a b = true → atT t b c = true → atT t a c = true)) ?_ ?_
      -- init 2
      · exact ⟨_, 0, _, _, rfl, eD, eD, (⟨by omega, fun a ha => by omega⟩)⟩
      rintro mm ee ss kk ⟨i, g1, v1, rfl, rfl, rfl, hI⟩
      generalize hQl2 : thenQ _ _ = Ql2
      obtain ⟨hi, hal⟩ := hI
      refine AW.seq fun K6 hK6 => ?_
      refine AW.sg [1,3,5,27] [1] (e2 @hlt @hlen) ?_
      refine AW.cn ?_ ?_
      · intro hb
        have hir := hls i (by omega)
        refine AW.skip ?_
        refine hK6 _ _ _ ?_; clear hK6
        refine AW.seq fun K7 hK7 => ?_
        refine AW.block ?_
        refine AW.seq fun K8 hK8 => ?_
        refine AW.so 0 (fun ii => if ii = 3 then some (.reads false (.bool (atT t i i))) else none) [1,3,5,33] [1] (e2 @hlt @hlen) ?_
        repeat with_reducible refine cj ?_ ?_
        all_goals try first | (exact hir) | omega | exact ent (by kernel_rfl)
        refine AW.cn ?_ ?_
        · intro hb
          refine AW.sg [2] [] (e2 @hlt @hlen) ?_
          -- ret 3
          rw [← hQl2, ← hQr]
          refine AW.rt (e2 @hlt @hlen) ?_
          have hf : poB n t = false := by
            cases e : poB n t with
            | false => rfl
            | true => have := (hpo.1 e).irr i (by omega); rw [hb] at this; cases this
          exact Wk.of_eq (by rw [hf])
        · intro hb
          have hir0 : atT t i i = false := by simpa using hb
          clear hb
          refine AW.skip ?_
          refine hK8 _ _ _ ?_; clear hK8
          refine AW.sg [1,3,5,6] [1] (e2 @hlt @hlen) ?_
          refine AW.block ?_
          refine AW.loopE (fun mm ee ss kk => ∃ (j g1 v1 : Nat), n - j = mm ∧ ee = [(1, .ptr ⟨1, g1, none⟩ 0 0), (3, .int .i64 n), (5, .int .i64 (i : Nat)), (6, .int .i64 (j : Nat))] ∧ ss = [(1, some ⟨g1, v1, 1, [[.rsl 2 (tabR t)]]⟩)] ∧ (j ≤ n ∧ ∀ b c, b < j → c < n → atT t i b = true → atT t b c = true → atT t i c = true)) ?_ ?_
          -- init 3
          · exact ⟨_, 0, _, _, rfl, eD, eD, (⟨by omega, fun b c hb => by omega⟩)⟩
          rintro mm ee ss kk ⟨j, g1, v1, rfl, rfl, rfl, hI⟩
          generalize hQl3 : thenQ _ _ = Ql3
          obtain ⟨hj, hal2⟩ := hI
          refine AW.seq fun K9 hK9 => ?_
          refine AW.sg [1,3,5,6,36] [1] (e2 @hlt @hlen) ?_
          refine AW.cn ?_ ?_
          · intro hb
            have h1 := hls2 i j (by omega) (by omega)
            have h2 := hco i j (by omega) (by omega)
            refine AW.skip ?_
            refine hK9 _ _ _ ?_; clear hK9
            refine AW.seq fun K10 hK10 => ?_
            refine AW.block ?_
            refine AW.so 0 (fun ii => if ii = 3 then some (.reads false (.bool (atT t i j))) else if ii = 8 then some (.reads false (.bool (conB n t i j))) else none) [1,3,5,6,49] [1] (e2 @hlt @hlen) ?_
            repeat with_reducible refine cj ?_ ?_
            all_goals try first | (first | exact h1 | exact h2 | (intro hh; exact ⟨hh, h2⟩)) | (intros; (repeat' apply And.intro) <;> first | assumption | (first | exact h1 | exact h2 | (intro hh; exact ⟨hh, h2⟩))) | omega | exact ent (by kernel_rfl) | (intro hgd; exact absurd hgd (by decide)) | rfl | (simp only [go_sem, reduceIte, reduceCtorEq, zA, zM, zE, zL, zD, zS, zP, zB, zI, zR, hlt, hlen]; done) | (intro _hgd; simp_all [go_sem]; done)
            refine AW.cn ?_ ?_
            · intro hb
              refine AW.sg [2] [] (e2 @hlt @hlen) ?_
              -- ret 4
              rw [← hQl3, ← hQl2, ← hQr]
              refine AW.rt (e2 @hlt @hlen) ?_
              have hf : poB n t = false := by
                cases e : poB n t with
                | false => rfl
                | true =>
                  have hc : conB n t i j = true := List.all_eq_true.2 fun k hk => by
                    have hk := List.mem_range.1 hk
                    cases e1 : atT t j k with
                    | false => rfl
                    | true => rw [(hpo.1 e).trans i j k (by omega) (by omega) hk hb.1 e1]; rfl
                  rw [hc] at hb; exact absurd hb.2 (by simp)
              exact Wk.of_eq (by rw [hf])
            · intro hb
              refine AW.skip ?_
              refine hK10 _ _ _ ?_; clear hK10
              refine AW.rg [1,3,5,6] [1] (e2 @hlt @hlen) ?_
              -- again 3
              rw [← hQl3]; change Exists _
              refine ⟨_, eO, j + 1, _, _, rfl, eD, eD, ?_⟩
              refine ⟨by omega, fun b c hb2 hc q1 q2 => ?_⟩
              by_cases e : b = j
              · subst e
                have hcj : conB n t i b = true := by
                  revert hb; rw [q1]; cases conB n t i b <;> simp
                have := List.all_eq_true.1 hcj c (List.mem_range.2 hc)
                rw [q2] at this
                simpa using this
              · exact hal2 b c (by omega) hc q1 q2
          · intro hb
            have hj2 : j = n := by omega
            -- exit 4
            refine AW.kx [1,3,5] [1] ?_
            rw [← hQl3]
            refine hK7 _ _ _ ?_; clear hK7
            refine AW.rg [1,3,5] [1] (e2 @hlt @hlen) ?_
            -- again 2
            rw [← hQl2]; change Exists _
            refine ⟨_, eO, i + 1, _, _, rfl, eD, eD, ?_⟩
            refine ⟨by omega, fun a ha => ?_⟩
            by_cases e : a = i
            · subst e
              exact ⟨hir0, fun b c hb2 hc h1 h2 => hal2 b c (by omega) hc h1 h2⟩
            · exact hal a (by omega)
      · intro hb
        -- exit 2
        refine AW.kx [] [] ?_
        rw [← hQl2]
        refine hK5 _ _ _ ?_; clear hK5
        refine AW.sg [2] [] (e2 @hlt @hlen) ?_
        -- ret 5
        rw [← hQr]
        refine AW.rt (e2 @hlt @hlen) ?_
        have hf : poB n t = true := hpo.2 ⟨fun a ha => (hal a (by omega)).1, fun a b c ha hb2 hc h1 h2 => (hal a (by omega)).2 b c hb2 hc h1 h2⟩
        exact Wk.of_eq (by rw [hf])
end Go.Proofs.D

/- How many extensions go on from an ideal; what the map of ways says; ranks. -/
namespace Go.AM
def sumF (p : Nat → Bool) (f : Nat → Nat) (m : Nat) : Nat := fr p (fun s x => s + f x) m 0
theorem sumF_zero (p : Nat → Bool) (f : Nat → Nat) : sumF p f 0 = 0 := rfl
theorem sumF_succ {p : Nat → Bool} (f : Nat → Nat) {k : Nat} (h : p k = true) : sumF p f (k + 1) = sumF p f k + f k := fr_succ _ h _
theorem sumF_miss {p : Nat → Bool} (f : Nat → Nat) {k : Nat} (h : p k = false) : sumF p f (k + 1) = sumF p f k := fr_miss _ h _
theorem sumF_mono (p : Nat → Bool) (f : Nat → Nat) (i : Nat) : ∀ j, i ≤ j → sumF p f i ≤ sumF p f j
  | 0, h => by rw [Nat.le_zero.1 h]; exact Nat.le_refl _
  | j + 1, h => by
    rcases Nat.eq_or_lt_of_le h with e | e
    · rw [e]; exact Nat.le_refl _
    · have := sumF_mono p f i j (by omega)
      cases hp : p j with
      | true => rw [sumF_succ f hp]; omega
      | false => rw [sumF_miss f hp]; exact this
/-- How many ways to place the m elements that are left. -/
def cE (bel : List (List Int)) (n : Nat) : Nat → List Bool → Nat
  | 0, _ => 1
  | m + 1, S => sumF (freeL bel S) (fun x => cE bel n m (S.set x true)) n
/-! ### A map after a put. -/
theorem keyEq_eq {S : List Bool} {r : AV} (h : keyEq (.str (keyS S)) r = true) (T : List Bool) : keyEq (.str (keyS T)) r = decide (T = S) := by
  cases r with
  | str b =>
    have h0 : (keyS S == b) = true := h
    have h1 : (keyS S).data = b.data := by rw [ba_beq] at h0; exact eq_of_beq h0
    show (keyS T == b) = _
    rw [ba_beq, ← h1, ← ba_beq]
    exact keyEq_str T S
  | _ => simp [keyEq] at h
theorem mapAt_put (S T : List Bool) (v : AV) : ∀ (es : List (List AV)), mapAt (mapPut es (.str (keyS S)) v) (.str (keyS T)) = if T = S then some v else mapAt es (.str (keyS T)) := by
  have key : ∀ (es : List (List AV)) (i : Nat), (mapFind (mapPut es (.str (keyS S)) v) (.str (keyS T)) i).map (·.2) = if T = S then some v else (mapFind es (.str (keyS T)) i).map (·.2) := by
    intro es
    induction es with
    | nil =>
      intro i
      simp only [mapPut, mapFind]
      have : (([AV.str (keyS S), v] : List AV).getD 0 .any) = .str (keyS S) := rfl
      rw [this, keyEq_str]
      by_cases h : T = S <;> simp [h]
    | cons row es ih =>
      intro i
      unfold mapPut
      by_cases h : keyEq (.str (keyS S)) (row.getD 0 .any) = true
      · rw [if_pos h]
        have hT := keyEq_eq h T
        simp only [mapFind]
        have : (([AV.str (keyS S), v] : List AV).getD 0 .any) = .str (keyS S) := rfl
        rw [this, keyEq_str, hT]
        by_cases e : T = S <;> simp [e]
      · rw [if_neg h]
        simp only [mapFind]
        by_cases e : keyEq (.str (keyS T)) (row.getD 0 .any) = true
        · rw [if_pos e, if_pos e]
          by_cases e2 : T = S
          · subst e2; exact absurd e h
          · simp [e2]
        · rw [if_neg e, if_neg e]
          exact ih (i + 1)
  intro es
  exact key es 0
theorem mapI_put (es : List (List AV)) (S T : List Bool) (v : Int) : mapI (mapPut es (.str (keyS S)) (.int .i64 v)) (.str (keyS T)) = if T = S then v else mapI es (.str (keyS T)) := by
  unfold mapI
  rw [mapAt_put]
  by_cases h : T = S <;> simp [h]
theorem fr_congr {α : Type} {p : Nat → Bool} {f g : α → Nat → α} : ∀ m (a : α), (∀ a x, x < m → p x = true → f a x = g a x) → fr p f m a = fr p g m a
  | 0, _, _ => rfl
  | m + 1, a, h => by
    have ih := fr_congr (p := p) (f := f) (g := g) m a fun a x hx => h a x (by omega)
    cases hp : p m with
    | true => rw [fr_succ f hp, fr_succ g hp, ih, h _ m (by omega) hp]
    | false => rw [fr_miss f hp, fr_miss g hp, ih]
theorem wayS_congr {bel : List (List Int)} {n a : Nat} {es es' : List (List AV)} {S : List Bool} (hS : S.length = n) (h : ∀ T, cntT T = cntT S + 1 → mapI es (.str (keyS T)) = mapI es' (.str (keyS T))) : wayS bel n es S a = wayS bel n es' S a := by
  unfold wayS sumW
  split
  · rfl
  · exact fr_congr n 0 fun s x hx hp => by rw [h (S.set x true) (cntT_set (by omega) (freeL_not hp))]
theorem steps_other {bel : List (List Int)} {n a : Nat} {T : List Bool} : ∀ (L : List (List Bool)) (es : List (List AV)), T ∉ L → mapI (L.foldl (stepW bel n a) es) (.str (keyS T)) = mapI es (.str (keyS T))
  | [], _, _ => rfl
  | S :: L, es, h => by
    rw [List.foldl_cons, steps_other L _ (fun h' => h (List.mem_cons_of_mem _ h'))]
    unfold stepW
    have hne : T ≠ S := fun e => h (by rw [e]; exact List.mem_cons_self)
    rw [mapI_put, if_neg hne]
theorem steps_at {bel : List (List Int)} {n a : Nat} {T : List Bool} : ∀ (L : List (List Bool)) (es : List (List AV)), (∀ S ∈ L, S.length = n ∧ cntT S = a) → T ∈ L → mapI (L.foldl (stepW bel n a) es) (.str (keyS T)) = wayS bel n es T a
  | S :: L, es, hL, h => by
    have hS := hL S List.mem_cons_self
    have hstep : ∀ U, cntT U = a + 1 → mapI (stepW bel n a es S) (.str (keyS U)) = mapI es (.str (keyS U)) := fun U hU => by
      unfold stepW
      rw [mapI_put, if_neg (fun e => by rw [e, hS.2] at hU; omega)]
    rw [List.foldl_cons]
    by_cases hT : T ∈ L
    · rw [steps_at L _ (fun S h => hL S (List.mem_cons_of_mem _ h)) hT]
      have hT2 := hL T (List.mem_cons_of_mem _ hT)
      exact wayS_congr hT2.1 fun U hU => hstep U (by rw [hU, hT2.2])
    · rcases List.mem_cons.1 h with e | e
      · subst e
        rw [steps_other L _ hT]
        unfold stepW
        rw [mapI_put, if_pos rfl]
      · exact absurd e hT
theorem lvAt_cnt {bel : List (List Int)} {n : Nat} : ∀ {j : Nat} {S : List Bool}, S ∈ lvAt bel n j → cntT S = j
  | 0, S, h => by rw [List.mem_singleton.1 h]; exact cntT_rep n
  | j + 1, S, h => by
    obtain ⟨S', h1, x, hx, hf, rfl⟩ := mem_nextL.1 h
    rw [cntT_set (by rw [lvAt_len h1]; exact hx) (freeL_not hf), lvAt_cnt h1]
theorem lvAt_next {bel : List (List Int)} {n j x : Nat} {S : List Bool} (h : S ∈ lvAt bel n j) (hx : x < n) (hf : freeL bel S x = true) : S.set x true ∈ lvAt bel n (j + 1) := mem_nextL.2 ⟨S, h, x, hx, hf, rfl⟩
theorem min_sum {p : Nat → Bool} {f : Nat → Nat} {w : Nat → Int} : ∀ m, (∀ x, x < m → p x = true → w x = min (f x : Int) 1125899906842625) → fr p (fun s x => min (s + w x) 1125899906842625) m (0 : Int) = min (sumF p f m : Int) 1125899906842625
  | 0, _ => by simp only [fr_zero, sumF_zero]; decide
  | m + 1, h => by
    have ih := min_sum (p := p) (f := f) (w := w) m fun x hx => h x (by omega)
    cases hp : p m with
    | true => rw [fr_succ _ hp, sumF_succ f hp, ih, h m (by omega) hp]; omega
    | false => rw [fr_miss _ hp, sumF_miss f hp, ih]
theorem downW_spec {bel : List (List Int)} {n : Nat} : ∀ m, m ≤ n + 1 → ∀ a, n < a + m → a ≤ n → ∀ S ∈ lvAt bel n a, mapI (downW bel n m) (.str (keyS S)) = min (cE bel n (n - a) S : Int) 1125899906842625
  | 0, _, a, h1, h2, _, _ => by omega
  | m + 1, hm, a, h1, h2, S, hS => by
    have ih := downW_spec (bel := bel) (n := n) m (by omega)
    have hL : ∀ T ∈ lvAt bel n (n - m), T.length = n ∧ cntT T = n - m := fun T hT => ⟨lvAt_len hT, lvAt_cnt hT⟩
    show mapI ((lvAt bel n (n - m)).foldl (stepW bel n (n - m)) (downW bel n m)) _ = _
    by_cases e : a = n - m
    · subst e
      rw [steps_at _ _ hL hS]
      unfold wayS
      by_cases e2 : n - m = n
      · rw [if_pos e2, show n - (n - m) = 0 by omega]; simp only [cE]; decide
      · rw [if_neg e2]
        obtain ⟨q, hq⟩ : ∃ q, n - (n - m) = q + 1 := ⟨m - 1, by omega⟩
        rw [hq]
        unfold sumW cE
        refine min_sum n fun x hx hf => ?_
        have := ih (n - m + 1) (by omega) (by omega) _ (lvAt_next hS hx hf)
        rw [show n - (n - m + 1) = q by omega] at this
        exact this
    · rw [steps_other _ _ (fun h => by
        have h3 := lvAt_cnt h
        rw [lvAt_cnt hS] at h3
        exact e h3)]
      exact ih a (by omega) h2 S hS
theorem ways_spec {bel : List (List Int)} {n a : Nat} (ha : a ≤ n) {S : List Bool} (hS : S ∈ lvAt bel n a) : mapI (waysE bel n) (.str (keyS S)) = min (cE bel n (n - a) S : Int) 1125899906842625 :=
  downW_spec (n + 1) (Nat.le_refl _) a (by omega) ha S hS
/-! ### Ranks. -/
theorem IsExt.lv {n : Nat} {bel : List (List Int)} {l : List Int} (h : IsExt n bel l) : ∀ m, m ≤ n → dAt n l m ∈ lvAt bel n m
  | 0, _ => by simp [dAt, exD, lvAt]
  | m + 1, hm => by
    have h1 := h.rng m (by omega)
    rw [dAt_succ (by rw [h.len]; omega)]
    exact lvAt_next (h.lv m (by omega)) (by omega) (h.free m (by omega))
def rankC (bel : List (List Int)) (n : Nat) (l : List Int) : Nat → Nat
  | 0 => 0
  | m + 1 => rankC bel n l m + sumF (freeL bel (dAt n l m)) (fun x => cE bel n (n - (m + 1)) ((dAt n l m).set x true)) (l.getD m 0).toNat
theorem cE_at {bel : List (List Int)} {n m : Nat} (hm : m < n) (S : List Bool) : cE bel n (n - m) S = sumF (freeL bel S) (fun x => cE bel n (n - (m + 1)) (S.set x true)) n := by
  obtain ⟨q, hq⟩ : ∃ q, n - m = q + 1 := ⟨n - m - 1, by omega⟩
  rw [hq, show n - (m + 1) = q by omega]; rfl
theorem IsExt.step {n : Nat} {bel : List (List Int)} {l : List Int} (h : IsExt n bel l) {m : Nat} (hm : m < n) : rankC bel n l (m + 1) + cE bel n (n - (m + 1)) (dAt n l (m + 1)) ≤ rankC bel n l m + cE bel n (n - m) (dAt n l m) := by
  have h1 := h.rng m hm
  have h2 := h.free m hm
  rw [cE_at hm, dAt_succ (by rw [h.len]; omega)]
  have h3 := sumF_succ (p := freeL bel (dAt n l m)) (fun x => cE bel n (n - (m + 1)) ((dAt n l m).set x true)) h2
  have h4 := sumF_mono (freeL bel (dAt n l m)) (fun x => cE bel n (n - (m + 1)) ((dAt n l m).set x true)) ((l.getD m 0).toNat + 1) n (by omega)
  show rankC bel n l m + _ + _ ≤ _
  omega
theorem IsExt.down {n : Nat} {bel : List (List Int)} {l : List Int} (h : IsExt n bel l) (m : Nat) : ∀ q, m ≤ q → q ≤ n → rankC bel n l q + cE bel n (n - q) (dAt n l q) ≤ rankC bel n l m + cE bel n (n - m) (dAt n l m)
  | 0, h1, _ => by rw [Nat.le_zero.1 h1]; exact Nat.le_refl _
  | q + 1, h1, h2 => by
    rcases Nat.eq_or_lt_of_le h1 with e | e
    · rw [e]; exact Nat.le_refl _
    · exact Nat.le_trans (h.step (by omega)) (h.down m q (by omega) (by omega))
theorem IsExt.bound {n : Nat} {bel : List (List Int)} {l : List Int} (h : IsExt n bel l) {m : Nat} (hm : m < n) {i : Nat} (hi : i ≤ n) : rankC bel n l m + sumF (freeL bel (dAt n l m)) (fun x => cE bel n (n - (m + 1)) ((dAt n l m).set x true)) i ≤ cE bel n n (List.replicate n false) := by
  have h1 := h.down 0 m (Nat.zero_le _) (by omega)
  have h2 := cE_at (bel := bel) hm (dAt n l m)
  have h4 := sumF_mono (freeL bel (dAt n l m)) (fun x => cE bel n (n - (m + 1)) ((dAt n l m).set x true)) i n hi
  have h5 : dAt n l 0 = List.replicate n false := rfl
  have h6 : rankC bel n l 0 = 0 := rfl
  rw [h5, h6, Nat.sub_zero] at h1
  omega
/-- The rank by the map of ways. -/
theorem IsExt.ways {n : Nat} {bel : List (List Int)} {l : List Int} (h : IsExt n bel l) (hbig : cE bel n n (List.replicate n false) ≤ 1125899906842624) {m : Nat} (hm : m < n) {x : Nat} (hx : x < n) (hf : freeL bel (dAt n l m) x = true) :
    mapI (waysE bel n) (.str (keyS ((dAt n l m).set x true))) = (cE bel n (n - (m + 1)) ((dAt n l m).set x true) : Int) := by
  rw [ways_spec (a := m + 1) (by omega) (lvAt_next (h.lv m (by omega)) hx hf)]
  have h1 := h.down 0 m (Nat.zero_le _) (by omega)
  have h2 := cE_at (bel := bel) hm (dAt n l m)
  have h3 := sumF_succ (p := freeL bel (dAt n l m)) (fun x => cE bel n (n - (m + 1)) ((dAt n l m).set x true)) hf
  have h4 := sumF_mono (freeL bel (dAt n l m)) (fun x => cE bel n (n - (m + 1)) ((dAt n l m).set x true)) (x + 1) n (by omega)
  have h5 : dAt n l 0 = List.replicate n false := rfl
  have h6 : rankC bel n l 0 = 0 := rfl
  rw [h5, h6, Nat.sub_zero] at h1
  omega
end Go.AM

/- The reference's words about linear extensions. -/
namespace Go.AM
def eaOk (n : Nat) (d : List Bool) (i : Int) : Bool := decide (0 ≤ i) && decide (i < n) && !d.getD i.toNat false
def eachGo (n : Nat) : List Bool → List Int → Bool
  | _, [] => true
  | d, i :: l => eaOk n d i && eachGo n (d.set i.toNat true) l
def eachB (n : Nat) (l : List Int) : Bool := decide (l.length = n) && eachGo n (List.replicate n false) l
theorem eachGo_app (n : Nat) : ∀ (l m : List Int) (d : List Bool), eachGo n d (l ++ m) = (eachGo n d l && eachGo n (exD d l) m)
  | [], m, d => by simp [eachGo, exD]
  | i :: l, m, d => by
    show (eaOk n d i && eachGo n (d.set i.toNat true) (l ++ m)) = ((eaOk n d i && eachGo n (d.set i.toNat true) l) && eachGo n (exD (d.set i.toNat true) l) m)
    rw [eachGo_app n l m, Bool.and_assoc]
structure IsEach (n : Nat) (l : List Int) : Prop where
  len : l.length = n
  rng : ∀ m, m < n → 0 ≤ l.getD m 0 ∧ l.getD m 0 < (n : Int)
  new : ∀ m, m < n → (dAt n l m).getD (l.getD m 0).toNat false = false
theorem eachGo_at {n : Nat} {d : List Bool} {l : List Int} (h : eachGo n d l = true) {m : Nat} (hm : m < l.length) : eaOk n (exD d (l.take m)) (l.getD m 0) = true := by
  have h1 := eachGo_app n (l.take m) (l.drop m) d
  rw [List.take_append_drop, h] at h1
  have h2 : eachGo n (exD d (l.take m)) (l.drop m) = true := by
    cases e : eachGo n (exD d (l.take m)) (l.drop m) with
    | true => rfl
    | false => rw [e] at h1; simp at h1
  rw [List.drop_eq_getElem_cons hm] at h2
  unfold eachGo at h2
  simp only [Bool.and_eq_true] at h2
  have : l.getD m 0 = l[m] := by simp [List.getD_eq_getElem?_getD, List.getElem?_eq_getElem hm]
  rw [this]; exact h2.1
theorem eachB_iff {n : Nat} {l : List Int} : eachB n l = true ↔ IsEach n l := by
  constructor
  · intro h
    unfold eachB at h
    simp only [Bool.and_eq_true, decide_eq_true_eq] at h
    have key := fun m (hm : m < n) => eachGo_at h.2 (m := m) (by omega)
    unfold eaOk at key
    simp only [Bool.and_eq_true, decide_eq_true_eq, Bool.not_eq_true'] at key
    exact ⟨h.1, fun m hm => (key m hm).1, fun m hm => (key m hm).2⟩
  · intro h
    unfold eachB
    simp only [Bool.and_eq_true, decide_eq_true_eq]
    refine ⟨h.len, ?_⟩
    have : ∀ m, m ≤ n → eachGo n (List.replicate n false) (l.take m) = true := by
      intro m
      induction m with
      | zero => intro _; simp [eachGo]
      | succ m ih =>
        intro hm
        rw [List.take_add_one, List.getElem?_eq_getElem (by rw [h.len]; omega), Option.toList_some, eachGo_app, ih (by omega), Bool.true_and]
        have h1 := h.rng m (by omega)
        have h2 := h.new m (by omega)
        have e : l[m]'(by rw [h.len]; omega) = l.getD m 0 := by simp [List.getD_eq_getElem?_getD, List.getElem?_eq_getElem (show m < l.length by rw [h.len]; omega)]
        rw [e]
        unfold dAt at h2
        simp only [eachGo, eaOk, h1.1, h1.2, h2, decide_true, Bool.and_self, Bool.not_false]
    have := this n (Nat.le_refl _)
    rwa [List.take_of_length_le (by rw [h.len]; exact Nat.le_refl _)] at this
/-- What is marked was in the list. -/
theorem dAt_mem {n : Nat} {l : List Int} (hr : ∀ m, m < n → 0 ≤ l.getD m 0 ∧ l.getD m 0 < (n : Int)) (hl : l.length = n) {i : Nat} (hi : i < n) : ∀ m, m ≤ n → ((dAt n l m).getD i false = true ↔ ∃ k, k < m ∧ l.getD k 0 = (i : Nat))
  | 0, _ => by simp [dAt, exD, List.getD_eq_getElem?_getD, List.getElem?_replicate]; split <;> simp
  | m + 1, hm => by
    have ih := dAt_mem hr hl hi m (by omega)
    have h1 := hr m (by omega)
    rw [dAt_succ (by omega), getD_setB]
    by_cases e : (l.getD m 0).toNat = i
    · rw [if_pos ⟨e, by rw [dAt_len]; omega⟩]
      exact ⟨fun _ => ⟨m, by omega, by omega⟩, fun _ => rfl⟩
    · rw [if_neg (fun h => e h.1), ih]
      constructor
      · rintro ⟨k, h2, h3⟩; exact ⟨k, by omega, h3⟩
      · rintro ⟨k, h2, h3⟩
        rcases Nat.lt_succ_iff_lt_or_eq.1 h2 with h4 | h4
        · exact ⟨k, h4, h3⟩
        · subst h4; omega
theorem IsEach.cnt {n : Nat} {l : List Int} (h : IsEach n l) : ∀ m, m ≤ n → cntT (dAt n l m) = m
  | 0, _ => by simp [dAt, exD, cntT_rep]
  | m + 1, hm => by
    have h1 := h.rng m (by omega)
    rw [dAt_succ (by rw [h.len]; omega), cntT_set (by rw [dAt_len]; omega) (h.new m (by omega)), h.cnt m (by omega)]
theorem IsEach.has {n : Nat} {l : List Int} (h : IsEach n l) {i : Nat} (hi : i < n) : ∃ k, k < n ∧ l.getD k 0 = (i : Nat) := by
  have := all_true (d := dAt n l n) (by rw [h.cnt n (Nat.le_refl _), dAt_len])
  rw [dAt_len] at this
  refine (dAt_mem h.rng h.len hi n (Nat.le_refl _)).1 ?_
  rw [this]; simp [List.getD_eq_getElem?_getD, hi]
theorem IsEach.inj {n : Nat} {l : List Int} (h : IsEach n l) {a b : Nat} (ha : a < b) (hb : b < n) : l.getD a 0 ≠ l.getD b 0 := by
  intro e
  have h1 := h.rng b hb
  have h2 := h.new b hb
  have h3 := (dAt_mem h.rng h.len (i := (l.getD b 0).toNat) (by omega) b (by omega)).2 ⟨a, ha, by omega⟩
  rw [h2] at h3; cases h3
theorem IsExt.each {n : Nat} {bel : List (List Int)} {l : List Int} (h : IsExt n bel l) : IsEach n l := ⟨h.len, h.rng, fun m hm => freeL_not (h.free m hm)⟩
/-- No later element is below an earlier one. -/
def noLess (t : List (List Bool)) (l : List Int) (j i : Nat) : Bool := !atT t (l.getD j 0).toNat (l.getD i 0).toNat
theorem ext_iff {n : Nat} {t : List (List Bool)} (hp : IsPo n t) {l : List Int} : extB n (belL n t) l = true ↔ eachB n l = true ∧ ∀ j, j < n → ∀ i, i < j → noLess t l j i = true := by
  rw [extB_iff, eachB_iff]
  constructor
  · intro h
    refine ⟨h.each, fun j hj i hi => ?_⟩
    have h1 := h.rng i (by omega)
    have h2 := h.rng j hj
    unfold noLess
    cases ha : atT t (l.getD j 0).toNat (l.getD i 0).toNat with
    | false => rfl
    | true =>
      have h3 := ((freeL_iff (by omega)).1 (h.free i (by omega))).2 _ (by omega) ha
      obtain ⟨k, h4, h5⟩ := (dAt_mem h.rng h.len (by omega) i (by omega)).1 h3
      exact absurd (show l.getD k 0 = l.getD j 0 by omega) (h.each.inj (a := k) (b := j) (by omega) hj)
  · rintro ⟨h, hno⟩
    refine ⟨h.len, h.rng, fun m hm => ?_⟩
    have h1 := h.rng m hm
    refine (freeL_iff (by omega)).2 ⟨h.new m hm, fun j hj ha => ?_⟩
    obtain ⟨k, h2, h3⟩ := h.has hj
    refine (dAt_mem h.rng h.len hj m (by omega)).2 ⟨k, ?_, h3⟩
    apply Classical.byContradiction
    intro hk
    rcases Nat.eq_or_lt_of_le (Nat.le_of_not_lt hk) with e | e
    · subst e
      rw [h3, Int.toNat_natCast] at ha
      rw [hp.irr j hj] at ha; cases ha
    · have h4 := hno k h2 m e
      unfold noLess at h4
      rw [h3, Int.toNat_natCast, ha] at h4; cases h4
end Go.AM

/- The reference's way to count: from an ideal upwards, with the ways to each one. -/
namespace Go.AM
structure RStE where
  nx : List (List Bool)
  sm : List Int
  bg : Bool
def capM (v : Int) : Int := if 1125899906842624 < v then 1125899906842625 else v
def rNew (st : RStE) (y : List Bool) : RStE := if y ∈ st.nx then st else ⟨st.nx ++ [y], st.sm ++ [0], st.bg⟩
def rPut (st : RStE) (a : Nat) (w : Int) : RStE := ⟨st.nx, st.sm.set a (capM (st.sm.getD a 0 + w)), st.bg || decide (1125899906842624 < st.sm.getD a 0 + w)⟩
def rAdd (w : Int) (st : RStE) (y : List Bool) : RStE := rPut (rNew st y) ((rNew st y).nx.idxOf y) w
def rS (bel : List (List Int)) (S : List Bool) (w : Int) (m : Nat) (st : RStE) : RStE := fr (freeL bel S) (fun st x => rAdd w st (S.set x true)) m st
def rFold (bel : List (List Int)) (n : Nat) (L : List (List Bool × Int)) (st : RStE) : RStE := L.foldl (fun st p => rS bel p.1 p.2 n st) st
structure ROk (st : RStE) : Prop where
  len : st.nx.length = st.sm.length
  rng : ∀ v ∈ st.sm, 0 ≤ v ∧ v ≤ 1125899906842625
  cap : st.bg = false → ∀ v ∈ st.sm, v ≤ 1125899906842624
theorem ROk.new {st : RStE} (h : ROk st) (y : List Bool) : ROk (rNew st y) := by
  unfold rNew
  split
  · exact h
  · refine ⟨by simp [h.len], fun v hv => ?_, fun hb v hv => ?_⟩
    · rcases List.mem_append.1 hv with e | e
      · exact h.rng v e
      · rw [List.mem_singleton.1 e]; exact ⟨by decide, by decide⟩
    · rcases List.mem_append.1 hv with e | e
      · exact h.cap hb v e
      · rw [List.mem_singleton.1 e]; decide
theorem ROk.getD {st : RStE} (h : ROk st) (a : Nat) : 0 ≤ st.sm.getD a 0 ∧ st.sm.getD a 0 ≤ 1125899906842625 := by
  by_cases ha : a < st.sm.length
  · rw [List.getD_eq_getElem?_getD, List.getElem?_eq_getElem ha]
    exact h.rng _ (List.getElem_mem ha)
  · rw [List.getD_eq_getElem?_getD, List.getElem?_eq_none (by omega)]
    exact ⟨by decide, by decide⟩
theorem ROk.put {st : RStE} (h : ROk st) (a : Nat) {w : Int} (hw : 0 ≤ w) : ROk (rPut st a w) := by
  refine ⟨by simp [rPut, h.len], fun v hv => ?_, fun hb v hv => ?_⟩
  · rcases List.mem_or_eq_of_mem_set hv with e | e
    · exact h.rng v e
    · have := h.getD a
      rw [e]; unfold capM; split <;> omega
  · simp only [rPut, Bool.or_eq_false_iff, decide_eq_false_iff_not] at hb
    rcases List.mem_or_eq_of_mem_set hv with e | e
    · exact h.cap hb.1 v e
    · rw [e]; unfold capM; rw [if_neg hb.2]; omega
theorem ROk.add {st : RStE} (h : ROk st) (y : List Bool) {w : Int} (hw : 0 ≤ w) : ROk (rAdd w st y) := (h.new y).put _ hw
theorem ROk.s {bel : List (List Int)} {S : List Bool} {w : Int} (hw : 0 ≤ w) : ∀ (m : Nat) {st : RStE}, ROk st → ROk (rS bel S w m st)
  | 0, _, h => h
  | m + 1, st, h => by
    have ih := ROk.s (bel := bel) (S := S) hw m h
    unfold rS at *
    cases hf : freeL bel S m with
    | true => rw [fr_succ _ hf]; exact ih.add _ hw
    | false => rw [fr_miss _ hf]; exact ih
theorem ROk.fold {bel : List (List Int)} {n : Nat} : ∀ {L : List (List Bool × Int)} {st : RStE}, (∀ p ∈ L, 0 ≤ p.2) → ROk st → ROk (rFold bel n L st)
  | [], _, _, h => h
  | p :: L, st, hL, h => by
    have := ROk.fold (bel := bel) (n := n) (L := L) (fun q hq => hL q (List.mem_cons_of_mem _ hq)) (h.s (bel := bel) (S := p.1) (hL p List.mem_cons_self) n)
    exact this
/-! ### What the sums say. -/
end Go.AM

/- The reference's count is the number of ways. -/
namespace Go.AM
theorem ROk.empty (b : Bool) : ROk ⟨[], [], b⟩ := ⟨rfl, fun v hv => (by cases hv), fun _ v hv => (by cases hv)⟩
end Go.AM

/- Each rank is the rank of an extension. -/
namespace Go.AM
theorem getD_left {l : List Int} {x : Int} {q : Nat} (h : q < l.length) : (l ++ [x]).getD q 0 = l.getD q 0 := by
  rw [List.getD_eq_getElem?_getD, List.getElem?_append_left h, ← List.getD_eq_getElem?_getD]
theorem getD_last {l : List Int} {x : Int} : (l ++ [x]).getD l.length 0 = x := by simp [List.getD_eq_getElem?_getD]
theorem dAt_left {n : Nat} {l : List Int} {x : Int} {q : Nat} (h : q ≤ l.length) : dAt n (l ++ [x]) q = dAt n l q := by
  unfold dAt; rw [List.take_append_of_le_length h]
structure IsPre (n : Nat) (bel : List (List Int)) (l : List Int) : Prop where
  le : l.length ≤ n
  rng : ∀ m, m < l.length → 0 ≤ l.getD m 0 ∧ l.getD m 0 < (n : Int)
  free : ∀ m, m < l.length → freeL bel (dAt n l m) (l.getD m 0).toNat = true
theorem IsPre.snoc {n : Nat} {bel : List (List Int)} {l : List Int} (h : IsPre n bel l) {x : Nat} (hl : l.length < n) (hx : x < n) (hf : freeL bel (dAt n l l.length) x = true) : IsPre n bel (l ++ [((x : Nat) : Int)]) := by
  refine ⟨by simp; omega, fun m hm => ?_, fun m hm => ?_⟩
  · simp only [List.length_append, List.length_cons, List.length_nil] at hm
    by_cases e : m < l.length
    · rw [getD_left e]; exact h.rng m e
    · rw [show m = l.length by omega, getD_last]; omega
  · simp only [List.length_append, List.length_cons, List.length_nil] at hm
    by_cases e : m < l.length
    · rw [getD_left e, dAt_left (by omega)]; exact h.free m e
    · rw [show m = l.length by omega, getD_last, dAt_left (Nat.le_refl _)]; exact hf
theorem IsPre.ext {n : Nat} {bel : List (List Int)} {l : List Int} (h : IsPre n bel l) (hl : l.length = n) : IsExt n bel l := ⟨hl, fun m hm => h.rng m (by omega), fun m hm => h.free m (by omega)⟩
end Go.AM

/- The next extension has the next rank. -/
namespace Go.AM
theorem IsExt.pre {n : Nat} {bel : List (List Int)} {l : List Int} (h : IsExt n bel l) (m : Nat) (hm : m ≤ n) : IsPre n bel (l.take m) := by
  have hl : (l.take m).length = m := by simp [h.len, hm]
  have hg : ∀ q, q < m → (l.take m).getD q 0 = l.getD q 0 := fun q hq => by rw [List.getD_eq_getElem?_getD, List.getElem?_take_of_lt hq, ← List.getD_eq_getElem?_getD]
  have hd : ∀ q, q ≤ m → dAt n (l.take m) q = dAt n l q := fun q hq => by unfold dAt; rw [List.take_take, Nat.min_eq_left hq]
  refine ⟨by omega, fun q hq => ?_, fun q hq => ?_⟩
  · rw [hg q (by omega)]; exact h.rng q (by omega)
  · rw [hg q (by omega), hd q (by omega)]; exact h.free q (by omega)
/-! ### Small orders. -/
end Go.AM

/- An order with one more pair. -/
namespace Go.AM
def leT (t : List (List Bool)) (x a : Nat) : Bool := decide (x = a) || atT t x a
def mRow (n : Nat) (t : List (List Bool)) (a b x : Nat) : List Bool := (List.range n).map fun z => atT t x z || (leT t x a && leT t b z)
def mT (n : Nat) (t : List (List Bool)) (a b : Nat) : List (List Bool) := (List.range n).map (mRow n t a b)
theorem mRow_len (n : Nat) (t : List (List Bool)) (a b x : Nat) : (mRow n t a b x).length = n := by simp [mRow]
theorem mRow_get {n : Nat} {t : List (List Bool)} {a b x z : Nat} (hz : z < n) : (mRow n t a b x).getD z false = (atT t x z || (leT t x a && leT t b z)) := by
  simp [mRow, List.getD_eq_getElem?_getD, hz]
theorem mT_row {n : Nat} {t : List (List Bool)} {a b x : Nat} (hx : x < n) : rowT (mT n t a b) x = mRow n t a b x := by
  simp [rowT, mT, List.getD_eq_getElem?_getD, hx]
theorem mT_sq (n : Nat) (t : List (List Bool)) (a b : Nat) : Sq n (mT n t a b) := ⟨by simp [mT], fun r hr => by
  obtain ⟨x, _, rfl⟩ := List.mem_map.1 hr
  exact mRow_len n t a b x⟩
theorem mT_at {n : Nat} {t : List (List Bool)} {a b x z : Nat} (hx : x < n) (hz : z < n) : atT (mT n t a b) x z = (atT t x z || (leT t x a && leT t b z)) := by
  unfold atT; rw [mT_row hx, mRow_get hz]; rfl
theorem leT_trans {n : Nat} {t : List (List Bool)} (hp : IsPo n t) {x y z : Nat} (hx : x < n) (hy : y < n) (hz : z < n) (h1 : leT t x y = true) (h2 : leT t y z = true) : leT t x z = true := by
  unfold leT at *
  simp only [Bool.or_eq_true, decide_eq_true_eq] at *
  rcases h1 with rfl | h1
  · exact h2
  · rcases h2 with rfl | h2
    · exact .inr h1
    · exact .inr (hp.trans x y z hx hy hz h1 h2)
theorem mT_po {n : Nat} {t : List (List Bool)} (hp : IsPo n t) {a b : Nat} (ha : a < n) (hb : b < n) (hba : leT t b a = false) : IsPo n (mT n t a b) := by
  have hle : ∀ {x y}, atT t x y = true → leT t x y = true := fun h => by unfold leT; rw [h]; simp
  refine ⟨fun x hx => ?_, fun x y z hx hy hz h1 h2 => ?_⟩
  · rw [mT_at hx hx, hp.irr x hx, Bool.false_or]
    cases e : leT t x a && leT t b x with
    | false => rfl
    | true =>
      rw [Bool.and_eq_true] at e
      rw [leT_trans hp hb hx ha e.2 e.1] at hba; cases hba
  · rw [mT_at hx hy] at h1
    rw [mT_at hy hz] at h2
    rw [mT_at hx hz]
    simp only [Bool.or_eq_true, Bool.and_eq_true] at *
    rcases h1 with h1 | ⟨h1, h1'⟩
    · rcases h2 with h2 | ⟨h2, h2'⟩
      · exact .inl (hp.trans x y z hx hy hz h1 h2)
      · exact .inr ⟨leT_trans hp hx hy ha (hle h1) h2, h2'⟩
    · rcases h2 with h2 | ⟨h2, h2'⟩
      · exact .inr ⟨h1, leT_trans hp hb hy hz h1' (hle h2)⟩
      · exfalso
        rw [leT_trans hp hb hy ha h1' h2] at hba; cases hba
end Go.AM

/- The search's classes are closures: what is dealt can be reversed, and what cannot be put cannot be reversed. -/
namespace Go.AM
theorem warsh_put {n : Nat} {u : List (List Bool)} (hu : Sq n u) (hac : acyc n u = true) {a b : Nat} (ha : a < n) (hb : b < n) (hba : leT (warsh n u) b a = false) : warsh n (putT u a b) = mT n (warsh n u) a b := by
  have hw := warsh_po hu hac
  have hm := mT_po hw ha hb hba
  have hq := hu.putT ha b
  refine tab_ext hq.warsh (mT_sq _ _ _ _) fun i j hi hj => bool_ext ?_
  constructor
  · intro h
    refine warsh_least hq (S := fun i j => atT (mT n (warsh n u) a b) i j = true) (fun i j hi hj h => ?_) (fun i k j hi hk hj h1 h2 => hm.trans i k j hi hk hj h1 h2) hi hj h
    rw [atT_putT hu ha hb] at h
    rw [mT_at hi hj]
    simp only [Bool.or_eq_true, Bool.and_eq_true, decide_eq_true_eq] at h ⊢
    rcases h with ⟨rfl, rfl⟩ | h
    · right; simp [leT]
    · left; exact warsh_sub hu hi hj h
  · intro h
    have hsub : ∀ x y, x < n → y < n → atT (warsh n u) x y = true → atT (warsh n (putT u a b)) x y = true := fun x y hx hy h => by
      refine warsh_least hu (S := fun i j => atT (warsh n (putT u a b)) i j = true) (fun i j hi hj h => warsh_sub hq hi hj ?_) (fun i k j hi hk hj h1 h2 => warsh_trans hq hi hk hj h1 h2) hx hy h
      rw [atT_putT hu ha hb, h, Bool.or_true]
    have hab : atT (warsh n (putT u a b)) a b = true := warsh_sub hq ha hb (by rw [atT_putT hu ha hb]; simp)
    rw [mT_at hi hj] at h
    simp only [Bool.or_eq_true, Bool.and_eq_true, leT, decide_eq_true_eq] at h
    rcases h with h | ⟨h1, h2⟩
    · exact hsub i j hi hj h
    · have h3 : atT (warsh n (putT u a b)) i b = true := by
        rcases h1 with rfl | h1
        · exact hab
        · exact warsh_trans hq hi ha hb (hsub i a hi ha h1) hab
      rcases h2 with rfl | h2
      · exact h3
      · exact warsh_trans hq hi hb hj h3 (hsub b j hb hj h2)
theorem acyc_put {n : Nat} {u : List (List Bool)} (hu : Sq n u) (hac : acyc n u = true) {a b : Nat} (ha : a < n) (hb : b < n) : acyc n (putT u a b) = !leT (warsh n u) b a := by
  cases h : leT (warsh n u) b a with
  | false =>
    have hm := mT_po (warsh_po hu hac) ha hb h
    rw [Bool.not_false]
    exact acyc_iff.2 fun i hi => by rw [warsh_put hu hac ha hb h]; exact hm.irr i hi
  | true =>
    rw [Bool.not_true]
    cases e : acyc n (putT u a b) with
    | false => rfl
    | true =>
      exfalso
      have hq := hu.putT ha b
      have h0 := acyc_iff.1 e b hb
      have hab : atT (warsh n (putT u a b)) a b = true := warsh_sub hq ha hb (by rw [atT_putT hu ha hb]; simp)
      simp only [leT, Bool.or_eq_true, decide_eq_true_eq] at h
      rcases h with rfl | h
      · rw [hab] at h0; cases h0
      · have : atT (warsh n (putT u a b)) b a = true := warsh_least hu (S := fun i j => atT (warsh n (putT u a b)) i j = true) (fun i j hi hj h => warsh_sub hq hi hj (by rw [atT_putT hu ha hb, h, Bool.or_true])) (fun i k j hi hk hj h1 h2 => warsh_trans hq hi hk hj h1 h2) hb ha h
        rw [warsh_trans hq hb ha hb this hab] at h0; cases h0
/-- A class stands for the closure of an order and of the turned pairs. -/
structure CI (n : Nat) (t : List (List Bool)) (q : List (Nat × Nat)) (c : List Nat) : Prop where
  cls : Cls c
  rng : ∀ x ∈ q, x.1 < n ∧ x.2 < n
  acy : acyc n (addTs t q) = true
  rel : ∀ i j, i < 8 → j < 8 → (c.getD i 0).testBit j = (decide (i < n) && decide (j < n) && atT (warsh n (addTs t q)) i j)
theorem addTs_snoc (t : List (List Bool)) (q : List (Nat × Nat)) (x : Nat × Nat) : addTs t (q ++ [x]) = putT (addTs t q) x.2 x.1 := by
  unfold addTs; rw [List.foldl_append]; rfl
theorem cputL_get (c : List Nat) (hc : c.length = 8) (a v : Nat) {k : Nat} (hk : k < 8) : ∀ m, m ≤ 8 → (cputL c a v m).getD k 0 = if k < m then cputR a v k (c.getD k 0) else c.getD k 0
  | 0, _ => by simp [cputL]
  | m + 1, hm => by
    have ih := cputL_get c hc a v hk m (by omega)
    unfold cputL
    by_cases e : m = k
    · subst e
      rw [getD_set_eq (by rw [cputL_len]; omega), ih, if_neg (by omega), if_pos (by omega)]
    · rw [getD_set_ne e, ih]
      by_cases h : k < m
      · rw [if_pos h, if_pos (by omega)]
      · rw [if_neg h, if_neg (by omega)]
theorem CI.bad {n : Nat} {t : List (List Bool)} (hs : Sq n t) {q : List (Nat × Nat)} {c : List Nat} (h : CI n t q c) (hn : n ≤ 8) {x : Nat × Nat} (h1 : x.1 < n) (h2 : x.2 < n) : acyc n (addTs t (q ++ [x])) = !badC c x.2 x.1 := by
  have hsq := addTs_sq (L := q) hs fun y hy => (h.rng y hy).2
  rw [addTs_snoc, acyc_put hsq h.acy h2 h1]
  congr 1
  unfold badC leT
  rw [h.rel x.1 x.2 (by omega) (by omega), decide_eq_true h1, decide_eq_true h2]
  congr 1
  exact decide_eq_decide.2 eq_comm
theorem testBit_or_two (x v b j : Nat) : (x ||| (v ||| 2 ^ b)).testBit j = (x.testBit j || (v.testBit j || decide (b = j))) := by
  rw [Nat.testBit_or, Nat.testBit_or, Nat.testBit_two_pow]
theorem CI.snoc {n : Nat} {t : List (List Bool)} (hs : Sq n t) {q : List (Nat × Nat)} {c : List Nat} (h : CI n t q c) (hn : n ≤ 8) {x : Nat × Nat} (h1 : x.1 < n) (h2 : x.2 < n) (hb : badC c x.2 x.1 = false) : CI n t (q ++ [x]) (cputC c x.2 x.1) := by
  have hsq := addTs_sq (L := q) hs fun y hy => (h.rng y hy).2
  have hac : acyc n (addTs t (q ++ [x])) = true := by rw [h.bad hs hn h1 h2, hb]; rfl
  have hle : leT (warsh n (addTs t q)) x.1 x.2 = false := by
    have := acyc_put hsq h.acy h2 h1
    rw [← addTs_snoc, hac] at this
    cases e : leT (warsh n (addTs t q)) x.1 x.2 with
    | false => rfl
    | true => rw [e] at this; cases this
  refine ⟨cputC_cls h.cls (by omega), fun y hy => ?_, hac, fun i j hi hj => ?_⟩
  · rcases List.mem_append.1 hy with hy | hy
    · exact h.rng y hy
    · rw [List.mem_singleton.1 hy]; exact ⟨h1, h2⟩
  · unfold cputC
    rw [cputL_get c h.cls.1 x.2 (afterC c x.1) hi 8 (Nat.le_refl _), if_pos hi]
    have r1 := h.rel i j hi hj
    have r2 := h.rel i x.2 hi (by omega)
    have r3 := h.rel x.1 j (by omega) hj
    rw [decide_eq_true h1] at r3
    rw [decide_eq_true h2] at r2
    rw [addTs_snoc, warsh_put hsq h.acy h2 h1 hle]
    unfold cputR
    by_cases hin : i < n
    · rw [decide_eq_true hin] at r1 r2 ⊢
      by_cases hjn : j < n
      · rw [decide_eq_true hjn] at r1 r3 ⊢
        rw [mT_at hin hjn]
        simp only [Bool.true_and] at r1 r2 r3 ⊢
        unfold leT
        split
        · rename_i hc
          unfold afterC
          rw [testBit_or_two, r1, r3]
          rw [r2] at hc
          rw [hc, Bool.true_and]
          congr 1
          rw [Bool.or_comm]
        · rename_i hc
          rw [r2] at hc
          have hc2 : (decide (i = x.2) || atT (warsh n (addTs t q)) i x.2) = false := by simpa using hc
          rw [r1, hc2, Bool.false_and, Bool.or_false]
      · rw [decide_eq_false hjn] at r1 r3 ⊢
        simp only [Bool.and_false, Bool.false_and] at r1 r3 ⊢
        split
        · unfold afterC
          rw [testBit_or_two, r1, r3, decide_eq_false (by omega)]; rfl
        · exact r1
    · rw [decide_eq_false hin] at r1 r2 ⊢
      simp only [Bool.false_and] at r1 r2 ⊢
      rw [if_neg]
      · exact r1
      · rw [r2, decide_eq_false (by omega)]; decide
theorem byte_bit (W : List Int) (hW : okW W) {j : Nat} (hj : j < 8) : (byteN W).testBit j = hasW W j := by
  rw [hasW_nat hW, show j / 64 = 0 by omega, show j % 64 = j by omega]
  have h0 := (hW 0).1
  unfold byteN
  obtain ⟨w, hw⟩ : ∃ w : Nat, W.getD 0 0 = (w : Int) := ⟨_, (Int.toNat_of_nonneg h0).symm⟩
  rw [hw]
  have : (((w : Int) % 256).toNat) = w % 2 ^ 8 := by omega
  rw [this, Int.toNat_natCast, Nat.testBit_mod_two_pow]
  simp [hj]
theorem CI.start {n : Nat} {t : List (List Bool)} (hs : Sq n t) (hp : IsPo n t) (hn : n ≤ 8) : CI n t [] (startT n t) := by
  refine ⟨startAt_cls n t n, by simp, ?_, fun i j hi hj => ?_⟩
  · exact hp.acyc hs
  · unfold startT
    rw [startAt_get n t n hi]
    show _ = (decide (i < n) && decide (j < n) && atT (warsh n t) i j)
    rw [hp.warsh hs]
    by_cases hin : i < n
    · rw [if_pos hin, decide_eq_true hin, Bool.true_and]
      have hrl := hs.rowLen hin
      have hwl := setW_len' (rowT t i)
      have hok := setW_ok (rowT t i)
      rw [hrl] at hok
      have h64 : j / 64 < (setW (rowT t i) (rowT t i).length).length := by
        rw [hwl, hrl]; unfold wordsN; rw [Int.tdiv_eq_ediv_of_nonneg (by omega)]; omega
      have hh := hasW_setW (rowT t i) h64
      rw [hrl] at hh
      rw [byte_bit _ hok hj, hh]
      by_cases hjn : j < n
      · rw [decide_eq_true hjn, Bool.true_and]; rfl
      · rw [decide_eq_false hjn, Bool.false_and, getD_out (by omega)]
    · rw [if_neg hin, decide_eq_false hin]; simp
/-! ### The search. -/
/-- What the search keeps: classes and what is dealt to them. -/
structure SI (n : Nat) (t : List (List Bool)) (P : List (Nat × Nat)) (i : Nat) (cl : List (List Nat)) (de : List (List (Nat × Nat))) : Prop where
  len : cl.length = de.length
  ci : ∀ k, k < de.length → CI n t (de.getD k []) (cl.getD k [])
  ne : ∀ k, k < de.length → de.getD k [] ≠ []
  all : ∀ x ∈ P.take i, ∃ k, k < de.length ∧ x ∈ de.getD k []
  le : de.length ≤ i
  rows : ∀ k, (de.getD k []).length ≤ i
  from_ : ∀ k, ∀ x ∈ de.getD k [], x ∈ P
theorem SI.nil (n : Nat) (t : List (List Bool)) (P : List (Nat × Nat)) : SI n t P 0 [] [] := ⟨rfl, fun k h => absurd h (Nat.not_lt_zero _), fun k h => absurd h (Nat.not_lt_zero _), fun x h => absurd h (by simp), Nat.le_refl _, fun k => by rw [getD_out (by simp)]; exact Nat.le_refl _, fun k x h => absurd h (by rw [getD_out (by simp)]; simp)⟩
theorem addP_get {de : List (List (Nat × Nat))} {j k : Nat} {x : Nat × Nat} (hj : j < de.length) : (addP de j x).getD k [] = if j = k then de.getD k [] ++ [x] else de.getD k [] := by
  unfold addP
  by_cases e : j = k
  · subst e; rw [getD_set_eq hj, if_pos rfl]
  · rw [getD_set_ne e, if_neg e]
theorem snoc_get {α : Type} (l : List α) (x d : α) (k : Nat) : (l ++ [x]).getD k d = if k < l.length then l.getD k d else if k = l.length then x else d := by
  rw [getD_append]
  split
  · rfl
  · split
    · rename_i h1 h2; rw [h2, Nat.sub_self]; rfl
    · rename_i h1 h2
      have h3 : [x].length ≤ k - l.length := by rw [List.length_singleton]; omega
      exact getD_out h3 d
theorem SI.put {n : Nat} {t : List (List Bool)} (hs : Sq n t) (hn : n ≤ 8) {P : List (Nat × Nat)} (hP : ∀ x ∈ P, x.1 < n ∧ x.2 < n) {i : Nat} {cl : List (List Nat)} {de : List (List (Nat × Nat))} (h : SI n t P i cl de) {x : Nat × Nat} (hx : P[i]? = some x) {j : Nat} (hj : j < cl.length)
    (hb : badC (cl.getD j []) x.2 x.1 = false) : SI n t P (i + 1) (cl.set j (cputC (cl.getD j []) x.2 x.1)) (addP de j x) := by
  have hjd : j < de.length := by rw [← h.len]; exact hj
  have hxP := List.mem_of_getElem? hx
  have hxr := hP x hxP
  have hlen : (addP de j x).length = de.length := by simp [addP]
  refine ⟨by rw [hlen]; simpa using h.len, fun k hk => ?_, fun k hk => ?_, fun y hy => ?_, by rw [hlen]; have := h.le; omega, fun k => ?_, fun k y hy => ?_⟩
  · rw [hlen] at hk
    rw [addP_get hjd]
    by_cases e : j = k
    · subst e; rw [if_pos rfl, getD_set_eq hj]
      exact (h.ci j hk).snoc hs hn hxr.1 hxr.2 hb
    · rw [if_neg e, getD_set_ne e]; exact h.ci k hk
  · rw [hlen] at hk
    rw [addP_get hjd]
    split
    · simp
    · exact h.ne k hk
  · rw [List.take_add_one, hx] at hy
    rcases List.mem_append.1 hy with hy | hy
    · obtain ⟨k, hk, hm⟩ := h.all y hy
      refine ⟨k, by rw [hlen]; exact hk, ?_⟩
      rw [addP_get hjd]; split
      · exact List.mem_append_left _ hm
      · exact hm
    · obtain rfl : y = x := by simpa using hy
      exact ⟨j, by rw [hlen]; exact hjd, by rw [addP_get hjd, if_pos rfl]; simp⟩
  · rw [addP_get hjd]
    have := h.rows k
    split
    · rw [List.length_append, List.length_singleton]; omega
    · omega
  · rw [addP_get hjd] at hy
    split at hy
    · rcases List.mem_append.1 hy with hy | hy
      · exact h.from_ k y hy
      · rw [List.mem_singleton.1 hy]; exact hxP
    · exact h.from_ k y hy
/-- A pair that the order does not have can be put into a new class. -/
theorem newC_ci {n : Nat} {t : List (List Bool)} (hs : Sq n t) (hp : IsPo n t) (hn : n ≤ 8) {x : Nat × Nat} (h1 : x.1 < n) (h2 : x.2 < n) (hi : leT t x.1 x.2 = false) : badC (startT n t) x.2 x.1 = false ∧ CI n t [x] (newC (startT n t) x) := by
  have hst := CI.start hs hp hn
  have hb : badC (startT n t) x.2 x.1 = false := by
    unfold badC
    rw [hst.rel x.1 x.2 (by omega) (by omega), decide_eq_true h1, decide_eq_true h2]
    show (decide (x.2 = x.1) || (true && true && atT (warsh n t) x.1 x.2)) = false
    rw [hp.warsh hs]
    unfold leT at hi
    rw [Bool.or_eq_false_iff] at hi ⊢
    exact ⟨by simpa [eq_comm] using hi.1, by simpa using hi.2⟩
  refine ⟨hb, ?_⟩
  unfold newC
  rw [hb]
  exact hst.snoc hs hn h1 h2 hb
theorem SI.grow {n : Nat} {t : List (List Bool)} (hs : Sq n t) (hp : IsPo n t) (hn : n ≤ 8) {P : List (Nat × Nat)} (hP : ∀ x ∈ P, x.1 < n ∧ x.2 < n ∧ leT t x.1 x.2 = false) {i : Nat} {cl : List (List Nat)} {de : List (List (Nat × Nat))} (h : SI n t P i cl de) {x : Nat × Nat} (hx : P[i]? = some x) :
    SI n t P (i + 1) (cl ++ [newC (startT n t) x]) (de ++ [[x]]) := by
  have hxP := List.mem_of_getElem? hx
  obtain ⟨h1, h2, h3⟩ := hP x hxP
  have hnew := (newC_ci hs hp hn h1 h2 h3).2
  have hlen : (de ++ [[x]]).length = de.length + 1 := by simp
  refine ⟨by simp [h.len], fun k hk => ?_, fun k hk => ?_, fun y hy => ?_, by rw [hlen]; have := h.le; omega, fun k => ?_, fun k y hy => ?_⟩
  · rw [hlen] at hk
    rw [snoc_get, snoc_get, h.len]
    by_cases e : k < de.length
    · rw [if_pos e, if_pos e]; exact h.ci k e
    · rw [if_neg e, if_neg e, if_pos (by omega), if_pos (by omega)]; exact hnew
  · rw [hlen] at hk
    rw [snoc_get]
    by_cases e : k < de.length
    · rw [if_pos e]; exact h.ne k e
    · rw [if_neg e, if_pos (by omega)]; simp
  · rw [List.take_add_one, hx] at hy
    rcases List.mem_append.1 hy with hy | hy
    · obtain ⟨k, hk, hm⟩ := h.all y hy
      exact ⟨k, by rw [hlen]; omega, by rw [snoc_get, if_pos hk]; exact hm⟩
    · obtain rfl : y = x := by simpa using hy
      exact ⟨de.length, by rw [hlen]; omega, by rw [snoc_get, if_neg (by omega), if_pos rfl]; simp⟩
  · rw [snoc_get]
    have := h.rows k
    split
    · omega
    · split
      · simp
      · simp
  · rw [snoc_get] at hy
    split at hy
    · exact h.from_ k y hy
    · split at hy
      · rw [List.mem_singleton.1 hy]; exact hxP
      · simp at hy
end Go.AM

/- What the search finds: classes that can be reversed, as few as possible. -/
namespace Go.AM
theorem crB_inc {n : Nat} {t : List (List Bool)} {x y : Nat} (h : crB n t x y = true) : x ≠ y ∧ atT t x y = false ∧ atT t y x = false := by
  unfold crB at h
  simp only [Bool.and_eq_true, Bool.not_eq_true', Bool.or_eq_false_iff, decide_eq_false_iff_not] at h
  exact ⟨h.1.1.1, h.1.1.2, h.1.2⟩
theorem critT_inc {n : Nat} {t : List (List Bool)} {x : Nat × Nat} (h : x ∈ critT n t) : x.1 < n ∧ x.2 < n ∧ leT t x.1 x.2 = false := by
  have h1 := crA_mem.1 h
  have h2 := crB_inc h1.2.2
  refine ⟨h1.1, h1.2.1, ?_⟩
  unfold leT
  rw [decide_eq_false h2.1, h2.2.1]; rfl
theorem crit_si {n : Nat} {t : List (List Bool)} (hs : Sq n t) (hp : IsPo n t) (hn : n ≤ 8) {m : Nat} {r : Dl} (h : dealP m (startT n t) (critT n t) [] [] = some r) : SI n t (critT n t) (critT n t).length r.1 r.2 :=
  dealP_keep (fun i cl de => SI n t (critT n t) i cl de) (critT n t)
    (fun i x cl de j hx hI hj hb => hI.put hs hn (fun y hy => ⟨(critT_inc hy).1, (critT_inc hy).2.1⟩) hx hj hb)
    (fun i x cl de hx hI _ => hI.grow hs hp hn (fun y hy => critT_inc hy) hx)
    (critT n t) 0 [] [] r (Nat.zero_le _) rfl (SI.nil n t _) h
theorem mostF_ex {st : List Nat} {P : List (Nat × Nat)} : ∀ (f m : Nat), P.length < f + m → 0 < f → ∃ m', m ≤ m' ∧ dealP m' st P [] [] = some (mostF st P f m) ∧ ∀ k, m ≤ k → k < m' → dealP k st P [] [] = none
  | 0, m, _, h0 => by omega
  | f + 1, m, h, _ => by
    cases hr : dealP m st P [] [] with
    | some r => exact ⟨m, Nat.le_refl _, by rw [hr, mostF_some hr], fun k h1 h2 => by omega⟩
    | none =>
      have hm := dealP_none hr
      obtain ⟨m', h1, h2, h3⟩ := mostF_ex (st := st) (P := P) f (m + 1) (by omega) (by omega)
      refine ⟨m', by omega, by rw [mostF_none hr]; exact h2, fun k hk1 hk2 => ?_⟩
      rcases Nat.lt_or_ge m k with h4 | h4
      · exact h3 k h4 hk2
      · obtain rfl : k = m := by omega
        exact hr
theorem deals_ex (n : Nat) (t : List (List Bool)) : ∃ m, 1 ≤ m ∧ dealP m (startT n t) (critT n t) [] [] = some (dealsT n t) ∧ ∀ k, 1 ≤ k → k < m → dealP k (startT n t) (critT n t) [] [] = none :=
  mostF_ex _ 1 (by omega) (by omega)
theorem dealt_si {n : Nat} {t : List (List Bool)} (hs : Sq n t) (hp : IsPo n t) (hn : n ≤ 8) : SI n t (critT n t) (critT n t).length (dealsT n t).1 (dealsT n t).2 := by
  obtain ⟨m, _, h, _⟩ := deals_ex n t
  exact crit_si hs hp hn h
theorem mem_get {α : Type} {l : List α} {x : α} (h : x ∈ l) (d : α) : ∃ k, k < l.length ∧ l.getD k d = x := by
  obtain ⟨k, hk, rfl⟩ := List.mem_iff_getElem.1 h
  exact ⟨k, hk, by simp [List.getD_eq_getElem?_getD, hk]⟩
theorem dealt_ok {n : Nat} {t : List (List Bool)} (hs : Sq n t) (hp : IsPo n t) (hn : n ≤ 8) : DealtOk n t := by
  have h := dealt_si hs hp hn
  have hc := critT_le t hn
  unfold dealtT at *
  constructor
  · have := h.le
    unfold dealtT; split
    · simp
    · omega
  · intro q hq
    unfold dealtT at hq
    split at hq
    · obtain rfl := List.mem_singleton.1 hq
      exact ⟨by simp, by simp, by exact hp.acyc hs⟩
    · obtain ⟨k, hk, rfl⟩ := mem_get hq []
      have h1 := h.ci k hk
      exact ⟨by have := h.rows k; omega, h1.rng, h1.acy⟩
/-- Each class is of the critical pairs, and each critical pair lies in a class. -/
theorem dealt_all {n : Nat} {t : List (List Bool)} (hs : Sq n t) (hp : IsPo n t) (hn : n ≤ 8) {x : Nat × Nat} (hx : x ∈ critT n t) : ∃ q ∈ dealtT n t, x ∈ q := by
  have h := dealt_si hs hp hn
  obtain ⟨k, hk, hm⟩ := h.all x (by rw [List.take_length]; exact hx)
  have hne : (dealsT n t).2 ≠ [] := fun e => by rw [e] at hk; simp at hk
  refine ⟨(dealsT n t).2.getD k [], ?_, hm⟩
  unfold dealtT; rw [if_neg hne]
  exact mem_getD hk _
/-! ### The reference's search. -/
/-- Few classes: what the search finds with room for more it finds with just as many. -/
theorem dealK_isSome {rec : List (List Nat) → List (List (Nat × Nat)) → Option Dl} {x : Nat × Nat} {cl : List (List Nat)} {de : List (List (Nat × Nat))} : ∀ (m k j : Nat), k ≤ j → j < k + m → badC (cl.getD j []) x.2 x.1 = false →
    (rec (cl.set j (cputC (cl.getD j []) x.2 x.1)) (addP de j x)).isSome = true → (dealK rec x cl de m k).isSome = true
  | 0, _, _, h1, h2, _, _ => by omega
  | m + 1, k, j, h1, h2, h3, h4 => by
    rw [dealK]
    by_cases e : k = j
    · subst e
      rw [if_neg (by rw [h3]; decide)]
      split
      · rfl
      · rename_i hr; rw [hr] at h4; cases h4
    · have := dealK_isSome (rec := rec) (x := x) (cl := cl) (de := de) m (k + 1) j (by omega) (by omega) h3 h4
      split
      · exact this
      · split
        · rfl
        · exact this
theorem dealP_mono {m : Nat} {st : List Nat} : ∀ (ps : List (Nat × Nat)) (cl : List (List Nat)) (de : List (List (Nat × Nat))) (r : Dl), dealP m st ps cl de = some r → cl.length ≤ r.1.length
  | [], cl, de, r, h => by rw [dealP] at h; obtain rfl := Option.some.inj h; exact Nat.le_refl _
  | x :: ps, cl, de, r, h => by
    rw [dealP] at h
    split at h
    · rename_i r' hr'
      obtain rfl := Option.some.inj h
      obtain ⟨j, _, _, _, hr⟩ := dealK_some _ _ hr'
      have := dealP_mono ps _ _ _ hr
      simpa using this
    · split at h
      · cases h
      · have := dealP_mono ps _ _ _ h
        simp at this; omega
theorem dealP_few {m m' : Nat} {st : List Nat} : ∀ (ps : List (Nat × Nat)) (cl : List (List Nat)) (de : List (List (Nat × Nat))) (r : Dl), dealP m st ps cl de = some r → r.1.length ≤ m' → (dealP m' st ps cl de).isSome = true
  | [], _, _, _, _, _ => rfl
  | x :: ps, cl, de, r, h, hm => by
    have hmo := dealP_mono (x :: ps) cl de r h
    rw [dealP] at h
    rw [dealP]
    split
    · rfl
    · rename_i hn
      split at h
      · rename_i r' hr'
        obtain rfl := Option.some.inj h
        obtain ⟨j, h1, h2, hb, hr⟩ := dealK_some _ _ hr'
        have := dealK_isSome (rec := dealP m' st ps) cl.length 0 j h1 h2 hb (dealP_few (m' := m') ps _ _ _ hr hm)
        rw [hn] at this; cases this
      · split at h
        · cases h
        · have h5 := dealP_mono ps _ _ _ h
          rw [if_neg (by simp at h5; omega)]
          exact dealP_few ps _ _ _ h hm
theorem deals_len {n : Nat} {t : List (List Bool)} : ∃ m, (dealtT n t).length = m ∧ 1 ≤ m ∧ (dealP m (startT n t) (critT n t) [] []).isSome = true ∧ ∀ k, 1 ≤ k → k < m → dealP k (startT n t) (critT n t) [] [] = none := by
  obtain ⟨m, h1, h2, h3⟩ := deals_ex n t
  refine ⟨m, ?_, h1, by rw [h2]; rfl, h3⟩
  have hl := dealP_len h2
  have hle : (dealsT n t).1.length ≤ m := by
    have := dealP_keep (m := m) (st := startT n t) (fun _ cl _ => cl.length ≤ m) (critT n t) (fun i x cl de j _ h1 _ _ => by simpa using h1) (fun i x cl de _ h1 h2 => by simp; omega) (critT n t) 0 [] [] _ (Nat.zero_le _) rfl (Nat.zero_le _) h2
    exact this
  unfold dealtT
  split
  · rename_i he
    rw [he] at hl
    rcases Nat.lt_or_ge 1 m with h4 | h4
    · have h5 := h3 1 (Nat.le_refl _) h4
      have h6 := dealP_few (m' := 1) _ _ _ _ h2 (by rw [hl]; simp)
      rw [h5] at h6; cases h6
    · simp; omega
  · rename_i he
    have h0 : (dealsT n t).2.length ≠ 0 := fun e => he (List.length_eq_zero_iff.1 e)
    rcases Nat.lt_or_ge (dealsT n t).1.length m with h4 | h4
    · have h5 := h3 _ (by omega) h4
      have h6 := dealP_few (m' := (dealsT n t).1.length) _ _ _ _ h2 (Nat.le_refl _)
      rw [h5] at h6; cases h6
    · omega
end Go.AM

namespace Go.Proofs.D
open Go.AM Go
set_option maxRecDepth 100000
set_option maxHeartbeats 2000000
def longG (x : USet) : Bool := decide ((20 : Int) < x.W.length)
theorem great1_r (x : USet) (hx : x.W.length ≤ 9223372036854775807) : Reads Tryd.prog 39 false [.agg (rowV x)] (.bool (longG x)) := by
  unfold rowV
  refine Reads.body (rs := [.tmp 2]) Tryd.func39 rfl Tryd.ntmps39 rfl (by simp) ?_
  generalize hQr : retQ _ _ _ = Qr
  -- block 1
  refine AW.sg [1] [1] trivial ?_
  refine AW.sg [2] [] trivial ?_
  -- ret 1
  rw [← hQr]
  refine AW.rt trivial ?_
  exact Wk.of_eq (by unfold longG; simp)
theorem ixgreat_r (rs : List USet) (hl : longR rs) : Reads Tryd.prog 66 false [.rsl 2 (rs.map rowV), .fn 39 []] (.int .i64 (ixf longG rs)) := by
  have hbp := fun x hxm => great1_r x (hl.2 x hxm)
  have hl1 := hl.1
  refine Reads.body (rs := [.tmp 4]) Tryd.func66 rfl Tryd.ntmps66 rfl (by simp) ?_
  generalize hQr : retQ _ _ _ = Qr
  -- block 2
  refine AW.sg [0,1] [] trivial ?_
  refine AW.seq fun K1 hK1 => ?_
  refine AW.sg [0,1,7,8] [] trivial ?_
  refine AW.block ?_
  refine AW.loopE (fun mm ee ss kk => ∃ (j : Nat), rs.length - j = mm ∧ ee = [(0, .rsl 2 (rs.map rowV)), (1, .fn 39 []), (7, .int .i64 rs.length), (8, .int .i64 (j : Nat))] ∧ ss = [] ∧ (j ≤ rs.length ∧ (rs.take j).any longG = false)) ?_ ?_
  -- init 1
  · exact ⟨_, 0, rfl, eD, eD, eT⟩
  rintro mm ee ss kk ⟨j, rfl, rfl, rfl, hI⟩
  generalize hQl1 : thenQ _ _ = Ql1
  obtain ⟨hj, hall⟩ := hI
  refine AW.sg [0,1,7,8,9] [] trivial ?_
  refine AW.seq fun K2 hK2 => ?_
  refine AW.cn ?_ ?_
  · intro hb
    obtain ⟨x, hx⟩ := getI (l := rs) (j := j) (by omega)
    have hgx := getV (f := rowV) hx
    have hats := any_take_succ (p := longG) hx
    have hbx := hbp x (List.mem_of_getElem? hx)
    refine AW.skip ?_
    refine hK2 _ _ _ ?_; clear hK2
    refine AW.seq fun K3 hK3 => ?_
    refine AW.block ?_
    refine AW.sg [0,1,5,7,8] [] trivial ?_
    refine AW.so 0 (fun ii => if ii = 5 then some (.reads false (.bool (longG x))) else none) [0,1,5,7,8,16] [] (e2 @hgx @rowV.eq_1) ?_
    repeat with_reducible refine cj ?_ ?_
    all_goals try first | (exact hbx) | omega | exact ent (by kernel_rfl)
    refine AW.cn ?_ ?_
    · intro hb
      refine AW.sg [4] [] trivial ?_
      -- ret 1
      rw [← hQl1, ← hQr]
      refine AW.rt trivial ?_
      exact Wk.of_eq (by rw [ixf_at hx hb hall])
    · intro hb
      refine AW.skip ?_
      refine hK3 _ _ _ ?_; clear hK3
      refine AW.rg [0,1,7,8] [] trivial ?_
      -- again 1
      rw [← hQl1]; change Exists _
      exact ⟨_, eO, j + 1, rfl, eD, eD, (⟨by omega, by rw [hats, hall, hb]; rfl⟩)⟩
  · intro hb
    -- exit 0
    refine AW.kx [] [] ?_
    rw [← hQl1]
    refine hK1 _ _ _ ?_; clear hK1
    refine AW.sg [4] [] trivial ?_
    -- ret 2
    rw [← hQr]
    refine AW.rt trivial ?_
    exact Wk.of_eq (by rw [List.take_of_length_le (by omega)] at hall; rw [ixf_none hall])
theorem ctgreat_r (rs : List USet) (hl : longR rs) : Reads Tryd.prog 38 false [.rsl 2 (rs.map rowV), .fn 39 []] (.bool (rs.any longG)) := by
  have h := ixgreat_r rs hl
  have hge := ixf_ge longG rs
  refine Reads.body (rs := [.tmp 4]) Tryd.func38 rfl Tryd.ntmps38 rfl (by simp) ?_
  generalize hQr : retQ _ _ _ = Qr
  -- block 3
  refine AW.sg [0,1] [] trivial ?_
  refine AW.so 0 (fun ii => if ii = 2 then some (.reads false (.int .i64 (ixf longG rs))) else none) [4] [] trivial ?_
  repeat with_reducible refine cj ?_ ?_
  all_goals try first | (exact h) | omega | exact ent (by kernel_rfl)
  -- ret 1
  rw [← hQr]
  refine AW.rt trivial ?_
  exact Wk.of_eq (by rw [hge])
def greatB (rs : List USet) : Bool := decide ((20 : Int) < rs.length) || rs.any longG
theorem great_r (rs : List USet) (hl : longR rs) : Reads Tryd.prog 11 false [relV rs] (.bool (greatB rs)) := by
  have h := Reads.flat (ctgreat_r rs hl) rfl
  have hl1 := hl.1
  unfold relV
  refine Reads.body (rs := [.tmp 2]) Tryd.func11 rfl Tryd.ntmps11 rfl (by simp) ?_
  generalize hQr : retQ _ _ _ = Qr
  -- block 4
  refine AW.sg [1] [1] trivial ?_
  refine AW.so 0 (fun ii => if ii = 7 then some (.reads true (.bool (rs.any longG))) else none) [2] [] trivial ?_
  repeat with_reducible refine cj ?_ ?_
  all_goals try first | ((intro hh; exact ⟨hh, h⟩)) | (intros; (repeat' apply And.intro) <;> first | assumption | ((intro hh; exact ⟨hh, h⟩))) | omega | exact ent (by kernel_rfl) | (intro hgd; exact absurd hgd (by decide)) | rfl | exact gD | (intro _hgd; simp_all [go_sem]; done)
  -- ret 1
  rw [← hQr]
  refine AW.rt trivial ?_
  exact Wk.of_eq (by unfold greatB; rfl)
theorem great_f {rs : List USet} (h : greatB rs = false) : rs.length ≤ 20 ∧ ∀ x ∈ rs, x.W.length ≤ 20 := by
  unfold greatB at h
  rw [Bool.or_eq_false_iff] at h
  refine ⟨by have := of_decide_eq_false h.1; omega, fun x hx => ?_⟩
  have := List.any_eq_false.1 h.2 x hx
  unfold longG at this
  simp only [decide_eq_true_eq] at this
  omega
theorem crit_g (n : Nat) (t : List (List Bool)) (hs : Sq n t) (hn : n ≤ 512) (hv : poB n t = true) : Reads Tryd.prog 12 false [relB t] (.tup [.rsl 2 (prs (critT n t)), .int .i64 ((0 : Nat) : Int)]) := by
  have h := pvalid_g n t hs hn
  rw [hv] at h
  have hc := Reads.old (critical_r n t hs hn)
  unfold relB at *
  refine Reads.body (rs := [.tmp 2, .tmp 3]) Tryd.func12 rfl Tryd.ntmps12 rfl (by simp) ?_
  generalize hQr : retQ _ _ _ = Qr
  -- block 5
  refine AW.sg [1] [1] trivial ?_
  refine AW.seq fun K1 hK1 => ?_
  refine AW.so 0 (fun ii => if ii = 1 then some (.reads false (.bool true)) else none) [1,6] [1] trivial ?_
  refine AW.cn ?_ ?_
  · intro hb
    simp at hb
  · intro hb
    refine AW.skip ?_
    refine hK1 _ _ _ ?_; clear hK1
    refine AW.so 0 (fun ii => if ii = 1 then some (.reads false (.rsl 2 (prs (critT n t)))) else none) [2,3] [] trivial ?_
    -- ret 2
    rw [← hQr]
    refine AW.rt trivial ?_
    exact Wk.of_eq rfl
theorem dim_g (n : Nat) (t : List (List Bool)) (hs : Sq n t) (hn : n ≤ 8) (hv : poB n t = true) : Reads Tryd.prog 23 false [relB t] (.tup [.int .i64 (dealtT n t).length, .int .i64 ((0 : Nat) : Int)]) := by
  have hd := dealt_ok hs ((poB_iff hs).1 hv) hn
  have hr := realizer_g n t hs hn hv hd
  have hl : (lisR (realT n t)).length = (dealtT n t).length := by rw [lisR_len, realT_len]
  unfold relB at *
  refine Reads.body (rs := [.tmp 2, .tmp 3]) Tryd.func23 rfl Tryd.ntmps23 rfl (by simp) ?_
  generalize hQr : retQ _ _ _ = Qr
  -- block 10
  refine AW.sg [1] [1] (@hl) ?_
  refine AW.so 0 (fun ii => if ii = 1 then some (.reads false (.tup [.rsl 1 (lisR (realT n t)), .int .i64 ((0 : Nat) : Int)])) else none) [4,5] [] (@hl) ?_
  refine AW.seq fun K1 hK1 => ?_
  refine AW.sg [4,5,12] [] (@hl) ?_
  repeat with_reducible refine cj ?_ ?_
  all_goals try first | (exact hr) | omega
  refine AW.cn ?_ ?_
  · intro hb
    exfalso; simp at hb
  · intro hb
    refine AW.skip ?_
    refine hK1 _ _ _ ?_; clear hK1
    refine AW.sg [2,3] [] (@hl) ?_
    -- ret 2
    rw [← hQr]
    refine AW.rt (@hl) ?_
    exact Wk.of_eq rfl
end Go.Proofs.D

/- The order that lists have in common. -/
namespace Go.AM
def plI (n : Nat) (l : List Int) : Nat → List Int
  | 0 => List.replicate n 0
  | m + 1 => (plI n l m).set (l.getD m 0).toNat ((m : Int) + 1)
theorem plI_len (n : Nat) (l : List Int) : ∀ m, (plI n l m).length = n
  | 0 => by simp [plI]
  | m + 1 => by simp [plI, plI_len n l m]
theorem getD_setI (b : List Int) (i j : Nat) (x : Int) : (b.set i x).getD j 0 = if i = j ∧ i < b.length then x else b.getD j 0 := by
  rw [List.getD_eq_getElem?_getD, List.getElem?_set]
  by_cases h : i = j
  · subst h
    by_cases h2 : i < b.length
    · simp [h2]
    · simp [h2, List.getD_eq_getElem?_getD]
  · simp [h, List.getD_eq_getElem?_getD]
theorem plI_at {n : Nat} {l : List Int} (hE : IsEach n l) : ∀ m, m ≤ n → ∀ k, k < m → (plI n l m).getD (l.getD k 0).toNat 0 = (k : Int) + 1
  | 0, _, k, hk => by omega
  | m + 1, hm, k, hk => by
    have hr := hE.rng m (by omega)
    have hrk := hE.rng k (by omega)
    show ((plI n l m).set (l.getD m 0).toNat ((m : Int) + 1)).getD (l.getD k 0).toNat 0 = _
    rw [getD_setI, plI_len]
    by_cases e : k = m
    · subst e; rw [if_pos ⟨rfl, by omega⟩]
    · have hne := hE.inj (a := k) (b := m) (by omega) (by omega)
      rw [if_neg (fun h => hne (by omega))]
      exact plI_at hE m (by omega) k (by omega)
/-- The place of i in l, as the reference finds it. -/
def refA (l : List Int) (i : Int) : Nat → Int
  | 0 => 0
  | m + 1 => if l.getD m 0 = i then (m : Nat) else refA l i m
def bfA (n : Nat) (i j : Nat) (l : List Int) : Bool := decide (refA l i n < refA l j n)
theorem refA_at {n : Nat} {l : List Int} (hE : IsEach n l) {k : Nat} {i : Int} (hk : l.getD k 0 = i) : ∀ m, m ≤ n → k < m → refA l i m = (k : Nat)
  | 0, _, h => by omega
  | m + 1, hm, h => by
    unfold refA
    by_cases e : k = m
    · subst e; rw [if_pos hk]
    · have hne := hE.inj (a := k) (b := m) (by omega) (by omega)
      rw [if_neg (fun h => hne (by rw [hk, h]))]
      exact refA_at hE hk m (by omega) (by omega)
theorem atv_ref {n : Nat} {l : List Int} (hE : IsEach n l) {i : Nat} (hi : i < n) : (plI n l n).getD i 0 = refA l (i : Nat) n + 1 ∧ ∃ k : Nat, k < n ∧ l.getD k 0 = (i : Nat) ∧ refA l (i : Nat) n = (k : Nat) := by
  obtain ⟨k, hk, he⟩ := hE.has hi
  have h1 := plI_at hE n (Nat.le_refl _) k hk
  rw [he, Int.toNat_natCast] at h1
  have h2 := refA_at hE he n (Nat.le_refl _) hk
  exact ⟨by rw [h1, h2], k, hk, he, h2⟩
end Go.AM

/- The meet of all extensions is the order. -/
namespace Go.AM
/-- Of an extension: what is less stands before. -/
theorem ext_bf {n : Nat} {t : List (List Bool)} (hp : IsPo n t) {l : List Int} (hx : extB n (belL n t) l = true) {i j : Nat} (hi : i < n) (hj : j < n) (ha : atT t i j = true) : bfA n i j l = true := by
  obtain ⟨h1, h2⟩ := (ext_iff hp).1 hx
  have hE := eachB_iff.1 h1
  obtain ⟨_, ki, b1, c1, d1⟩ := atv_ref hE hi
  obtain ⟨_, kj, b2, c2, d2⟩ := atv_ref hE hj
  unfold bfA
  rw [d1, d2, decide_eq_true_eq]
  rcases Nat.lt_trichotomy ki kj with e | e | e
  · omega
  · exfalso
    subst e
    have : i = j := by omega
    subst this
    rw [hp.irr i hi] at ha; cases ha
  · exfalso
    have h3 := h2 ki b1 kj e
    unfold noLess at h3
    rw [c1, c2, Int.toNat_natCast, Int.toNat_natCast, ha] at h3
    cases h3
structure SzI (n : Nat) (bel : List (List Int)) (C : Nat) (A : List (List Int)) (L : List Int) : Prop where
  pos : 1 ≤ A.length
  le : A.length ≤ C
  ok : ∀ j, j < A.length → IsExt n bel (A.getD j []) ∧ rankC bel n (A.getD j []) n = j
  last : A.getD (A.length - 1) [] = L
theorem SzI.snoc {n : Nat} {bel : List (List Int)} {C : Nat} {A : List (List Int)} {L r : List Int} (h : SzI n bel C A L) (hC : A.length < C) (hr : IsExt n bel r) (hk : rankC bel n r n = A.length) : SzI n bel C (A ++ [r]) r := by
  refine ⟨by simp, by simp; omega, fun j hj => ?_, by simp [List.getD_eq_getElem?_getD]⟩
  simp only [List.length_append, List.length_cons, List.length_nil] at hj
  by_cases e : j < A.length
  · rw [List.getD_eq_getElem?_getD, List.getElem?_append_left e, ← List.getD_eq_getElem?_getD]; exact h.ok j e
  · have e2 : j = A.length := by omega
    subst e2
    rw [List.getD_eq_getElem?_getD, List.getElem?_append_right (Nat.le_refl _)]
    simp
    exact ⟨hr, hk⟩
end Go.AM

/- Realizers: the program's test and the reference's are one. -/
namespace Go.AM
/-- The places of a list's numbers: of the program, and of the reference. -/
def plZ (n : Nat) (l : List Int) : Nat → List Int
  | 0 => List.replicate n 0
  | m + 1 => (plZ n l m).set (l.getD m 0).toNat (m : Nat)
theorem plZ_len (n : Nat) (l : List Int) : ∀ m, (plZ n l m).length = n
  | 0 => by simp [plZ]
  | m + 1 => by simp [plZ, plZ_len n l m]
theorem plZ_at {n : Nat} {l : List Int} (hE : IsEach n l) : ∀ m, m ≤ n → ∀ k, k < m → (plZ n l m).getD (l.getD k 0).toNat 0 = (k : Int)
  | 0, _, k, h => by omega
  | m + 1, hm, k, h => by
    unfold plZ
    have hr := hE.rng m (by omega)
    have hrk := hE.rng k (by omega)
    rw [getD_setI, plZ_len]
    by_cases e : k = m
    · subst e; rw [if_pos ⟨rfl, by omega⟩]
    · have hne := hE.inj (a := k) (b := m) (by omega) (by omega)
      rw [if_neg (by rintro ⟨h1, _⟩; apply hne; omega)]
      exact plZ_at hE m (by omega) k (by omega)
theorem plZ_ref {n : Nat} {l : List Int} (hE : IsEach n l) {i : Nat} (hi : i < n) : (plZ n l n).getD i 0 = refA l (i : Nat) n := by
  obtain ⟨k, hk, he⟩ := hE.has hi
  have h1 := plZ_at hE n (Nat.le_refl _) k hk
  rw [he, Int.toNat_natCast] at h1
  rw [h1, refA_at hE he n (Nat.le_refl _) hk]
/-- Two elements have different places. -/
theorem refA_ne {n : Nat} {l : List Int} (hE : IsEach n l) {i j : Nat} (hi : i < n) (hj : j < n) (h : i ≠ j) : refA l (i : Nat) n ≠ refA l (j : Nat) n := by
  obtain ⟨k, hk, he⟩ := hE.has hi
  obtain ⟨m, hm, hf⟩ := hE.has hj
  rw [refA_at hE he n (Nat.le_refl _) hk, refA_at hE hf n (Nat.le_refl _) hm]
  intro e
  obtain rfl : k = m := by omega
  rw [he] at hf; omega
theorem bfA_or {n : Nat} {l : List Int} (hE : IsEach n l) {i j : Nat} (hi : i < n) (hj : j < n) (h : i ≠ j) : bfA n j i l = !bfA n i j l := by
  have := refA_ne hE hi hj h
  unfold bfA
  rw [← decide_not]
  exact decide_eq_decide.2 (by omega)
theorem bfA_trans {n : Nat} {l : List Int} {i j k : Nat} (h1 : bfA n i j l = true) (h2 : bfA n j k l = true) : bfA n i k l = true := by
  unfold bfA at *
  simp only [decide_eq_true_eq] at *
  omega
theorem bfA_irr {n : Nat} {l : List Int} {i : Nat} : bfA n i i l = false := by
  unfold bfA; exact decide_eq_false (by omega)
/-- Extensions are lists of all elements in which what is less comes before. -/
theorem extB_bf {n : Nat} {t : List (List Bool)} (hp : IsPo n t) {l : List Int} : extB n (belL n t) l = true ↔ IsEach n l ∧ ∀ i j, i < n → j < n → atT t i j = true → bfA n i j l = true := by
  constructor
  · intro h
    exact ⟨eachB_iff.1 ((ext_iff hp).1 h).1, fun i j hi hj ha => ext_bf hp h hi hj ha⟩
  · rintro ⟨hE, h⟩
    refine (ext_iff hp).2 ⟨eachB_iff.2 hE, fun j hj i hi => ?_⟩
    unfold noLess
    have r1 := hE.rng j hj
    have r2 := hE.rng i (by omega)
    cases e : atT t (l.getD j 0).toNat (l.getD i 0).toNat with
    | false => rfl
    | true =>
      have := h _ _ (by omega) (by omega) e
      unfold bfA at this
      rw [Int.toNat_of_nonneg r1.1, Int.toNat_of_nonneg r2.1, refA_at hE rfl n (Nat.le_refl _) hj, refA_at hE rfl n (Nat.le_refl _) (show i < n by omega)] at this
      simp only [decide_eq_true_eq] at this
      omega
/-- The program's test. -/
def geZ (i j : Nat) (p : List Int) : Bool := decide (p.getD j 0 ≤ p.getD i 0)
def prZ (n : Nat) (t : List (List Bool)) (ls : List (List Int)) (i j : Nat) : Bool := (!(ls.map fun l => plZ n l n).any (geZ i j)) == atT t i j
def rlzB (n : Nat) (t : List (List Bool)) (ls : List (List Int)) : Bool := !decide (ls.length = 0) && (ls.all (extB n (belL n t)) && (List.range n).all fun i => (List.range n).all fun j => prZ n t ls i j)
/-- What a realizer is. -/
structure IsRlz (n : Nat) (t : List (List Bool)) (ls : List (List Int)) : Prop where
  ne : ls ≠ []
  ext : ∀ l ∈ ls, extB n (belL n t) l = true
  rev : ∀ i j, i < n → j < n → i ≠ j → atT t i j = false → ∃ l ∈ ls, bfA n j i l = true
theorem all2_iff {n : Nat} {f : Nat → Nat → Bool} : ((List.range n).all fun i => (List.range n).all fun j => f i j) = true ↔ ∀ i j, i < n → j < n → f i j = true := by
  simp only [List.all_eq_true, List.mem_range]
  exact ⟨fun h i j hi hj => h i hi j hj, fun h i hi j hj => h i j hi hj⟩
theorem rlzB_iff {n : Nat} {t : List (List Bool)} (hp : IsPo n t) {ls : List (List Int)} : rlzB n t ls = true ↔ IsRlz n t ls := by
  unfold rlzB
  rw [Bool.and_eq_true, Bool.and_eq_true, all2_iff, List.all_eq_true]
  have h0 : ((!decide (ls.length = 0)) = true) ↔ ls ≠ [] := by cases ls <;> simp
  rw [h0]
  have key : ls ≠ [] → (∀ l ∈ ls, extB n (belL n t) l = true) → ∀ i j, i < n → j < n → (prZ n t ls i j = true ↔ (i ≠ j → atT t i j = false → ∃ l ∈ ls, bfA n j i l = true)) := fun hne hx i j hi hj => by
    have hany : (ls.map fun l => plZ n l n).any (geZ i j) = true ↔ (i = j ∨ ∃ l ∈ ls, bfA n j i l = true) := by
      rw [List.any_eq_true]
      constructor
      · rintro ⟨p, hp1, hp2⟩
        obtain ⟨l, hl, rfl⟩ := List.mem_map.1 hp1
        have hE := (extB_bf hp).1 (hx l hl) |>.1
        by_cases e : i = j
        · exact .inl e
        · refine .inr ⟨l, hl, ?_⟩
          unfold geZ at hp2
          rw [plZ_ref hE hi, plZ_ref hE hj] at hp2
          have := refA_ne hE hi hj e
          unfold bfA
          simp only [decide_eq_true_eq] at hp2 ⊢
          omega
      · rintro (e | ⟨l, hl, hb⟩)
        · subst e
          obtain ⟨l, hl⟩ := List.exists_mem_of_ne_nil _ hne
          exact ⟨plZ n l n, List.mem_map_of_mem hl, by unfold geZ; exact decide_eq_true (Int.le_refl _)⟩
        · have hE := (extB_bf hp).1 (hx l hl) |>.1
          refine ⟨plZ n l n, List.mem_map_of_mem hl, ?_⟩
          unfold geZ
          rw [plZ_ref hE hi, plZ_ref hE hj]
          unfold bfA at hb
          simp only [decide_eq_true_eq] at hb ⊢
          omega
    unfold prZ
    cases ha : atT t i j with
    | true =>
      have hij : i ≠ j := fun e => by subst e; rw [hp.irr i hi] at ha; cases ha
      have hf : (ls.map fun l => plZ n l n).any (geZ i j) = false := by
        refine Bool.eq_false_iff.2 fun h => ?_
        rcases hany.1 h with e | ⟨l, hl, hb⟩
        · exact hij e
        · obtain ⟨hE, hbf⟩ := (extB_bf hp).1 (hx l hl)
          have := hbf i j hi hj ha
          rw [bfA_or hE hi hj hij, this] at hb; cases hb
      rw [hf]; simp
    | false =>
      cases hc : (ls.map fun l => plZ n l n).any (geZ i j) with
      | true =>
        rcases hany.1 hc with e | h
        · simp [e]
        · simp [h]
      | false =>
        have hn : ¬ (i = j ∨ ∃ l ∈ ls, bfA n j i l = true) := fun h => by rw [hany.2 h] at hc; cases hc
        simp only [Bool.not_false, beq_iff_eq, Bool.true_eq_false, false_iff]
        intro h
        exact hn (.inr (h (fun e => hn (.inl e)) trivial))
  constructor
  · rintro ⟨h1, h2, h3⟩
    exact ⟨h1, h2, fun i j hi hj => (key h1 h2 i j hi hj).1 (h3 i j hi hj)⟩
  · intro h
    exact ⟨h.ne, h.ext, fun i j hi hj => (key h.ne h.ext i j hi hj).2 (h.rev i j hi hj)⟩
end Go.AM

namespace Go.Proofs.D
open Go.AM Go
set_option maxRecDepth 100000
set_option maxHeartbeats 4000000
theorem gez_r (i j : Nat) (x : List Int) (hi : i < x.length) (hj : j < x.length) : Reads Tryd.prog 43 false [.rsl 1 (ints x), .rptr [.int .i64 i], .rptr [.int .i64 j]] (.bool (geZ i j x)) := by
  have h1 := ints_getD (l := x) (i := i) hi
  have h2 := ints_getD (l := x) (i := j) hj
  refine Reads.body (rs := [.tmp 4]) Tryd.func43 rfl Tryd.ntmps43 rfl (by simp) ?_
  generalize hQr : retQ _ _ _ = Qr
  -- block 1
  refine AW.sg [0,1,2] [] (e4 @ints_len @h1 @h2 @Int.toNat_natCast) ?_
  refine AW.sd mixed 0 (fun _ => none) [4] [] (e4 @ints_len @h1 @h2 @Int.toNat_natCast) ?_
  -- ret 1
  rw [← hQr]
  refine AW.rt (e4 @ints_len @h1 @h2 @Int.toNat_natCast) ?_
  exact Wk.refl _
theorem ixgez_r (a b n : Nat) (ls : List (List Int)) (hl : ls.length ≤ 9223372036854775807) (hA : a < n) (hC : b < n) (hx : ∀ x ∈ ls, x.length = n) : Reads Tryd.prog 63 false [.rsl 1 (lisR ls), .fn 43 [.rptr [.int .i64 a], .rptr [.int .i64 b]]] (.int .i64 (ixf (geZ a b) ls)) := by
  have hx0 := hx
  refine Reads.body (rs := [.tmp 4]) Tryd.func63 rfl Tryd.ntmps63 rfl (by simp) ?_
  generalize hQr : retQ _ _ _ = Qr
  -- block 2
  refine AW.sg [0,1] [] (@lisR_len) ?_
  refine AW.seq fun K1 hK1 => ?_
  refine AW.sg [0,1,7,8] [] (@lisR_len) ?_
  refine AW.block ?_
  refine AW.loopE (fun mm ee ss kk => ∃ (j : Nat), ls.length - j = mm ∧ ee = [(0, .rsl 1 (lisR ls)), (1, .fn 43 [.rptr [.int .i64 a], .rptr [.int .i64 b]]), (7, .int .i64 ls.length), (8, .int .i64 (j : Nat))] ∧ ss = [] ∧ (j ≤ ls.length ∧ (ls.take j).any (geZ a b) = false)) ?_ ?_
  -- init 1
  · exact ⟨_, 0, rfl, eD, eD, eT⟩
  rintro mm ee ss kk ⟨j, rfl, rfl, rfl, hI⟩
  generalize hQl1 : thenQ _ _ = Ql1
  obtain ⟨hj, hall⟩ := hI
  refine AW.sg [0,1,7,8,9] [] (@lisR_len) ?_
  refine AW.seq fun K2 hK2 => ?_
  refine AW.cn ?_ ?_
  · intro hb
    obtain ⟨x, hx⟩ := getI (l := ls) (j := j) (by omega)
    have hgx : (lisR ls).getD j [] = [.rsl 1 (ints x)] := by simp [lisR, List.getD_eq_getElem?_getD, hx]
    have hats := any_take_succ (p := geZ a b) hx
    have hbx := gez_r a b x (by rw [hx0 x (List.mem_of_getElem? hx)]; exact hA) (by rw [hx0 x (List.mem_of_getElem? hx)]; exact hC)
    refine AW.skip ?_
    refine hK2 _ _ _ ?_; clear hK2
    refine AW.seq fun K3 hK3 => ?_
    refine AW.block ?_
    refine AW.sg [0,1,5,7,8] [] (@lisR_len) ?_
    refine AW.so 0 (fun ii => if ii = 5 then some (.reads false (.bool (geZ a b x))) else none) [0,1,5,7,8,16] [] (e2 @lisR_len @hgx) ?_
    repeat with_reducible refine cj ?_ ?_
    all_goals try first | (exact hbx) | omega | exact ent (by kernel_rfl)
    refine AW.cn ?_ ?_
    · intro hb
      refine AW.sg [4] [] (@lisR_len) ?_
      -- ret 1
      rw [← hQl1, ← hQr]
      refine AW.rt (@lisR_len) ?_
      exact Wk.of_eq (by rw [ixf_at hx hb hall])
    · intro hb
      refine AW.skip ?_
      refine hK3 _ _ _ ?_; clear hK3
      refine AW.rg [0,1,7,8] [] (@lisR_len) ?_
      -- again 1
      rw [← hQl1]; change Exists _
      exact ⟨_, eO, j + 1, rfl, eD, eD, (⟨by omega, by rw [hats, hall, hb]; rfl⟩)⟩
  · intro hb
    -- exit 0
    refine AW.kx [] [] ?_
    rw [← hQl1]
    refine hK1 _ _ _ ?_; clear hK1
    refine AW.sg [4] [] (@lisR_len) ?_
    -- ret 2
    rw [← hQr]
    refine AW.rt (@lisR_len) ?_
    exact Wk.of_eq (by rw [List.take_of_length_le (by omega)] at hall; rw [ixf_none hall])
theorem ctgez_r (a b n : Nat) (ls : List (List Int)) (hl : ls.length ≤ 9223372036854775807) (hA : a < n) (hC : b < n) (hx : ∀ x ∈ ls, x.length = n) : Reads Tryd.prog 32 false [.rsl 1 (lisR ls), .fn 43 [.rptr [.int .i64 a], .rptr [.int .i64 b]]] (.bool (ls.any (geZ a b))) := by
  have h := ixgez_r a b n ls hl hA hC hx
  have hge := ixf_ge (geZ a b) ls
  refine Reads.body (rs := [.tmp 4]) Tryd.func32 rfl Tryd.ntmps32 rfl (by simp) ?_
  generalize hQr : retQ _ _ _ = Qr
  -- block 3
  refine AW.sg [0,1] [] trivial ?_
  refine AW.so 0 (fun ii => if ii = 2 then some (.reads false (.int .i64 (ixf (geZ a b) ls))) else none) [4] [] trivial ?_
  repeat with_reducible refine cj ?_ ?_
  all_goals try first | (exact h) | omega | exact ent (by kernel_rfl)
  -- ret 1
  rw [← hQr]
  refine AW.rt trivial ?_
  exact Wk.of_eq (by rw [hge])
/-- The places that are laid so far. -/
def plT (n : Nat) (ls : List (List Int)) (k : Nat) : List (List AV) := lisR ((ls.take k).map fun l => plZ n l n) ++ List.replicate (ls.length - k) [AV.nilsl]
theorem plT_len (n : Nat) (ls : List (List Int)) {k : Nat} (hk : k ≤ ls.length) : (plT n ls k).length = ls.length := by
  unfold plT; rw [List.length_append, lisR_len]; simp; omega
theorem plT_set (n : Nat) (ls : List (List Int)) {k : Nat} (hk : k < ls.length) {x : List Int} (hx : ls[k]? = some x) : (plT n ls k).set k [.rsl 1 (ints (plZ n x n))] = plT n ls (k + 1) := by
  unfold plT
  have hl : (lisR ((ls.take k).map fun l => plZ n l n)).length = k := by rw [lisR_len]; simp; omega
  rw [List.set_append_right _ _ (by omega), hl, Nat.sub_self, List.take_add_one, hx]
  obtain ⟨j, hj⟩ : ∃ j, ls.length - k = j + 1 := ⟨ls.length - k - 1, by omega⟩
  rw [hj, List.replicate_succ, List.set_cons_zero, show ls.length - (k + 1) = j by omega]
  simp [lisR]
theorem plT_get (n : Nat) (ls : List (List Int)) {k : Nat} (hk : k < ls.length) : (plT n ls k).getD k [] = [AV.nilsl] := by
  unfold plT
  have hl : (lisR ((ls.take k).map fun l => plZ n l n)).length = k := by rw [lisR_len]; simp; omega
  rw [Go.AM.getD_append, if_neg (by omega), hl, Nat.sub_self, List.getD_eq_getElem?_getD, List.getElem?_replicate, if_pos (by omega)]; rfl
theorem realizes_g (n : Nat) (t : List (List Bool)) (hs : Sq n t) (hn : n ≤ 512) (hv : poB n t = true) (ls : List (List Int)) (hl : ls.length ≤ 1000) (hle : ∀ x ∈ ls, x.length ≤ 9223372036854775807) : Reads Tryd.prog 13 false [relB t, .rsl 1 (lisR ls)] (.bool (rlzB n t ls)) := by
  have hp := (poB_iff hs).1 hv
  have h := pvalid_g n t hs hn
  rw [hv] at h
  have hisx := fun l hll => is_g n t hs hn l hll
  have htl := tabR_len t
  have hlen := hs.len
  have hml : (ls.map fun l => plZ n l n).length = ls.length := by simp
  have hme : ∀ x ∈ ls.map (fun l => plZ n l n), x.length = n := fun x hx => by obtain ⟨l, _, rfl⟩ := List.mem_map.1 hx; exact plZ_len n l n
  have hct := fun i j hi hj => Reads.flat (ctgez_r i j n (ls.map fun l => plZ n l n) (by rw [hml]; omega) hi hj hme) rfl
  have hrB : rlzB n t ls = (!decide (ls.length = 0) && (ls.all (extB n (belL n t)) && (List.range n).all fun i => (List.range n).all fun j => prZ n t ls i j)) := rfl
  have hz : List.replicate n [AV.int .i64 0] = ints (List.replicate n 0) := by simp [ints]
  unfold relB at *
  refine Reads.body (rs := [.tmp 4]) Tryd.func13 rfl Tryd.ntmps13 rfl (by simp) ?_
  generalize hQr : retQ _ _ _ = Qr
  -- block 5
  refine AW.sg [1,2] [2] (e3 @lisR_len @htl @hlen) ?_
  refine AW.seq fun K1 hK1 => ?_
  refine AW.so 0 (fun ii => if ii = 1 then some (.reads false (.bool true)) else none) [1,2,21] [2] (e3 @lisR_len @htl @hlen) ?_
  repeat with_reducible refine cj ?_ ?_
  all_goals try first | (exact h) | (intros; (repeat' apply And.intro) <;> first | assumption | (exact h)) | omega | exact ent (by kernel_rfl) | (intro hgd; exact absurd hgd (by decide)) | rfl | (simp only [go_sem, reduceIte, reduceCtorEq, zA, zM, zE, zL, zD, zS, zP, zB, zI, zR, lisR_len, htl, hlen]; done) | (intro _hgd; simp_all [go_sem]; done)
  refine AW.cn ?_ ?_
  · intro hb
    refine AW.sg [4] [] (e3 @lisR_len @htl @hlen) ?_
    -- ret 1
    rw [← hQr]
    refine AW.rt (e3 @lisR_len @htl @hlen) ?_
    exact Wk.of_eq (by rw [hrB, decide_eq_true (by simpa using hb)]; rfl)
  · intro hb
    have hne : ls.length ≠ 0 := by simpa using hb
    have hrB2 : rlzB n t ls = (ls.all (extB n (belL n t)) && (List.range n).all fun i => (List.range n).all fun j => prZ n t ls i j) := by rw [hrB, decide_eq_false hne]; rfl
    refine AW.skip ?_
    refine hK1 _ _ _ ?_; clear hK1
    refine AW.sg [1,2,5] [2] (e3 @lisR_len @htl @hlen) ?_
    refine AW.sg [1,2,5,6] [2,27] (e3 @lisR_len @htl @hlen) ?_
    refine AW.seq fun K2 hK2 => ?_
    refine AW.sg [2,5,6,28,29,30] [2,27] (e3 @lisR_len @htl @hlen) ?_
    refine AW.block ?_
    refine AW.loopE (fun mm ee ss kk => ∃ (k g2 v2 g v : Nat), ls.length - k = mm ∧ ee = [(2, .ptr ⟨2, g2, none⟩ 0 0), (5, .int .i64 n), (6, .sl ⟨27, g, none⟩ 0 ls.length none), (28, .rsl 1 (lisR ls)), (29, .int .i64 ls.length), (30, .int .i64 (k : Nat))] ∧ ss = [(2, some ⟨g2, v2, 1, [[.rsl 2 (tabR t)]]⟩), (27, some ⟨g, v, 1, plT n ls k⟩)] ∧ (k ≤ ls.length ∧ (ls.take k).all (extB n (belL n t)) = true)) ?_ ?_
    -- init 1
    · refine ⟨_, 0, ?_, ?_, ?_, ?_, rfl, ?henv, ?hstore, ?hst⟩
      case henv =>
        repeat' (first | rfl | refine env_cons ?_ ?_ | refine st_cons ?_ ?_ ?_ ?_ | refine int_eq ?_ | refine bool_eq ?_ | refine rsl_eq ?_ | refine osl_eq ?_ | refine sl_eq ?_ ?_ ?_ | refine ptr_eq ?_ ?_ ?_ | refine agg_eq ?_ | refine es_cons ?_ ?_ | refine row_cons ?_ ?_)
        all_goals (first | (simp; done) | omega | (simp; omega))
      case hstore =>
        repeat' (first | rfl | refine env_cons ?_ ?_ | refine st_cons ?_ ?_ ?_ ?_ | refine int_eq ?_ | refine bool_eq ?_ | refine rsl_eq ?_ | refine osl_eq ?_ | refine sl_eq ?_ ?_ ?_ | refine ptr_eq ?_ ?_ ?_ | refine agg_eq ?_ | refine es_cons ?_ ?_ | refine row_cons ?_ ?_)
        all_goals (first | rfl | (simp [plT, lisR]))
      case hst =>
        exact ⟨Nat.zero_le _, rfl⟩
    rintro mm ee ss kk ⟨k, g2, v2, g, v, rfl, rfl, rfl, hI⟩
    generalize hQl1 : thenQ _ _ = Ql1
    obtain ⟨hk, hall⟩ := hI
    refine AW.sg [2,5,6,28,29,30,31] [2,27,42] (e3 @lisR_len @htl @hlen) ?_
    refine AW.seq fun K3 hK3 => ?_
    refine AW.cn ?_ ?_
    · intro hb
      obtain ⟨x, hx⟩ := getI (l := ls) (j := k) (by omega)
      have hgx : (lisR ls).getD k [] = [.rsl 1 (ints x)] := by simp [lisR, List.getD_eq_getElem?_getD, hx]
      have hats := all_take_succ (p := extB n (belL n t)) hx
      have hxm := List.mem_of_getElem? hx
      have hix := hisx x (hle x hxm)
      rw [hv, Bool.true_and] at hix
      have hPl := plT_len n ls hk
      have hPg := plT_get n ls (show k < ls.length by omega)
      have hPs := plT_set n ls (show k < ls.length by omega) hx
      refine AW.skip ?_
      refine hK3 _ _ _ ?_; clear hK3
      refine AW.seq fun K4 hK4 => ?_
      refine AW.block ?_
      refine AW.sg [2,5,6,7,8,28,29,30] [2,27,42] (e4 @lisR_len @htl @hlen @hgx) ?_
      refine AW.seq fun K5 hK5 => ?_
      refine AW.so 0 (fun ii => if ii = 2 then some (.reads false (.bool (extB n (belL n t) x))) else none) [2,5,6,7,8,28,29,30,38] [2,27,42] (e3 @lisR_len @htl @hlen) ?_
      repeat with_reducible refine cj ?_ ?_
      all_goals try first | (exact hix) | omega | exact ent (by kernel_rfl)
      refine AW.cn ?_ ?_
      · intro hb
        refine AW.sg [4] [] (e3 @lisR_len @htl @hlen) ?_
        -- ret 2
        rw [← hQl1, ← hQr]
        refine AW.rt (e3 @lisR_len @htl @hlen) ?_
        have hf : ls.all (extB n (belL n t)) = false := by
          refine Bool.eq_false_iff.2 fun e => ?_
          have := List.all_eq_true.1 e x hxm
          rw [this] at hb; cases hb
        exact Wk.of_eq (by rw [hrB2, hf]; rfl)
      · intro hb
        have hex : extB n (belL n t) x = true := by simpa using hb
        obtain ⟨hE, _⟩ := (extB_bf hp).1 hex
        have hxl := hE.len
        refine AW.skip ?_
        refine hK5 _ _ _ ?_; clear hK5
        refine AW.sg [2,5,6,7,8,28,29,30] [2,27,42] (e5 @lisR_len @htl @hlen @hPl @hPg) ?_
        refine AW.sg [2,5,6,7,28,29,30,44,45,46] [2,27,42] (e3 @lisR_len @htl @hlen) ?_
        refine AW.block ?_
        refine AW.loopE (fun mm ee ss kk => ∃ (m g2 v2 g v gc vc : Nat), n - m = mm ∧ ee = [(2, .ptr ⟨2, g2, none⟩ 0 0), (5, .int .i64 n), (6, .sl ⟨27, g, none⟩ 0 ls.length none), (7, .int .i64 (k : Nat)), (28, .rsl 1 (lisR ls)), (29, .int .i64 ls.length), (30, .int .i64 (k : Nat)), (44, .rsl 1 (ints x)), (45, .int .i64 n), (46, .int .i64 (m : Nat))] ∧ ss = [(2, some ⟨g2, v2, 1, [[.rsl 2 (tabR t)]]⟩), (27, some ⟨g, v, 1, (plT n ls k).set k [.sl ⟨42, gc, none⟩ 0 n none]⟩), (42, some ⟨gc, vc, 1, ints (plZ n x m)⟩)] ∧ (m ≤ n)) ?_ ?_
        -- init 2
        · refine ⟨_, 0, ?_, ?_, ?_, ?_, ?_, ?_, rfl, ?henv, ?hstore, ?hst⟩
          case henv =>
            repeat' (first | rfl | refine env_cons ?_ ?_ | refine st_cons ?_ ?_ ?_ ?_ | refine int_eq ?_ | refine bool_eq ?_ | refine rsl_eq ?_ | refine osl_eq ?_ | refine sl_eq ?_ ?_ ?_ | refine ptr_eq ?_ ?_ ?_ | refine agg_eq ?_ | refine es_cons ?_ ?_ | refine row_cons ?_ ?_)
            all_goals (first | omega | rfl | (rw [hxl]) | (simp [hxl]))
          case hstore =>
            repeat' (first | rfl | refine env_cons ?_ ?_ | refine st_cons ?_ ?_ ?_ ?_ | refine int_eq ?_ | refine bool_eq ?_ | refine rsl_eq ?_ | refine osl_eq ?_ | refine sl_eq ?_ ?_ ?_ | refine ptr_eq ?_ ?_ ?_ | refine agg_eq ?_ | refine es_cons ?_ ?_ | refine row_cons ?_ ?_)
            all_goals (first | (rw [show plZ n x 0 = List.replicate n 0 from rfl, ← hz]; done) | skip)
            all_goals trace_state
          case hst =>
            first | trivial | omega | (simp; done) | (simp; omega)
        rintro mm ee ss kk ⟨m, g2, v2, g, v, gc, vc, rfl, rfl, rfl, hI⟩
        generalize hQl2 : thenQ _ _ = Ql2
        refine AW.sg [2,5,6,7,28,29,30,44,45,46,47] [2,27,42] (e3 @lisR_len @htl @hlen) ?_
        refine AW.seq fun K6 hK6 => ?_
        refine AW.cn ?_ ?_
        · intro hb
          have hgm := ints_getD (l := x) (i := m) (by omega)
          have hrg := hE.rng m (by omega)
          have hcl : ((plT n ls k).set k [AV.sl ⟨42, gc, none⟩ 0 n none]).getD k [] = [AV.sl ⟨42, gc, none⟩ 0 n none] := Go.AM.getD_set_eq (by omega) _ _
          have hsl : ((plT n ls k).set k [AV.sl ⟨42, gc, none⟩ 0 n none]).length = ls.length := by rw [List.length_set]; exact hPl
          have hzl := ints_len (plZ n x m)
          rw [plZ_len] at hzl
          have hzs : (ints (plZ n x m)).set (x.getD m 0).toNat [.int .i64 (m : Nat)] = ints (plZ n x (m + 1)) := by simp [ints, plZ, List.map_set]
          refine AW.skip ?_
          refine hK6 _ _ _ ?_; clear hK6
          refine AW.seq fun K7 hK7 => ?_
          refine AW.block ?_
          refine AW.sg [2,5,6,7,9,10,28,29,30,44,45,46] [2,27,42] (e4 @lisR_len @htl @hlen @hgm) ?_
          refine AW.rg [2,5,6,7,28,29,30,44,45,46] [2,27,42] (e3 @lisR_len @htl (e5 @hlen @hcl @hsl @hzl @hzs)) ?_
          refine hK7 _ _ _ ?_; clear hK7
          refine AW.rg [2,5,6,7,28,29,30,44,45,46] [2,27,42] (e3 @lisR_len @htl @hlen) ?_
          -- again 2
          rw [← hQl2]; change Exists _
          exact ⟨_, eO, m + 1, _, _, _, _, _, _, rfl, eD, eD, eT⟩
        · intro hb
          obtain rfl : m = n := by omega
          have hcl : ((plT m ls k).set k [AV.sl ⟨42, gc, none⟩ 0 m none]).getD k [] = [AV.sl ⟨42, gc, none⟩ 0 m none] := Go.AM.getD_set_eq (by omega) _ _
          have hsl : ((plT m ls k).set k [AV.sl ⟨42, gc, none⟩ 0 m none]).length = ls.length := by rw [List.length_set]; exact hPl
          have hss : ∀ a, ((plT m ls k).set k [AV.sl ⟨42, gc, none⟩ 0 m none]).set k a = (plT m ls k).set k a := fun a => List.set_set ..
          have htk : (ints (plZ m x m)).take m = ints (plZ m x m) := List.take_of_length_le (by rw [ints_len, plZ_len]; omega)
          refine AW.frzCellK [42] 5 27 k 0 ?_
          simp only [go_sem, reduceIte, zE, zL, hcl, hsl, hss, htk]
          refine ⟨rfl, by omega, ?_⟩
          -- exit 2
          refine AW.kx [2,5,6,28,29,30] [2,27,42] ?_
          rw [← hQl2]
          refine hK4 _ _ _ ?_; clear hK4
          refine AW.rg [2,5,6,28,29,30] [2,27] (e3 @lisR_len @htl @hlen) ?_
          -- again 1
          rw [← hQl1]; change Exists _
          refine ⟨_, ?hm, k + 1, ?_, ?_, ?_, ?_, rfl, ?henv, ?hstore, ?hst⟩
          case henv =>
            repeat' (first | rfl | refine env_cons ?_ ?_ | refine st_cons ?_ ?_ ?_ ?_ | refine int_eq ?_ | refine bool_eq ?_ | refine rsl_eq ?_ | refine osl_eq ?_ | refine sl_eq ?_ ?_ ?_ | refine ptr_eq ?_ ?_ ?_ | refine agg_eq ?_ | refine es_cons ?_ ?_ | refine row_cons ?_ ?_)
            all_goals (first | (simp; done) | omega | (simp; omega))
          case hstore =>
            repeat' (first | rfl | refine env_cons ?_ ?_ | refine st_cons ?_ ?_ ?_ ?_ | refine int_eq ?_ | refine bool_eq ?_ | refine rsl_eq ?_ | refine osl_eq ?_ | refine sl_eq ?_ ?_ ?_ | refine ptr_eq ?_ ?_ ?_ | refine agg_eq ?_ | refine es_cons ?_ ?_ | refine row_cons ?_ ?_)
            all_goals (first | (rw [← hPs]; done) | skip)
            all_goals trace_state
          case hst =>
            exact ⟨by omega, by rw [hats, hall, hex]; rfl⟩
          case hm => omega
    · intro hb
      have hkl : k = ls.length := by omega
      rw [hkl, List.take_of_length_le (Nat.le_refl _)] at hall
      have hrB3 : rlzB n t ls = (List.range n).all fun i => (List.range n).all fun j => prZ n t ls i j := by rw [hrB2, hall]; rfl
      have hpT : plT n ls k = lisR (ls.map fun l => plZ n l n) := by
        unfold plT; rw [hkl, List.take_of_length_le (Nat.le_refl _)]; simp
      rw [hpT]
      have htl2 : (lisR (ls.map fun l => plZ n l n)).take ls.length = lisR (ls.map fun l => plZ n l n) := List.take_of_length_le (by rw [lisR_len, hml]; omega)
      have hpz : ∀ i j, prZ n t ls i j = ((!(ls.map fun l => plZ n l n).any (geZ i j)) == atT t i j) := fun _ _ => rfl
      generalize hA : (ls.map fun l => plZ n l n) = A at *
      refine AW.freezeK [27] [6] [2, 5] [2] ?_
      simp only [go_sem, reduceIte, zE, htl2, vwc_lisR]
      -- exit 0
      refine AW.kx [2,5,6] [2,27,42] ?_
      rw [← hQl1]
      refine hK2 _ _ _ ?_; clear hK2
      refine AW.seq fun K8 hK8 => ?_
      refine AW.sg [2,5,6,60,61] [2] (e3 @lisR_len @htl @hlen) ?_
      refine AW.block ?_
      refine AW.loopE (fun mm ee ss kk => ∃ (i g2 v2 : Nat), n - i = mm ∧ ee = [(2, .ptr ⟨2, g2, none⟩ 0 0), (5, .int .i64 n), (6, .rsl 1 (lisR A)), (60, .int .i64 n), (61, .int .i64 (i : Nat))] ∧ ss = [(2, some ⟨g2, v2, 1, [[.rsl 2 (tabR t)]]⟩)] ∧ (i ≤ n ∧ ((List.range i).all fun i => (List.range n).all fun j => prZ n t ls i j) = true)) ?_ ?_
      -- init 3
      · exact ⟨_, 0, _, _, rfl, eD, eD, (⟨Nat.zero_le _, rfl⟩)⟩
      rintro mm ee ss kk ⟨i, g2, v2, rfl, rfl, rfl, hI⟩
      generalize hQl3 : thenQ _ _ = Ql3
      obtain ⟨hi, hal⟩ := hI
      refine AW.sg [2,5,6,60,61,62] [2] (e3 @lisR_len @htl @hlen) ?_
      refine AW.seq fun K9 hK9 => ?_
      refine AW.cn ?_ ?_
      · intro hb
        have hin : i < n := by omega
        have hasu := all_succ (fun i => (List.range n).all fun j => prZ n t ls i j) i
        rw [hal, Bool.true_and] at hasu
        refine AW.skip ?_
        refine hK9 _ _ _ ?_; clear hK9
        refine AW.seq fun K10 hK10 => ?_
        refine AW.block ?_
        refine AW.sg [2,5,6,11,60,61] [2,11] (e3 @lisR_len @htl @hlen) ?_
        refine AW.sg [2,5,6,11,60,61,64,65] [2,11] (e3 @lisR_len @htl @hlen) ?_
        refine AW.block ?_
        refine AW.loopE (fun mm ee ss kk => ∃ (j g2 v2 g11 v11 : Nat), n - j = mm ∧ ee = [(2, .ptr ⟨2, g2, none⟩ 0 0), (5, .int .i64 n), (6, .rsl 1 (lisR A)), (11, .ptr ⟨11, g11, none⟩ 0 0), (60, .int .i64 n), (61, .int .i64 (i : Nat)), (64, .int .i64 n), (65, .int .i64 (j : Nat))] ∧ ss = [(2, some ⟨g2, v2, 1, [[.rsl 2 (tabR t)]]⟩), (11, some ⟨g11, v11, 1, [[.int .i64 (i : Nat)]]⟩)] ∧ (j ≤ n ∧ ((List.range j).all fun j => prZ n t ls i j) = true)) ?_ ?_
        -- init 4
        · exact ⟨_, 0, _, _, _, _, rfl, eD, eD, (⟨Nat.zero_le _, rfl⟩)⟩
        rintro mm ee ss kk ⟨j, g2, v2, g11, v11, rfl, rfl, rfl, hI⟩
        generalize hQl4 : thenQ _ _ = Ql4
        obtain ⟨hj, hal2⟩ := hI
        refine AW.sg [2,5,6,11,60,61,64,65,66] [2,11] (e3 @lisR_len @htl @hlen) ?_
        refine AW.seq fun K11 hK11 => ?_
        refine AW.cn ?_ ?_
        · intro hb
          have hjn : j < n := by omega
          have hjsu := all_succ (fun j => prZ n t ls i j) j
          rw [hal2, Bool.true_and] at hjsu
          have hc := hct i j hin hjn
          have hpij := hpz i j
          have hgi := tabR_get (t := t) (i := i) (by omega)
          have hri := hs.rowLen hin
          have hhb := rowN_r (rowT t i) (by omega) j (by omega)
          have hat : atT t i j = (rowT t i).getD j false := rfl
          rw [← hat] at hhb
          unfold rowB at hhb
          refine AW.skip ?_
          refine hK11 _ _ _ ?_; clear hK11
          refine AW.seq fun K12 hK12 => ?_
          refine AW.block ?_
          refine AW.sg [2,5,6,11,12,60,61,64,65] [2,11,12] (e3 @lisR_len @htl @hlen) ?_
          refine AW.so 0 (fun ii => if ii = 2 then some (.reads true (.bool (A.any (geZ i j)))) else none) [2,5,6,11,12,13,60,61,64,65] [2,11,12] (e3 @lisR_len @htl @hlen) ?_
          repeat with_reducible refine cj ?_ ?_
          all_goals try first | (exact hc) | omega | exact ent (by kernel_rfl)
          refine AW.sd mixed 0 (fun ii => if ii = 7 then some (.reads false (.bool (atT t i j))) else none) [2,5,6,11,60,61,64,65,80] [2,11,12] (e2 @lisR_len (e5 @htl @hlen @hgi @rowB.eq_1 @hri)) ?_
          repeat with_reducible refine cj ?_ ?_
          all_goals try first | ((rw [hri] at hhb; exact hhb)) | omega | exact chk (by kernel_rfl) | exact ent (by kernel_rfl)
          refine AW.cn ?_ ?_
          · intro hb
            refine AW.sg [4] [2] (e3 @lisR_len @htl @hlen) ?_
            -- ret 3
            rw [← hQl4, ← hQl3, ← hQr]
            refine AW.rt (e3 @lisR_len @htl @hlen) ?_
            have hf : prZ n t ls i j = false := by rw [hpij]; revert hb; cases A.any (geZ i j) <;> cases atT t i j <;> simp
            have h1 : ((List.range n).all fun j => prZ n t ls i j) = false := all_cut hjn hf
            exact Wk.of_eq (by rw [hrB3, all_cut hin h1])
          · intro hb
            refine AW.skip ?_
            refine hK12 _ _ _ ?_; clear hK12
            refine AW.rg [2,5,6,11,60,61,64,65] [2,11] (e3 @lisR_len @htl @hlen) ?_
            -- again 4
            rw [← hQl4]; change Exists _
            exact ⟨_, eO, j + 1, _, _, _, _, rfl, eD, eD, (⟨by omega, by rw [hjsu, hpij]; revert hb; cases A.any (geZ i j) <;> cases atT t i j <;> simp⟩)⟩
        · intro hb
          have hjn : j = n := by omega
          rw [hjn] at hal2
          -- exit 6
          refine AW.kx [2,5,6,60,61] [2,11] ?_
          rw [← hQl4]
          refine hK10 _ _ _ ?_; clear hK10
          refine AW.rg [2,5,6,60,61] [2] (e3 @lisR_len @htl @hlen) ?_
          -- again 3
          rw [← hQl3]; change Exists _
          exact ⟨_, eO, i + 1, _, _, rfl, eD, eD, (⟨by omega, by rw [hasu, hal2]⟩)⟩
      · intro hb
        have hin : i = n := by omega
        rw [hin] at hal
        -- exit 4
        refine AW.kx [] [2] ?_
        rw [← hQl3]
        refine hK8 _ _ _ ?_; clear hK8
        refine AW.sg [4] [2] (e3 @lisR_len @htl @hlen) ?_
        -- ret 4
        rw [← hQr]
        refine AW.rt (e3 @lisR_len @htl @hlen) ?_
        exact Wk.of_eq (by rw [hrB3, hal])
end Go.Proofs.D

namespace Go.Proofs.D
open Go.AM Go
set_option maxRecDepth 100000
set_option maxHeartbeats 4000000
end Go.Proofs.D

namespace Go.Proofs.D
open Go.AM Go
set_option maxRecDepth 100000
set_option maxHeartbeats 4000000
end Go.Proofs.D

/- Critical pairs: the reference's test is the program's; and they decide what a realizer is. -/
namespace Go.AM
theorem dwB_iff {n : Nat} {t : List (List Bool)} {x y : Nat} (hx : x < n) : dwB n t x y = false ↔ ∀ i, i < n → atT t i x = true → atT t i y = true := by
  unfold dwB belL
  rw [belAt_get hx, List.any_eq_false]
  constructor
  · intro h i hi ha
    have := h (i : Int) (List.mem_map.2 ⟨i, List.mem_filter.2 ⟨List.mem_range.2 hi, ha⟩, rfl⟩)
    simpa using this
  · intro h z hz
    obtain ⟨i, hi, rfl⟩ := List.mem_map.1 hz
    obtain ⟨h1, h2⟩ := List.mem_filter.1 hi
    simp [h i (List.mem_range.1 h1) h2]
theorem crB_iff {n : Nat} {t : List (List Bool)} (hs : Sq n t) {x y : Nat} (hx : x < n) (hy : y < n) : crB n t x y = true ↔ (x ≠ y ∧ atT t x y = false ∧ atT t y x = false) ∧ (∀ i, i < n → atT t i x = true → atT t i y = true) ∧ ∀ i, i < n → atT t y i = true → atT t x i = true := by
  unfold crB
  rw [Bool.and_eq_true, Bool.and_eq_true, Bool.not_eq_true', Bool.not_eq_true', dwB_iff hx, subB_iff, hs.rowLen hy]
  simp only [Bool.or_eq_false_iff, decide_eq_false_iff_not]
  refine and_congr ?_ (and_congr Iff.rfl Iff.rfl)
  constructor
  · rintro ⟨⟨a, b⟩, c⟩; exact ⟨a, b, c⟩
  · rintro ⟨a, b, c⟩; exact ⟨⟨a, b⟩, c⟩
/-- Above each pair of elements that are not comparable there is a critical pair. -/
theorem crit_above {n : Nat} {t : List (List Bool)} (hs : Sq n t) (hp : IsPo n t) : ∀ (m x y : Nat), ((List.range n).filter fun i => atT t i x).length + ((List.range n).filter fun i => atT t y i).length ≤ m → x < n → y < n → x ≠ y → atT t x y = false → atT t y x = false →
    ∃ a b, a < n ∧ b < n ∧ crB n t a b = true ∧ leT t a x = true ∧ leT t y b = true := by
  intro m
  induction m with
  | zero =>
    intro x y hm hx hy hxy h1 h2
    refine ⟨x, y, hx, hy, (crB_iff hs hx hy).2 ⟨⟨hxy, h1, h2⟩, fun i hi ha => ?_, fun i hi ha => ?_⟩, by simp [leT], by simp [leT]⟩
    · have : i ∈ (List.range n).filter fun i => atT t i x := List.mem_filter.2 ⟨List.mem_range.2 hi, ha⟩
      have := List.length_pos_of_mem this
      omega
    · have : i ∈ (List.range n).filter fun i => atT t y i := List.mem_filter.2 ⟨List.mem_range.2 hi, ha⟩
      have := List.length_pos_of_mem this
      omega
  | succ m ih =>
    intro x y hm hx hy hxy h1 h2
    by_cases hc : crB n t x y = true
    · exact ⟨x, y, hx, hy, hc, by simp [leT], by simp [leT]⟩
    · have hc' : ¬ ((∀ i, i < n → atT t i x = true → atT t i y = true) ∧ ∀ i, i < n → atT t y i = true → atT t x i = true) := fun h => hc ((crB_iff hs hx hy).2 ⟨⟨hxy, h1, h2⟩, h⟩)
      rcases Classical.em (∀ i, i < n → atT t i x = true → atT t i y = true) with hd | hd
      · have : ∃ i, i < n ∧ atT t y i = true ∧ atT t x i = false := by
          apply Classical.byContradiction
          intro hno
          exact hc' ⟨hd, fun i hi ha => by
            cases e : atT t x i with
            | true => rfl
            | false => exact absurd ⟨i, hi, ha, e⟩ hno⟩
        obtain ⟨i, hi, ha, hb⟩ := this
        have hxi : x ≠ i := fun e => by subst e; rw [ha] at h2; cases h2
        have hix : atT t i x = false := by
          cases e : atT t i x with
          | false => rfl
          | true => rw [hp.trans y i x hy hi hx ha e] at h2; cases h2
        have hlt : ((List.range n).filter fun k => atT t i k).length < ((List.range n).filter fun k => atT t y k).length :=
          filter_lt (fun k hk hik => hp.trans y i k hy hi (List.mem_range.1 hk) ha hik) ⟨i, List.mem_range.2 hi, ha, hp.irr i hi⟩
        obtain ⟨a, b, h3, h4, h5, h6, h7⟩ := ih x i (by omega) hx hi hxi hb hix
        refine ⟨a, b, h3, h4, h5, h6, ?_⟩
        exact leT_trans hp hy hi h4 (by unfold leT; rw [ha, Bool.or_true]) h7
      · have : ∃ i, i < n ∧ atT t i x = true ∧ atT t i y = false := by
          apply Classical.byContradiction
          intro hno
          exact hd fun i hi ha => by
            cases e : atT t i y with
            | true => rfl
            | false => exact absurd ⟨i, hi, ha, e⟩ hno
        obtain ⟨i, hi, ha, hb⟩ := this
        have hiy : i ≠ y := fun e => by subst e; rw [ha] at h2; cases h2
        have hyi : atT t y i = false := by
          cases e : atT t y i with
          | false => rfl
          | true => rw [hp.trans y i x hy hi hx e ha] at h2; cases h2
        have hlt : ((List.range n).filter fun k => atT t k i).length < ((List.range n).filter fun k => atT t k x).length :=
          filter_lt (fun k hk hik => hp.trans k i x (List.mem_range.1 hk) hi hx hik ha) ⟨i, List.mem_range.2 hi, ha, hp.irr i hi⟩
        obtain ⟨a, b, h3, h4, h5, h6, h7⟩ := ih i y (by omega) hi hy hiy hb hyi
        exact ⟨a, b, h3, h4, h5, leT_trans hp h3 hi hx h6 (by unfold leT; rw [ha, Bool.or_true]), h7⟩
theorem bfA_le {n : Nat} {t : List (List Bool)} (hp : IsPo n t) {l : List Int} (hx : extB n (belL n t) l = true) {a b c : Nat} (ha : a < n) (hb : b < n) (h : leT t a b = true) : (bfA n b c l = true → bfA n a c l = true) ∧ (bfA n c a l = true → bfA n c b l = true) := by
  unfold leT at h
  rw [Bool.or_eq_true, decide_eq_true_eq] at h
  rcases h with rfl | h
  · exact ⟨id, id⟩
  · have := ext_bf hp hx ha hb h
    exact ⟨fun h2 => bfA_trans this h2, fun h2 => bfA_trans h2 this⟩
/-- Critical pairs decide. -/
theorem rlz_crit {n : Nat} {t : List (List Bool)} (hs : Sq n t) (hp : IsPo n t) {ls : List (List Int)} (hx : ∀ l ∈ ls, extB n (belL n t) l = true) : IsRlz n t ls ↔ ls ≠ [] ∧ ∀ x ∈ critT n t, ∃ l ∈ ls, bfA n x.2 x.1 l = true := by
  constructor
  · intro h
    refine ⟨h.ne, fun x hxm => ?_⟩
    have h1 := crA_mem.1 hxm
    have h2 := crB_inc h1.2.2
    exact h.rev x.1 x.2 h1.1 h1.2.1 h2.1 h2.2.1
  · rintro ⟨hne, h⟩
    refine ⟨hne, hx, fun i j hi hj hij ha => ?_⟩
    cases hji : atT t j i with
    | true =>
      obtain ⟨l, hl⟩ := List.exists_mem_of_ne_nil _ hne
      exact ⟨l, hl, ext_bf hp (hx l hl) hj hi hji⟩
    | false =>
      obtain ⟨a, b, h1, h2, h3, h4, h5⟩ := crit_above hs hp _ i j (Nat.le_refl _) hi hj hij ha hji
      obtain ⟨l, hl, hb⟩ := h (a, b) (crA_mem.2 ⟨h1, h2, h3⟩)
      refine ⟨l, hl, ?_⟩
      exact (bfA_le hp (hx l hl) (c := i) hj h2 h5).1 ((bfA_le hp (hx l hl) (c := b) h1 hi h4).2 hb)
/-- The order of a relation's nodes has what is related in the order. -/
def natL (l : List Nat) : List Int := l.map fun (i : Nat) => (i : Int)
theorem natL_get {l : List Nat} {k : Nat} (hk : k < l.length) : (natL l).getD k 0 = ((l[k] : Nat) : Int) := by
  simp [natL, List.getD_eq_getElem?_getD, hk]
theorem natL_each {n : Nat} {l : List Nat} (hl : l.length = n) (hnd : l.Nodup) (hr : ∀ i ∈ l, i < n) : IsEach n (natL l) := by
  have hlen : (natL l).length = n := by simp [natL, hl]
  refine ⟨hlen, fun m hm => ?_, fun m hm => ?_⟩
  · rw [natL_get (by omega)]
    have := hr _ (List.getElem_mem (show m < l.length by omega))
    omega
  · have hrg : ∀ m, m < n → 0 ≤ (natL l).getD m 0 ∧ (natL l).getD m 0 < (n : Int) := fun m hm => by
      rw [natL_get (by omega)]
      have := hr _ (List.getElem_mem (show m < l.length by omega))
      omega
    have h1 := hrg m hm
    cases e : (dAt n (natL l) m).getD ((natL l).getD m 0).toNat false with
    | false => rfl
    | true =>
      obtain ⟨k, hk, he⟩ := (dAt_mem hrg hlen (i := ((natL l).getD m 0).toNat) (by omega) m (by omega)).1 e
      rw [natL_get (by omega), natL_get (by omega)] at he
      have h2 : l[k] = l[m] := by omega
      have := (List.getElem_inj hnd).1 h2
      omega
theorem natL_ref {n : Nat} {l : List Nat} (hl : l.length = n) (hnd : l.Nodup) (hr : ∀ i ∈ l, i < n) {k i : Nat} (h : l[k]? = some i) : refA (natL l) (i : Nat) n = (k : Int) := by
  obtain ⟨hk, he⟩ := List.getElem?_eq_some_iff.1 h
  have hE := natL_each hl hnd hr
  have := refA_at hE (k := k) (i := (i : Int)) (by rw [natL_get hk, he]) n (Nat.le_refl _) (by omega)
  exact this
/-- The order of nodes: all of them, what is related in the order. -/
theorem ordO_each {n : Nat} {u : List (List Bool)} (hs : Sq n u) (ha : acyc n u = true) : IsEach n (natL (ordO n u n [])) ∧ ∀ i j, i < n → j < n → atT u i j = true → bfA n i j (natL (ordO n u n [])) = true := by
  obtain ⟨hO, hl⟩ := ordO_ok hs ha n [] (OrdI.nil n u) (by simp)
  refine ⟨natL_each hl hO.nd hO.rng, fun i j hi hj hij => ?_⟩
  have hE := natL_each hl hO.nd hO.rng
  obtain ⟨k, hk, he⟩ := hE.has hj
  have hkl : k < (ordO n u n []).length := by omega
  rw [natL_get hkl] at he
  have hjk : (ordO n u n [])[k]? = some j := by rw [List.getElem?_eq_getElem hkl]; congr 1; omega
  obtain ⟨p, hp1, hp2⟩ := hO.top k j i hjk hi hij
  unfold bfA
  rw [natL_ref hl hO.nd hO.rng hjk, natL_ref hl hO.nd hO.rng hp2]
  exact decide_eq_true (by omega)
theorem addTs_at {n : Nat} : ∀ (q : List (Nat × Nat)) {t : List (List Bool)}, Sq n t → (∀ x ∈ q, x.1 < n ∧ x.2 < n) → ∀ i j, atT (addTs t q) i j = true ↔ (atT t i j = true ∨ (j, i) ∈ q)
  | [], t, _, _, i, j => by simp [addTs]
  | x :: q, t, hs, h, i, j => by
    have hx := h x (List.mem_cons_self ..)
    have h1 := addTs_at q (addT_sq hs hx.2) (fun y hy => h y (List.mem_cons_of_mem _ hy)) i j
    show atT (addTs (addT t x) q) i j = true ↔ _
    rw [h1]
    unfold addT
    rw [atT_putT hs hx.2 hx.1]
    simp only [Bool.or_eq_true, decide_eq_true_eq, List.mem_cons, Prod.ext_iff]
    constructor
    · rintro ((⟨a, b⟩ | a) | a)
      · exact .inr (.inl ⟨b.symm, a.symm⟩)
      · exact .inl a
      · exact .inr (.inr a)
    · rintro (a | ⟨a, b⟩ | a)
      · exact .inl (.inr a)
      · exact .inl (.inl ⟨b.symm, a.symm⟩)
      · exact .inr a
/-- Reversed's list: an extension that has the pairs turned round. -/
def revO (n : Nat) (t : List (List Bool)) (q : List (Nat × Nat)) : List Int := natL (ordO n (addTs t q) n [])
theorem revO_ok {n : Nat} {t : List (List Bool)} (hs : Sq n t) (hp : IsPo n t) {q : List (Nat × Nat)} (hq : ∀ x ∈ q, x.1 < n ∧ x.2 < n) (ha : acyc n (addTs t q) = true) : extB n (belL n t) (revO n t q) = true ∧ ∀ x ∈ q, bfA n x.2 x.1 (revO n t q) = true := by
  obtain ⟨hE, hb⟩ := ordO_each (addTs_sq hs fun x hx => (hq x hx).2) ha
  refine ⟨(extB_bf hp).2 ⟨hE, fun i j hi hj hij => hb i j hi hj ((addTs_at q hs hq i j).2 (.inl hij))⟩, fun x hx => ?_⟩
  exact hb x.2 x.1 (hq x hx).2 (hq x hx).1 ((addTs_at q hs hq _ _).2 (.inr hx))
theorem realT_eq (n : Nat) (t : List (List Bool)) : realT n t = (dealtT n t).map (revO n t) := rfl
/-- What the search finds is a realizer. -/
theorem realT_rlz {n : Nat} {t : List (List Bool)} (hs : Sq n t) (hp : IsPo n t) (hn : n ≤ 8) : IsRlz n t (realT n t) := by
  have hd := dealt_ok hs hp hn
  have hx : ∀ l ∈ realT n t, extB n (belL n t) l = true := fun l hl => by
    rw [realT_eq] at hl
    obtain ⟨q, hq, rfl⟩ := List.mem_map.1 hl
    exact (revO_ok hs hp (hd.row q hq).2.1 (hd.row q hq).2.2).1
  refine (rlz_crit hs hp hx).2 ⟨fun e => ?_, fun x hxm => ?_⟩
  · obtain ⟨m, h1, h2, _⟩ := deals_len (n := n) (t := t)
    have := realT_len n t
    rw [e] at this; simp at this; omega
  · obtain ⟨q, hq, hxq⟩ := dealt_all hs hp hn hxm
    refine ⟨revO n t q, by rw [realT_eq]; exact List.mem_map_of_mem hq, ?_⟩
    exact (revO_ok hs hp (hd.row q hq).2.1 (hd.row q hq).2.2).2 x hxq
end Go.AM

namespace Go.Proofs.D
open Go.AM Go
set_option maxRecDepth 100000
set_option maxHeartbeats 4000000
theorem rset_r (b : List Bool) (hl : b.length ≤ 100000) : Reads Tryd.prog 60 true [.rsl 1 (bools b)] (.agg [.int .i64 b.length, .rsl 1 (words (setW b b.length))]) := by
  have hwn := wordsN_rng (n := (b.length : Int)) (by omega)
  have hwe : ((b.length : Int) + 63).tdiv 64 = wordsN b.length := by unfold wordsN; congr 1; omega
  refine Reads.bodyF (rs := [.cell 2 69]) Tryd.func60 rfl Tryd.ntmps60 rfl (by simp) ?_
  generalize hQr : retQ _ _ _ = Qr
  -- block 1
  refine AW.sg [0,2] [2] trivial ?_
  refine AW.sg [0,2,3] [2,3,11] (@hwe) ?_
  refine AW.seq fun K1 hK1 => ?_
  refine AW.sg [0,2,3,4] [2,3,11] trivial ?_
  refine AW.block ?_
  refine AW.loopE (fun mm ee ss kk => ∃ (j g v gw vw g2 v2 : Nat) (c2 : List AV), b.length - j = mm ∧ ee = [(0, .rsl 1 (bools b)), (2, .ptr ⟨2, g2, none⟩ 0 0), (3, .ptr ⟨3, g, none⟩ 0 0), (4, .int .i64 (j : Nat))] ∧ ss = [(2, some ⟨g2, v2, 2, [[.int .i64 0, .nilsl]]⟩), (3, some ⟨g, v, 2, [[.int .i64 b.length, .sl ⟨11, gw, none⟩ 0 (wordsN b.length).toNat none]]⟩), (11, some ⟨gw, vw, 1, words (setW b j)⟩)] ∧ (j ≤ b.length)) ?_ ?_
  -- init 1
  · refine ⟨_, 0, ?_, ?_, ?_, ?_, ?_, ?_, [], rfl, ?henv, ?hstore, ?hst⟩
    case henv =>
      repeat' (first | rfl | refine env_cons ?_ ?_ | refine st_cons ?_ ?_ ?_ ?_ | refine int_eq ?_ | refine bool_eq ?_ | refine rsl_eq ?_ | refine osl_eq ?_ | refine sl_eq ?_ ?_ ?_ | refine ptr_eq ?_ ?_ ?_ | refine agg_eq ?_ | refine es_cons ?_ ?_ | refine row_cons ?_ ?_)
      all_goals (first | (simp; done) | omega | (simp; omega))
    case hstore =>
      repeat' (first | rfl | refine env_cons ?_ ?_ | refine st_cons ?_ ?_ ?_ ?_ | refine int_eq ?_ | refine bool_eq ?_ | refine rsl_eq ?_ | refine osl_eq ?_ | refine sl_eq ?_ ?_ ?_ | refine ptr_eq ?_ ?_ ?_ | refine agg_eq ?_ | refine es_cons ?_ ?_ | refine row_cons ?_ ?_)
      all_goals simp [setW, words]
    case hst =>
      first | trivial | omega | (simp; done) | (simp; omega)
  rintro mm ee ss kk ⟨j, g, v, gw, vw, g2, v2, c2, rfl, rfl, rfl, hI⟩
  generalize hQl1 : thenQ _ _ = Ql1
  refine AW.seq fun K2 hK2 => ?_
  refine AW.sg [0,2,3,4,16] [2,3,11] trivial ?_
  refine AW.cn ?_ ?_
  · intro hb
    have hgb := bools_getD (l := b) (i := j) (by omega)
    have hwl := setW_len b j
    have hd := div64_rng (i := (j : Int)) (n := b.length) (by omega) (by omega)
    have hgw := words_getD (l := setW b j) (i := ((j : Int).tdiv 64).toNat) (by omega)
    have hsu := setW_succ b j
    refine AW.skip ?_
    refine hK2 _ _ _ ?_; clear hK2
    refine AW.seq fun K3 hK3 => ?_
    refine AW.block ?_
    refine AW.sg [0,2,3,4,22] [2,3,11] (@hgb) ?_
    refine AW.cn ?_ ?_
    · intro hb
      rw [if_pos hb] at hsu
      refine AW.rd mixed 0 (fun _ => none) [0,2,3,4] [2,3,11] (e2 @hgw @hwl) ?_
      refine hK3 _ _ _ ?_; clear hK3
      refine AW.rg [0,2,3,4] [2,3,11] trivial ?_
      -- again 1
      rw [← hQl1]; change Exists _
      refine ⟨_, ?hm, j + 1, ?_, ?_, ?_, ?_, ?_, ?_, [], rfl, ?henv, ?hstore, ?hst⟩
      case henv =>
        repeat' (first | rfl | refine env_cons ?_ ?_ | refine st_cons ?_ ?_ ?_ ?_ | refine int_eq ?_ | refine bool_eq ?_ | refine rsl_eq ?_ | refine osl_eq ?_ | refine sl_eq ?_ ?_ ?_ | refine ptr_eq ?_ ?_ ?_ | refine agg_eq ?_ | refine es_cons ?_ ?_ | refine row_cons ?_ ?_)
        all_goals (first | (simp; done) | omega | (simp; omega))
      case hstore =>
        repeat' (first | rfl | refine env_cons ?_ ?_ | refine st_cons ?_ ?_ ?_ ?_ | refine int_eq ?_ | refine bool_eq ?_ | refine rsl_eq ?_ | refine osl_eq ?_ | refine sl_eq ?_ ?_ ?_ | refine ptr_eq ?_ ?_ ?_ | refine agg_eq ?_ | refine es_cons ?_ ?_ | refine row_cons ?_ ?_)
        all_goals (rw [hsu]; try simp [setBit])
      case hst =>
        first | trivial | omega | (simp; done) | (simp; omega)
      case hm => omega
    · intro hb
      rw [if_neg (by rw [hb]; simp)] at hsu
      refine AW.skip ?_
      refine hK3 _ _ _ ?_; clear hK3
      refine AW.rg [0,2,3,4] [2,3,11] trivial ?_
      -- again 1
      rw [← hQl1]; change Exists _
      refine ⟨_, ?hm, j + 1, ?_, ?_, ?_, ?_, ?_, ?_, [], rfl, ?henv, ?hstore, ?hst⟩
      case henv =>
        repeat' (first | rfl | refine env_cons ?_ ?_ | refine st_cons ?_ ?_ ?_ ?_ | refine int_eq ?_ | refine bool_eq ?_ | refine rsl_eq ?_ | refine osl_eq ?_ | refine sl_eq ?_ ?_ ?_ | refine ptr_eq ?_ ?_ ?_ | refine agg_eq ?_ | refine es_cons ?_ ?_ | refine row_cons ?_ ?_)
        all_goals (first | (simp; done) | omega | (simp; omega))
      case hstore =>
        repeat' (first | rfl | refine env_cons ?_ ?_ | refine st_cons ?_ ?_ ?_ ?_ | refine int_eq ?_ | refine bool_eq ?_ | refine rsl_eq ?_ | refine osl_eq ?_ | refine sl_eq ?_ ?_ ?_ | refine ptr_eq ?_ ?_ ?_ | refine agg_eq ?_ | refine es_cons ?_ ?_ | refine row_cons ?_ ?_)
        all_goals (rw [hsu]; try simp [setBit])
      case hst =>
        first | trivial | omega | (simp; done) | (simp; omega)
      case hm => omega
  · intro hb
    -- exit 0
    refine AW.kx [2,3] [2,3,11] ?_
    rw [← hQl1]
    refine hK1 _ _ _ ?_; clear hK1
    refine AW.sg [2] [2,11] trivial ?_
    -- ret 1
    rw [← hQr]
    refine AW.rt trivial ?_
    have hj : j = b.length := by omega
    subst hj
    rw [List.take_of_length_le (by rw [setW_len]; exact Nat.le_refl _)]
    exact Wk.refl _
theorem rmake_r (n : Nat) (t : List (List Bool)) (hs : Sq n t) (hn : n ≤ 512) : Reads Tryd.prog 30 false [.rsl 1 (rowsR t)] (relB t) := by
  have hlen := hs.len
  have hrl := rowsR_len t
  unfold relB
  refine Reads.body (rs := [.cell 2 24]) Tryd.func30 rfl Tryd.ntmps30 rfl (by simp) ?_
  generalize hQr : retQ _ _ _ = Qr
  -- block 2
  refine AW.sg [0,2] [2] (e2 @hrl @hlen) ?_
  refine AW.sg [0,2,3] [2,3] (e2 @hrl @hlen) ?_
  refine AW.seq fun K1 hK1 => ?_
  refine AW.sg [0,2,3,4] [2,3] (e2 @hrl @hlen) ?_
  refine AW.block ?_
  refine AW.nilCellK 3 0 0 200 2 ?_
  simp only [go_sem, reduceIte, zE]
  repeat refine cj ?_ ?_
  all_goals first | decide | skip
  refine AW.keep [0, 2, 3, 4] [2, 3, 200] ?_
  simp only [go_sem, reduceIte, zE]
  refine AW.loopE (fun mm ee ss kk => ∃ (i g2 v2 g4 v4 g v : Nat), n - i = mm ∧ ee = [(0, .rsl 1 (rowsR t)), (2, .ptr ⟨2, g2, none⟩ 0 0), (3, .ptr ⟨3, g4, none⟩ 0 0), (4, .int .i64 (i : Nat))] ∧ ss = [(2, some ⟨g2, v2, 1, [[.nilsl]]⟩), (3, some ⟨g4, v4, 1, [[.sl ⟨200, g, none⟩ 0 i none]]⟩), (200, some ⟨g, v, 2, tabR (t.take i)⟩)] ∧ (i ≤ n)) ?_ ?_
  -- init 1
  · exact ⟨_, 0, _, _, _, _, _, _, rfl, eD, eD, eT⟩
  rintro mm ee ss kk ⟨i, g2, v2, g4, v4, g, v, rfl, rfl, rfl, hI⟩
  generalize hQl1 : thenQ _ _ = Ql1
  refine AW.seq fun K2 hK2 => ?_
  refine AW.sg [0,2,3,4,8] [2,3,200] (e2 @hrl @hlen) ?_
  refine AW.cn ?_ ?_
  · intro hb
    have hgr := rowsR_get (t := t) (i := i) (by omega)
    have hrw := hs.rowLen (i := i) (by omega)
    have hti : t.take (i + 1) = t.take i ++ [rowT t i] := by obtain ⟨h1, h2⟩ := List.getElem?_eq_some_iff.1 (rowT_get (t := t) (i := i) (by omega)); rw [List.take_succ_eq_append_getElem h1, h2]
    have htl : (t.take i).length = i := by simp; omega
    have htk : (tabR (t.take i)).take i = tabR (t.take i) := List.take_of_length_le (by rw [tabR_len]; omega)
    generalize hb' : rowT t i = b at *
    have hset := rset_r b (by omega)
    rw [hrw] at hset
    have hap : tabR (t.take i) ++ [[.int .i64 n, .rsl 1 (words (setW b n))]] = tabR (t.take i ++ [b]) := by simp [tabR, rowB, hrw]
    refine AW.skip ?_
    refine hK2 _ _ _ ?_; clear hK2
    refine AW.seq fun K3 hK3 => ?_
    refine AW.block ?_
    refine AW.rd mixed 0 (fun ii => if ii = 6 then some (.upd [] (fun _ => []) (fun _ => .agg [.int .i64 n, .rsl 1 (words (setW b n))])) else none) [0,2,3,4] [2,3,200] (e3 @hrl @hlen (e5 @hgr @htk @tabR_len @htl @hap)) ?_
    repeat with_reducible refine cj ?_ ?_
    all_goals try first | (exact hset.upd rfl) | omega | exact chk (by kernel_rfl) | exact ent (by kernel_rfl) | (simp [scP, scalar]; done) | exact scP_words _ | exact scP_ints _ | exact scP_bools _
    refine hK3 _ _ _ ?_; clear hK3
    refine AW.rg [0,2,3,4] [2,3,200] (e2 @hrl @hlen) ?_
    -- again 1
    rw [← hQl1]; change Exists _
    refine ⟨_, ?hm, i + 1, ?_, ?_, ?_, ?_, ?_, ?_, rfl, ?henv, ?hstore, ?hst⟩
    case henv =>
      repeat' (first | rfl | refine env_cons ?_ ?_ | refine st_cons ?_ ?_ ?_ ?_ | refine int_eq ?_ | refine bool_eq ?_ | refine rsl_eq ?_ | refine osl_eq ?_ | refine sl_eq ?_ ?_ ?_ | refine ptr_eq ?_ ?_ ?_ | refine agg_eq ?_ | refine es_cons ?_ ?_ | refine row_cons ?_ ?_)
      all_goals (first | (simp; done) | omega | (simp; omega))
    case hstore =>
      repeat' (first | rfl | refine env_cons ?_ ?_ | refine st_cons ?_ ?_ ?_ ?_ | refine int_eq ?_ | refine bool_eq ?_ | refine rsl_eq ?_ | refine osl_eq ?_ | refine sl_eq ?_ ?_ ?_ | refine ptr_eq ?_ ?_ ?_ | refine agg_eq ?_ | refine es_cons ?_ ?_ | refine row_cons ?_ ?_)
      all_goals (rw [hti])
    case hst =>
      first | trivial | omega | (simp; done) | (simp; omega)
    case hm => omega
  · intro hb
    -- exit 0
    refine AW.exit ?_
    rw [← hQl1]
    refine hK1 _ _ _ ?_; clear hK1
    refine AW.sg [2] [2,200] (e2 @hrl @hlen) ?_
    -- ret 1
    rw [← hQr]
    refine AW.rt (e2 @hrl @hlen) ?_
    have hi : i = n := by omega
    subst hi
    rw [List.take_of_length_le (by omega : t.length ≤ i)]
    refine Wk.of_eq ?_
    rw [List.take_of_length_le (by rw [tabR_len]; omega), vwc_tabR]
def stdF (n i k : Nat) : Bool := decide (i < n) && decide (n ≤ k) && !decide (k = n + i)
def stdT (n : Nat) : List (List Bool) := tabF (2 * n) (stdF n)
theorem stdT_sq (n : Nat) : Sq (2 * n) (stdT n) := tabF_sq _ _
theorem same_g (n : Nat) (t : List (List Bool)) (hs : Sq n t) (hn : n ≤ 512) : Reads Tryd.prog 27 false [relB t, relB t] (.bool true) := by
  have hlt := tabR_len t
  have hlen := hs.len
  unfold relB
  refine Reads.body (rs := [.tmp 4]) Tryd.func27 rfl Tryd.ntmps27 rfl (by simp) ?_
  generalize hQr : retQ _ _ _ = Qr
  -- block 3
  refine AW.sg [2,3] [2,3] (e2 @hlt @hlen) ?_
  refine AW.seq fun K1 hK1 => ?_
  refine AW.sg [2,3,12] [2,3] (e2 @hlt @hlen) ?_
  refine AW.cn ?_ ?_
  · intro hb
    exfalso; simp at hb
  · intro hb
    refine AW.skip ?_
    refine hK1 _ _ _ ?_; clear hK1
    refine AW.seq fun K2 hK2 => ?_
    refine AW.sg [2,3,5] [2,3] (e2 @hlt @hlen) ?_
    refine AW.block ?_
    refine AW.loopE (fun mm ee ss kk => ∃ (i g2 v2 g3 v3 : Nat), n - i = mm ∧ ee = [(2, .ptr ⟨2, g2, none⟩ 0 0), (3, .ptr ⟨3, g3, none⟩ 0 0), (5, .int .i64 (i : Nat))] ∧ ss = [(2, some ⟨g2, v2, 1, [[.rsl 2 (tabR t)]]⟩), (3, some ⟨g3, v3, 1, [[.rsl 2 (tabR t)]]⟩)] ∧ (i ≤ n)) ?_ ?_
    -- init 1
    · exact ⟨_, 0, _, _, _, _, rfl, eD, eD, eT⟩
    rintro mm ee ss kk ⟨i, g2, v2, g3, v3, rfl, rfl, rfl, hI⟩
    generalize hQl1 : thenQ _ _ = Ql1
    refine AW.seq fun K3 hK3 => ?_
    refine AW.sg [2,3,5,17] [2,3] (e2 @hlt @hlen) ?_
    refine AW.cn ?_ ?_
    · intro hb
      have hgi := tabR_get (t := t) (i := i) (by omega)
      have hri := hs.rowLen (i := i) (by omega)
      have hss := rsame_r n (setW (rowT t i) n) (by have := setB_len (b := rowT t i) (by omega); rw [hri] at this; omega)
      refine AW.skip ?_
      refine hK3 _ _ _ ?_; clear hK3
      refine AW.seq fun K4 hK4 => ?_
      refine AW.block ?_
      refine AW.sd mixed 0 (fun ii => if ii = 10 then some (.reads false (.bool true)) else none) [2,3,5,31] [2,3] (e5 @hlt @hlen @hgi @rowB.eq_1 @hri) ?_
      repeat with_reducible refine cj ?_ ?_
      all_goals try first | (exact hss) | omega | exact chk (by kernel_rfl) | exact ent (by kernel_rfl)
      refine AW.cn ?_ ?_
      · intro hb
        exfalso; simp at hb
      · intro hb
        refine AW.skip ?_
        refine hK4 _ _ _ ?_; clear hK4
        refine AW.rg [2,3,5] [2,3] (e2 @hlt @hlen) ?_
        -- again 1
        rw [← hQl1]; change Exists _
        exact ⟨_, eO, i + 1, _, _, _, _, rfl, eD, eD, eT⟩
    · intro hb
      -- exit 0
      refine AW.kx [] [] ?_
      rw [← hQl1]
      refine hK2 _ _ _ ?_; clear hK2
      refine AW.sg [4] [] (e2 @hlt @hlen) ?_
      -- ret 3
      rw [← hQr]
      refine AW.rt (e2 @hlt @hlen) ?_
      exact Wk.refl _
/-- The reference's table of the standard example, while it is filled: rows up to i, in the row i up to the number k. -/
def stG (n i k a b : Nat) : Bool := if a < i ∨ (a = i ∧ b < n + k) then stdF n a b else false
def stP (n i k : Nat) : List (List Bool) := tabF (2 * n) (stG n i k)
theorem stP_sq (n i k : Nat) : Sq (2 * n) (stP n i k) := tabF_sq _ _
theorem stP_zero (n : Nat) : stP n 0 0 = List.replicate (2 * n) (List.replicate (2 * n) false) := by
  refine tab_ext (stP_sq n 0 0) (Sq.rep _) fun i j hi hj => ?_
  rw [atT_rep, stP, atT_tabF hi hj]
  unfold stG stdF
  by_cases h : i = 0
  · subst h
    by_cases h2 : j < n
    · rw [if_pos (by omega), decide_eq_false (by omega : ¬ n ≤ j)]; simp
    · rw [if_neg (by omega)]
  · rw [if_neg (by omega)]
theorem stP_next (n i : Nat) (hi : i < n) : stP n i n = stP n (i + 1) 0 := by
  refine tab_ext (stP_sq _ _ _) (stP_sq _ _ _) fun a b ha hb => ?_
  rw [stP, stP, atT_tabF ha hb, atT_tabF ha hb]
  unfold stG
  by_cases h : a < i + 1
  · rw [if_pos (by omega), if_pos (by omega)]
  · by_cases h2 : a = i + 1 ∧ b < n + 0
    · rw [if_neg (by omega), if_pos (by omega)]
      unfold stdF
      rw [decide_eq_false (by omega : ¬ n ≤ b)]; simp
    · rw [if_neg (by omega), if_neg (by omega)]
theorem stP_all (n : Nat) : stP n n 0 = stdT n := by
  refine tab_ext (stP_sq _ _ _) (stdT_sq n) fun a b ha hb => ?_
  rw [stP, stdT, atT_tabF ha hb, atT_tabF ha hb]
  unfold stG
  by_cases h : a < n
  · rw [if_pos (by omega)]
  · unfold stdF
    rw [decide_eq_false h]; simp
theorem stP_step (n i k : Nat) (hi : i < n) (hk : k < n) : (stP n i k).set i ((rowT (stP n i k) i).set (n + k) (!decide (i = k))) = stP n i (k + 1) := by
  have h1 := (stP_sq n i k).rowLen (i := i) (by omega)
  refine tab_ext ((stP_sq n i k).set i (by simpa using h1)) (stP_sq _ _ _) fun a b ha hb => ?_
  have hl := (stP_sq n i k).len
  unfold atT
  rw [rowT_set]
  by_cases e : i = a
  · subst e
    rw [if_pos ⟨rfl, by omega⟩]
    by_cases e2 : n + k = b
    · subst e2
      rw [Go.AM.getD_set_eq (by omega)]
      show _ = atT (stP n i (k + 1)) i (n + k)
      rw [stP, atT_tabF ha hb]
      unfold stG stdF
      rw [if_pos (by omega), decide_eq_true hi, decide_eq_true (by omega : n ≤ n + k)]
      simp only [Bool.true_and]
      congr 1
      exact decide_eq_decide.2 (by omega)
    · rw [Go.AM.getD_set_ne e2]
      show atT (stP n i k) i b = atT (stP n i (k + 1)) i b
      rw [stP, stP, atT_tabF ha hb, atT_tabF ha hb]
      unfold stG
      by_cases h : b < n + k
      · rw [if_pos (by omega), if_pos (by omega)]
      · rw [if_neg (by omega), if_neg (by omega)]
  · rw [if_neg (fun h => e h.1)]
    show atT (stP n i k) a b = atT (stP n i (k + 1)) a b
    rw [stP, stP, atT_tabF ha hb, atT_tabF ha hb]
    unfold stG
    by_cases h : a < i
    · rw [if_pos (by omega), if_pos (by omega)]
    · rw [if_neg (by omega), if_neg (by omega)]
end Go.Proofs.D

namespace Go.Proofs.D
open Go.AM Go
set_option maxRecDepth 100000
set_option maxHeartbeats 4000000
theorem bset (b : List Bool) (i : Nat) (x : Bool) : (bools b).set i [.bool x] = bools (b.set i x) := bools_set b i x
/-- Rows that are made so far; the others are empty. -/
def mkRows (N k : Nat) : List (List Bool) := List.replicate k (List.replicate N false) ++ List.replicate (N - k) []
theorem mkRows_len {N k : Nat} (hk : k ≤ N) : (mkRows N k).length = N := by simp [mkRows]; omega
theorem mkRows_set {N k : Nat} (hk : k < N) : (mkRows N k).set k (List.replicate N false) = mkRows N (k + 1) := by
  unfold mkRows
  obtain ⟨j, hj⟩ : ∃ j, N - k = j + 1 := ⟨N - k - 1, by omega⟩
  rw [hj, show N - (k + 1) = j by omega, List.replicate_succ, List.replicate_succ', List.set_append_right _ _ (by simp)]
  simp
theorem rstd_r (n : Nat) (hn : n ≤ 256) : Reads Tryd.prog 28 false [.int .i64 n] (relB (stdT n)) := by
  have hmk := rmake_r (2 * n) (stdT n) (stdT_sq n) (by omega)
  have hz : List.replicate (2 * n) [AV.bool false] = bools (List.replicate (2 * n) false) := by simp [bools]
  have h2n : ((2 : Int) * (n : Int)).toNat = 2 * n := by omega
  unfold relB at *
  refine Reads.body (rs := [.cell 2 24]) Tryd.func28 rfl Tryd.ntmps28 rfl (by simp) ?_
  generalize hQr : retQ _ _ _ = Qr
  -- block 1
  refine AW.sg [0,2] [2,9] (@h2n) ?_
  refine AW.sg [0,2,3] [2,9] (@h2n) ?_
  refine AW.nils_own (pid := 9) 1 (rowsO (mkRows (2 * n) 0)) (by simp only [go_sem, reduceIte, zE]; rfl) (show (1 : Nat) ≠ mapSz by decide) (by simp [rowsO, mkRows]) ?_ ?_
  · intro i hi
    simp only [List.length_replicate] at hi
    have h1 : (List.replicate (2 * n) [AV.nilsl]).getD i [] = [.nilsl] := by simp [List.getD_eq_getElem?_getD, hi]
    rw [h1, rowsO_get (by rw [mkRows_len (by omega)]; exact hi)]
    refine ⟨rfl, fun j => ?_⟩
    cases j with
    | zero => exact .inr ⟨rfl, by simp [rowT, mkRows, List.getD_eq_getElem?_getD, hi, bools]⟩
    | succ j => exact .inl rfl
  refine AW.keep [0, 2, 3] [2, 9] ?_
  simp only [go_sem, reduceIte, zE]
  refine AW.seq fun K1 hK1 => ?_
  refine AW.sg [0,2,3,4] [2,9] (@h2n) ?_
  refine AW.block ?_
  refine AW.loopE (fun mm ee ss kk => ∃ (k g2 v2 g v : Nat), 2 * n - k = mm ∧ ee = [(0, .int .i64 n), (2, .ptr ⟨2, g2, none⟩ 0 0), (3, .sl ⟨9, g, none⟩ 0 (2 * n) none), (4, .int .i64 (k : Nat))] ∧ ss = [(2, some ⟨g2, v2, 1, [[.nilsl]]⟩), (9, some ⟨g, v, 1, rowsO (mkRows (2 * n) k)⟩)] ∧ (k ≤ 2 * n)) ?_ ?_
  -- init 1
  · exact ⟨_, 0, _, _, _, _, rfl, eD, eD, eT⟩
  rintro mm ee ss kk ⟨k, g2, v2, g, v, rfl, rfl, rfl, hI⟩
  generalize hQl1 : thenQ _ _ = Ql1
  refine AW.seq fun K2 hK2 => ?_
  refine AW.sg [0,2,3,4,13] [2,9] (@h2n) ?_
  refine AW.cn ?_ ?_
  · intro hb
    have hml := mkRows_len (N := 2 * n) (k := k) (by omega)
    have hms := mkRows_set (N := 2 * n) (k := k) (by omega)
    have hrl := rowsO_len (mkRows (2 * n) k)
    rw [hml] at hrl
    have hrg := rowsO_get (t := mkRows (2 * n) k) (i := k) (by rw [hml]; omega)
    have hro := rowsO_set (mkRows (2 * n) k) k (List.replicate (2 * n) false)
    rw [hms] at hro
    have hcl : ∀ a : List AV, ((rowsO (mkRows (2 * n) k)).set k a).getD k [] = a := fun a => Go.AM.getD_set_eq (by omega) _ _
    have hsl : ∀ a : List AV, ((rowsO (mkRows (2 * n) k)).set k a).length = 2 * n := fun a => by rw [List.length_set]; exact hrl
    have hss : ∀ a b : List AV, ((rowsO (mkRows (2 * n) k)).set k a).set k b = (rowsO (mkRows (2 * n) k)).set k b := fun a b => List.set_set ..
    refine AW.skip ?_
    refine hK2 _ _ _ ?_; clear hK2
    refine AW.seq fun K3 hK3 => ?_
    refine AW.block ?_
    refine AW.rg [0,2,3,4] [2,9,20] (e3 @h2n @hrl @hrg) ?_
    refine hK3 _ _ _ ?_; clear hK3
    refine AW.adoptK 9 k 0 20 ?_
    simp only [go_sem, reduceIte, zE, hcl, hsl, hss, hz, hro]
    refine ⟨noOsl_bools _, ?_⟩
    refine AW.keep [0, 2, 3, 4] [2, 9] ?_
    simp only [go_sem, reduceIte, zE]
    refine AW.rg [0,2,3,4] [2,9] (@h2n) ?_
    -- again 1
    rw [← hQl1]; change Exists _
    exact ⟨_, eO, k + 1, _, _, _, _, rfl, eD, eD, eT⟩
  · intro hb
    have hk : k = 2 * n := by omega
    have hp0 : mkRows (2 * n) (2 * n) = stP n 0 0 := by rw [stP_zero]; simp [mkRows]
    rw [hk, hp0]
    -- exit 0
    refine AW.exit ?_
    rw [← hQl1]
    refine hK1 _ _ _ ?_; clear hK1
    refine AW.seq fun K4 hK4 => ?_
    refine AW.sg [0,2,3,5] [2,9] (@h2n) ?_
    refine AW.block ?_
    refine AW.loopE (fun mm ee ss kk => ∃ (i g2 v2 g v : Nat), n - i = mm ∧ ee = [(0, .int .i64 n), (2, .ptr ⟨2, g2, none⟩ 0 0), (3, .sl ⟨9, g, none⟩ 0 (2 * n) none), (5, .int .i64 (i : Nat))] ∧ ss = [(2, some ⟨g2, v2, 1, [[.nilsl]]⟩), (9, some ⟨g, v, 1, rowsO (stP n i 0)⟩)] ∧ (i ≤ n)) ?_ ?_
    -- init 2
    · exact ⟨_, 0, _, _, _, _, rfl, eD, eD, eT⟩
    rintro mm ee ss kk ⟨i, g2, v2, g, v, rfl, rfl, rfl, hI⟩
    generalize hQl2 : thenQ _ _ = Ql2
    refine AW.seq fun K5 hK5 => ?_
    refine AW.sg [0,2,3,5,24] [2,9] (@h2n) ?_
    refine AW.cn ?_ ?_
    · intro hb
      refine AW.skip ?_
      refine hK5 _ _ _ ?_; clear hK5
      refine AW.seq fun K6 hK6 => ?_
      refine AW.block ?_
      refine AW.sg [0,2,3,5,6] [2,9] (@h2n) ?_
      refine AW.block ?_
      refine AW.loopE (fun mm ee ss kk => ∃ (k g2 v2 g v : Nat), n - k = mm ∧ ee = [(0, .int .i64 n), (2, .ptr ⟨2, g2, none⟩ 0 0), (3, .sl ⟨9, g, none⟩ 0 (2 * n) none), (5, .int .i64 (i : Nat)), (6, .int .i64 (k : Nat))] ∧ ss = [(2, some ⟨g2, v2, 1, [[.nilsl]]⟩), (9, some ⟨g, v, 1, rowsO (stP n i k)⟩)] ∧ (k ≤ n)) ?_ ?_
      -- init 3
      · exact ⟨_, 0, _, _, _, _, rfl, eD, eD, eT⟩
      rintro mm ee ss kk ⟨k, g2, v2, g, v, rfl, rfl, rfl, hI⟩
      generalize hQl3 : thenQ _ _ = Ql3
      refine AW.seq fun K7 hK7 => ?_
      refine AW.sg [0,2,3,5,6,29] [2,9] (@h2n) ?_
      refine AW.cn ?_ ?_
      · intro hb
        have hin : i < n := by omega
        have hsq := stP_sq n i k
        have hrl := rowsO_len (stP n i k)
        rw [hsq.len] at hrl
        have hrg := rowsO_get (t := stP n i k) (i := i) (by rw [hsq.len]; omega)
        have hbl := bools_len (rowT (stP n i k) i)
        rw [hsq.rowLen (by omega)] at hbl
        have hst := stP_step n i k hin (by omega)
        have hro := rowsO_set (stP n i k) i ((rowT (stP n i k) i).set (n + k) (!decide (i = k)))
        rw [hst] at hro
        have hnk : ((n : Int) + (k : Int)).toNat = n + k := by omega
        have hij : decide ((i : Int) = (k : Int)) = decide (i = k) := decide_eq_decide.2 (by omega)
        refine AW.skip ?_
        refine hK7 _ _ _ ?_; clear hK7
        refine AW.seq fun K8 hK8 => ?_
        refine AW.block ?_
        refine AW.rg [0,2,3,5,6] [2,9] (e4 @h2n @hrl @hrg (e5 @hbl @hnk @hij @bset @hro)) ?_
        refine hK8 _ _ _ ?_; clear hK8
        refine AW.rg [0,2,3,5,6] [2,9] (@h2n) ?_
        -- again 3
        rw [← hQl3]; change Exists _
        exact ⟨_, eO, k + 1, _, _, _, _, rfl, eD, eD, eT⟩
      · intro hb
        have hk : k = n := by omega
        rw [hk]
        -- exit 4
        refine AW.exit ?_
        rw [← hQl3]
        refine hK6 _ _ _ ?_; clear hK6
        refine AW.rg [0,2,3,5] [2,9] (@h2n) ?_
        -- again 2
        rw [← hQl2]; change Exists _
        refine ⟨_, ?hm, i + 1, ?_, ?_, ?_, ?_, rfl, ?henv, ?hstore, ?hst⟩
        case henv =>
          repeat' (first | rfl | refine env_cons ?_ ?_ | refine st_cons ?_ ?_ ?_ ?_ | refine int_eq ?_ | refine bool_eq ?_ | refine rsl_eq ?_ | refine osl_eq ?_ | refine sl_eq ?_ ?_ ?_ | refine ptr_eq ?_ ?_ ?_ | refine agg_eq ?_ | refine es_cons ?_ ?_ | refine row_cons ?_ ?_)
          all_goals (first | (simp; done) | omega | (simp; omega))
        case hstore =>
          repeat' (first | rfl | refine env_cons ?_ ?_ | refine st_cons ?_ ?_ ?_ ?_ | refine int_eq ?_ | refine bool_eq ?_ | refine rsl_eq ?_ | refine osl_eq ?_ | refine sl_eq ?_ ?_ ?_ | refine ptr_eq ?_ ?_ ?_ | refine agg_eq ?_ | refine es_cons ?_ ?_ | refine row_cons ?_ ?_)
          all_goals (rw [stP_next n i (by omega)])
        case hst =>
          first | trivial | omega | (simp; done) | (simp; omega)
        case hm => omega
    · intro hb
      have hi : i = n := by omega
      rw [hi, stP_all]
      have htk : (rowsO (stdT n)).take (2 * n) = rowsO (stdT n) := List.take_of_length_le (by rw [rowsO_len, (stdT_sq n).len]; omega)
      refine AW.freezeK [9] [3] [2] [2] ?_
      simp only [go_sem, reduceIte, zE, htk, vwc_rowsO]
      -- exit 2
      refine AW.exit ?_
      rw [← hQl2]
      refine hK4 _ _ _ ?_; clear hK4
      refine AW.so 0 (fun ii => if ii = 1 then some (.reads false (.agg [.rsl 2 (tabR (stdT n))])) else none) [2] [2] (@h2n) ?_
      repeat with_reducible refine cj ?_ ?_
      all_goals try first | (exact hmk) | omega | exact ent (by kernel_rfl)
      -- ret 1
      rw [← hQr]
      refine AW.rt (@h2n) ?_
      exact Wk.of_eq rfl
end Go.Proofs.D

namespace Go.Proofs.D
open Go.AM Go
set_option maxRecDepth 100000
set_option maxHeartbeats 4000000
/-- The numbers of a row of the standard example, up to j. -/
def slN (n i j : Nat) : List Nat := ((List.range j).filter fun k => decide (i < n) && !decide (k = i)).map (n + ·)
theorem slN_succ (n i j : Nat) : slN n i (j + 1) = slN n i j ++ if (decide (i < n) && !decide (j = i)) = true then [n + j] else [] := by
  unfold slN
  rw [List.range_succ, List.filter_append, List.map_append]
  simp only [List.filter_cons, List.filter_nil]
  split <;> rfl
theorem slN_le (n i j : Nat) : (slN n i j).length ≤ j := by
  unfold slN; rw [List.length_map]
  have := List.length_filter_le (fun k => decide (i < n) && !decide (k = i)) (List.range j)
  simpa using this
theorem slN_row (n i : Nat) (hi : i < 2 * n) : setR (2 * n) (fun k => decide (k ∈ slN n i n)) = rowT (stdT n) i := by
  rw [stdT, rowT_tabF hi]
  refine setR_ext fun k hk => ?_
  rw [Bool.eq_iff_iff, decide_eq_true_eq]
  unfold slN stdF
  simp only [List.mem_map, List.mem_filter, List.mem_range, Bool.and_eq_true, decide_eq_true_eq, Bool.not_eq_true', decide_eq_false_iff_not]
  constructor
  · rintro ⟨a, ⟨h1, h2, h3⟩, rfl⟩
    exact ⟨⟨h2, by omega⟩, by omega⟩
  · rintro ⟨⟨h1, h2⟩, h3⟩
    exact ⟨k - n, ⟨by omega, h1, by omega⟩, by omega⟩
theorem std_r (n : Nat) (h1 : 1 ≤ n) (hn : n ≤ 256) : Reads Tryd.prog 26 false [.int .i64 n] (.tup [relB (stdT n), .int .i64 0]) := by
  have hof := fun (l : List Int) hl hr => of_r (2 * (n : Int)) l (by omega) (by omega) hl hr
  have hsq := stdT_sq n
  have hTl : (stdT n).length = 2 * n := hsq.len
  have h2n : ((2 : Int) * (n : Int)) = ((2 * n : Nat) : Int) := by omega
  unfold relB
  refine Reads.body (rs := [.cell 2 24, .tmp 3]) Tryd.func26 rfl Tryd.ntmps26 rfl (by simp) ?_
  generalize hQr : retQ _ _ _ = Qr
  -- block 2
  refine AW.sg [0,2] [2] trivial ?_
  refine AW.seq fun K1 hK1 => ?_
  refine AW.seq fun K2 hK2 => ?_
  refine AW.regionK 0 (fun _ => none) [0, 2, 15] [2] ?_
  simp only [go_sem, reduceIte, reduceCtorEq, zA, zM, zE, zL, zD, zS, zP, zB, zI, zR]
  repeat with_reducible refine cj ?_ ?_
  all_goals try first | omega | (intros; (repeat' apply And.intro) <;> first | assumption | omega | decide) | (intro hgd; exact absurd hgd (by decide)) | rfl | (simp only [go_sem, reduceIte, reduceCtorEq, zA, zM, zE, zL, zD, zS, zP, zB, zI, zR]; done) | (intro _hgd; simp_all [go_sem]; done)
  refine hK2 _ _ _ ?_; clear hK2
  refine AW.cn ?_ ?_
  · intro hb
    exfalso; omega
  · intro hb
    refine AW.skip ?_
    refine hK1 _ _ _ ?_; clear hK1
    refine AW.sg [0,2,4] [2,4] trivial ?_
    refine AW.seq fun K3 hK3 => ?_
    refine AW.sg [0,2,4,18,19] [2,4] trivial ?_
    refine AW.block ?_
    refine AW.nilCellK 4 0 0 201 2 ?_
    simp only [go_sem, reduceIte, zE]
    repeat refine cj ?_ ?_
    all_goals first | decide | skip
    refine AW.keep [0, 2, 4, 18, 19] [2, 4, 201] ?_
    simp only [go_sem, reduceIte, zE]
    refine AW.loopE (fun mm ee ss kk => ∃ (i g2 v2 g4 v4 g v : Nat), 2 * n - i = mm ∧ ee = [(0, .int .i64 n), (2, .ptr ⟨2, g2, none⟩ 0 0), (4, .ptr ⟨4, g4, none⟩ 0 0), (18, .int .i64 (2 * (n : Int))), (19, .int .i64 (i : Nat))] ∧ ss = [(2, some ⟨g2, v2, 1, [[.nilsl]]⟩), (4, some ⟨g4, v4, 1, [[.sl ⟨201, g, none⟩ 0 i none]]⟩), (201, some ⟨g, v, 2, tabR ((stdT n).take i)⟩)] ∧ (i ≤ 2 * n)) ?_ ?_
    -- init 1
    · exact ⟨_, 0, _, _, _, _, _, _, rfl, eD, eD, eT⟩
    rintro mm ee ss kk ⟨i, g2, v2, g4, v4, g, v, rfl, rfl, rfl, hI⟩
    generalize hQl1 : thenQ _ _ = Ql1
    refine AW.sg [0,2,4,18,19,20] [2,4,201] trivial ?_
    refine AW.seq fun K4 hK4 => ?_
    refine AW.cn ?_ ?_
    · intro hb
      have hin : i < 2 * n := by omega
      have hTi := slN_row n i hin
      have htT : (stdT n).take (i + 1) = (stdT n).take i ++ [rowT (stdT n) i] := take_succT (by omega)
      rw [← hTi] at htT
      generalize hTT : (stdT n).take i = T at *
      have hTlen : T.length = i := by rw [← hTT]; simp; omega
      refine AW.skip ?_
      refine hK4 _ _ _ ?_; clear hK4
      refine AW.seq fun K5 hK5 => ?_
      refine AW.block ?_
      refine AW.sg [0,2,4,5,18,19] [2,4,201] trivial ?_
      refine AW.sg [0,2,4,5,6,18,19] [2,4,201] trivial ?_
      refine AW.nilOwn 6 202 1 rfl ?_
      refine AW.keep [0, 2, 4, 5, 6, 18, 19] [2, 4, 201, 202] ?_
      simp only [go_sem, reduceIte, zE]
      refine AW.seq fun K6 hK6 => ?_
      refine AW.sg [0,2,4,5,6,18,19,22,23] [2,4,201,202] trivial ?_
      refine AW.block ?_
      refine AW.loopE (fun mm ee ss kk => ∃ (j g2 v2 g4 v4 g v gs vs : Nat), n - j = mm ∧ ee = [(0, .int .i64 n), (2, .ptr ⟨2, g2, none⟩ 0 0), (4, .ptr ⟨4, g4, none⟩ 0 0), (5, .int .i64 (i : Nat)), (6, .sl ⟨202, gs, none⟩ 0 (slN n i j).length none), (18, .int .i64 (2 * (n : Int))), (19, .int .i64 (i : Nat)), (22, .int .i64 n), (23, .int .i64 (j : Nat))] ∧ ss = [(2, some ⟨g2, v2, 1, [[.nilsl]]⟩), (4, some ⟨g4, v4, 1, [[.sl ⟨201, g, none⟩ 0 i none]]⟩), (201, some ⟨g, v, 2, tabR T⟩), (202, some ⟨gs, vs, 1, ints ((slN n i j).map fun k : Nat => (k : Int))⟩)] ∧ (j ≤ n)) ?_ ?_
      -- init 2
      · exact ⟨_, 0, _, _, _, _, _, _, _, _, rfl, eD, eD, eT⟩
      rintro mm ee ss kk ⟨j, g2, v2, g4, v4, g, v, gs, vs, rfl, rfl, rfl, hI⟩
      generalize hQl2 : thenQ _ _ = Ql2
      have hfl := slN_le n i j
      refine AW.sg [0,2,4,5,6,18,19,22,23,24] [2,4,201,202] trivial ?_
      refine AW.seq fun K7 hK7 => ?_
      refine AW.cn ?_ ?_
      · intro hb
        have hjn : j < n := by omega
        have hrs := slN_succ n i j
        have hij : decide ((j : Int) = (i : Int)) = decide (j = i) := decide_eq_decide.2 (by omega)
        have hin3 : decide ((i : Int) < (n : Int)) = decide (i < n) := decide_eq_decide.2 (by omega)
        have hft : (ints ((slN n i j).map fun k : Nat => (k : Int))).take (slN n i j).length = ints ((slN n i j).map fun k : Nat => (k : Int)) := List.take_of_length_le (by rw [ints_len, List.length_map]; omega)
        have hnj : (n : Int) + (j : Int) = ((n + j : Nat) : Int) := by omega
        generalize hB : (decide (i < n) && !decide (j = i)) = B at *
        refine AW.skip ?_
        refine hK7 _ _ _ ?_; clear hK7
        refine AW.seq fun K8 hK8 => ?_
        refine AW.block ?_
        refine AW.sg [0,2,4,5,6,7,18,19,22,23] [2,4,201,202] trivial ?_
        refine AW.seq fun K9 hK9 => ?_
        refine AW.regionK 0 (fun _ => none) [0, 2, 4, 5, 6, 7, 18, 19, 22, 23, 33] [2, 4, 201, 202] ?_
        simp only [go_sem, reduceIte, reduceCtorEq, zA, zM, zE, zL, zD, zS, zP, zB, zI, zR, hij, hin3, hB]
        repeat with_reducible refine cj ?_ ?_
        all_goals try first | omega | (intros; (repeat' apply And.intro) <;> first | assumption | omega | decide) | (intro hgd; exact absurd hgd (by decide)) | rfl | (simp only [go_sem, reduceIte, reduceCtorEq, zA, zM, zE, zL, zD, zS, zP, zB, zI, zR, hij, hin3, hB]; done) | (intro _hgd; simp_all [go_sem]; done)
        refine hK9 _ _ _ ?_; clear hK9
        have hJ4 : ∀ (gj vj : Nat) (kk : Nat), K8 [(0, .int .i64 n), (2, .ptr ⟨2, g2, none⟩ 0 0), (4, .ptr ⟨4, g4, none⟩ 0 0), (5, .int .i64 (i : Nat)), (6, .sl ⟨202, gj, none⟩ 0 (slN n i (j + 1)).length none), (18, .int .i64 (2 * (n : Int))), (19, .int .i64 (i : Nat)), (22, .int .i64 n), (23, .int .i64 (j : Nat))] [(2, some ⟨g2, v2, 1, [[.nilsl]]⟩), (4, some ⟨g4, v4, 1, [[.sl ⟨201, g, none⟩ 0 i none]]⟩), (201, some ⟨g, v, 2, tabR T⟩), (202, some ⟨gj, vj, 1, ints ((slN n i (j + 1)).map fun k : Nat => (k : Int))⟩)] kk := by
          intro gj vj kk
          refine hK8 _ _ _ ?_; clear hK8
          refine AW.rg [0,2,4,5,6,18,19,22,23] [2,4,201,202] trivial ?_
          -- again 2
          rw [← hQl2]; change Exists _
          exact ⟨_, eO, j + 1, _, _, _, _, _, _, _, _, rfl, eD, eD, eT⟩
        refine AW.cn ?_ ?_
        · intro hb
          rw [hb, if_pos rfl] at hrs
          simp only [hrs, List.length_append, List.length_cons, List.length_nil, Nat.zero_add, List.map_append, List.map_cons, List.map_nil] at hJ4
          refine AW.regionK 0 (fun _ => none) [0, 2, 4, 5, 6, 18, 19, 22, 23] [2, 4, 201, 202] ?_
          simp only [go_sem, reduceIte, reduceCtorEq, zA, zM, zE, zL, zD, zS, zP, zB, zI, zR, hft, hnj, ints_app]
          repeat with_reducible refine cj ?_ ?_
          all_goals try first | omega | (simp [scP, scalar]; done) | exact scP_words _ | exact scP_ints _ | exact scP_bools _
          exact hJ4 _ _ _
        · intro hb
          rw [hb, if_neg (by simp), List.append_nil] at hrs
          simp only [hrs] at hJ4
          refine AW.kp [0,2,4,5,6,18,19,22,23] [2,4,201,202] ?_
          refine AW.skip ?_
          exact hJ4 _ _ _
      · intro hb
        have hjn : j = n := by omega
        rw [hjn] at hfl ⊢
        have hft : (ints ((slN n i n).map fun k : Nat => (k : Int))).take (slN n i n).length = ints ((slN n i n).map fun k : Nat => (k : Int)) := List.take_of_length_le (by rw [ints_len, List.length_map]; omega)
        have hft2 : ((slN n i n).map fun k : Nat => (k : Int)).take (slN n i n).length = (slN n i n).map fun k : Nat => (k : Int) := List.take_of_length_le (by rw [List.length_map]; omega)
        have hin2 : ∀ y ∈ (slN n i n).map (fun k : Nat => (k : Int)), 0 ≤ y ∧ y < ((2 * n : Nat) : Int) := fun y hy => by
          obtain ⟨k, hk, rfl⟩ := List.mem_map.1 hy
          unfold slN at hk
          simp only [List.mem_map, List.mem_filter, List.mem_range] at hk
          omega
        have hofi := hof ((slN n i n).map fun k : Nat => (k : Int)) (by rw [List.length_map]; omega) (by rw [h2n]; exact hin2)
        rw [h2n, ofW_row hin2, rowL_nats] at hofi
        rw [← h2n] at hofi
        have hrl := setR_len (2 * n) (fun k => decide (k ∈ slN n i n))
        generalize hRR : setR (2 * n) (fun k => decide (k ∈ slN n i n)) = R at *
        have htr : (tabR T).take i = tabR T := List.take_of_length_le (by rw [tabR_len]; omega)
        have har : tabR T ++ [[.int .i64 (2 * (n : Int)), .rsl 1 (words (setW R (2 * n)))]] = tabR (T ++ [R]) := by rw [h2n]; simp [tabR, rowB, hrl]
        have htl2 := tabR_len T
        -- exit 2
        refine AW.kx [0,2,4,6,18,19] [2,4,201,202] ?_
        rw [← hQl2]
        refine hK6 _ _ _ ?_; clear hK6
        refine AW.so 0 (fun ii => if ii = 3 then some (.reads true (.tup [.agg [.int .i64 (2 * (n : Int)), .rsl 1 (words (setW R (2 * n)))], .int .i64 0])) else none) [0,2,4,8,9,18,19] [2,4,8,201] (e2 @hft @hft2) ?_
        repeat with_reducible refine cj ?_ ?_
        all_goals try first | (exact hofi) | omega | exact ent (by kernel_rfl)
        refine AW.seq fun K10 hK10 => ?_
        refine AW.sg [0,2,4,8,9,18,19,49] [2,4,8,201] trivial ?_
        refine AW.cn ?_ ?_
        · intro hb
          exfalso; simp at hb
        · intro hb
          refine AW.skip ?_
          refine hK10 _ _ _ ?_; clear hK10
          refine AW.regionK 0 (fun _ => none) [0, 2, 4, 18, 19] [2, 4, 201] ?_
          simp only [go_sem, reduceIte, reduceCtorEq, zA, zM, zE, zL, zD, zS, zP, zB, zI, zR, htr, har]
          repeat with_reducible refine cj ?_ ?_
          all_goals try first | omega | (simp [scP, scalar]; done) | exact scP_words _ | exact scP_ints _ | exact scP_bools _
          refine hK5 _ _ _ ?_; clear hK5
          refine AW.rg [0,2,4,18,19] [2,4,201] trivial ?_
          -- again 1
          rw [← hQl1]; change Exists _
          refine ⟨_, ?hm, i + 1, ?_, ?_, ?_, ?_, ?_, ?_, rfl, ?henv, ?hstore, ?hst⟩
          case henv =>
            repeat' (first | rfl | refine env_cons ?_ ?_ | refine st_cons ?_ ?_ ?_ ?_ | refine int_eq ?_ | refine bool_eq ?_ | refine rsl_eq ?_ | refine osl_eq ?_ | refine sl_eq ?_ ?_ ?_ | refine ptr_eq ?_ ?_ ?_ | refine agg_eq ?_ | refine es_cons ?_ ?_ | refine row_cons ?_ ?_)
            all_goals (first | (simp; done) | omega | (simp; omega))
          case hstore =>
            repeat' (first | rfl | refine env_cons ?_ ?_ | refine st_cons ?_ ?_ ?_ ?_ | refine int_eq ?_ | refine bool_eq ?_ | refine rsl_eq ?_ | refine osl_eq ?_ | refine sl_eq ?_ ?_ ?_ | refine ptr_eq ?_ ?_ ?_ | refine agg_eq ?_ | refine es_cons ?_ ?_ | refine row_cons ?_ ?_)
            all_goals (rw [htT])
          case hst =>
            first | trivial | omega | (simp; done) | (simp; omega)
          case hm => omega
    · intro hb
      have hin : i = 2 * n := by omega
      rw [hin, List.take_of_length_le (by omega)]
      have htT : (tabR (stdT n)).take (2 * n) = tabR (stdT n) := List.take_of_length_le (by rw [tabR_len]; omega)
      -- exit 0
      refine AW.kx [2,4] [2,4,201] ?_
      rw [← hQl1]
      refine hK3 _ _ _ ?_; clear hK3
      refine AW.sg [2,3] [2,201] trivial ?_
      -- ret 3
      rw [← hQr]
      refine AW.rt trivial ?_
      exact Wk.of_eq (by rw [htT, vwc_tabR])
end Go.Proofs.D

namespace Go.Proofs.D
open Go.AM Go
set_option maxRecDepth 100000
set_option maxHeartbeats 4000000
theorem eqpairs_r (a b : List (Int × Int)) (hla : a.length ≤ 9223372036854775807) : Reads Tryd.prog 16 false [.rsl 2 (a.map pairV), .rsl 2 (b.map pairV)] (.bool (decide (a = b))) := by
  refine Reads.body (rs := [.tmp 4]) Tryd.func16 rfl Tryd.ntmps16 rfl (by simp) ?_
  generalize hQr : retQ _ _ _ = Qr
  -- block 1
  refine AW.sg [0,1] [] trivial ?_
  refine AW.seq fun K1 hK1 => ?_
  refine AW.sg [0,1,10] [] trivial ?_
  refine AW.cn ?_ ?_
  · intro hb
    rw [← Ne, Ne, Int.natCast_inj] at hb
    refine AW.sg [4] [] trivial ?_
    -- ret 1
    rw [← hQr]
    refine AW.rt trivial ?_
    exact Wk.of_eq (by rw [decide_eq_false]; rintro rfl; exact hb rfl)
  · intro hb
    have hlen : a.length = b.length := by omega
    refine AW.skip ?_
    refine hK1 _ _ _ ?_; clear hK1
    refine AW.seq fun K2 hK2 => ?_
    refine AW.sg [0,1,12,13] [] trivial ?_
    refine AW.block ?_
    refine AW.loopE (fun mm ee ss kk => ∃ (j : Nat), a.length - j = mm ∧ ee = [(0, .rsl 2 (a.map pairV)), (1, .rsl 2 (b.map pairV)), (12, .int .i64 a.length), (13, .int .i64 (j : Nat))] ∧ ss = [] ∧ (j ≤ a.length ∧ a.take j = b.take j)) ?_ ?_
    -- init 1
    · exact ⟨_, 0, rfl, eD, eD, eT⟩
    rintro mm ee ss kk ⟨j, rfl, rfl, rfl, hI⟩
    generalize hQl1 : thenQ _ _ = Ql1
    obtain ⟨hj, hall⟩ := hI
    refine AW.sg [0,1,12,13,14] [] trivial ?_
    refine AW.seq fun K3 hK3 => ?_
    refine AW.cn ?_ ?_
    · intro hb
      obtain ⟨x, hx⟩ := getI (l := a) (j := j) (by omega)
      obtain ⟨y, hy⟩ := getI (l := b) (j := j) (by omega)
      have hgx := getV (f := pairV) hx
      have hgy := getV (f := pairV) hy
      refine AW.skip ?_
      refine hK3 _ _ _ ?_; clear hK3
      refine AW.seq fun K4 hK4 => ?_
      refine AW.block ?_
      refine AW.sg [0,1,5,12,13] [] trivial ?_
      refine AW.sd mixed 0 (fun _ => none) [0,1,12,13,24] [] (e3 @hgx @hgy @pairV.eq_1) ?_
      refine AW.cn ?_ ?_
      · intro hb
        refine AW.sg [4] [] trivial ?_
        -- ret 2
        rw [← hQl1, ← hQr]
        refine AW.rt trivial ?_
        have hne : x ≠ y := by rintro rfl; simp at hb
        exact Wk.of_eq (by rw [decide_eq_false (eqB_ne hx hy hne)])
      · intro hb
        have hxy : x = y := by obtain ⟨x1, x2⟩ := x; obtain ⟨y1, y2⟩ := y; simp at hb ⊢; omega
        subst hxy
        refine AW.skip ?_
        refine hK4 _ _ _ ?_; clear hK4
        refine AW.rg [0,1,12,13] [] trivial ?_
        -- again 1
        rw [← hQl1]; change Exists _
        exact ⟨_, eO, j + 1, rfl, eD, eD, (⟨by omega, take_succ_eqA hx hy hall⟩)⟩
    · intro hb
      -- exit 0
      refine AW.kx [] [] ?_
      rw [← hQl1]
      refine hK2 _ _ _ ?_; clear hK2
      refine AW.sg [4] [] trivial ?_
      -- ret 3
      rw [← hQr]
      refine AW.rt trivial ?_
      exact Wk.of_eq (by rw [List.take_of_length_le (by omega), List.take_of_length_le (by omega)] at hall; rw [decide_eq_true hall])
end Go.Proofs.D

namespace Go.Proofs.D
open Go.AM Go
set_option maxRecDepth 100000
set_option maxHeartbeats 4000000
def t2 : List (List Bool) := [[false, false], [false, false]]
theorem t2_std : stdT 1 = t2 := by decide +kernel
theorem t2_sq : Sq 2 t2 := ⟨rfl, by decide⟩
theorem t2_po : poB 2 t2 = true := by decide +kernel
theorem t2_crit : critT 2 t2 = [(0, 1), (1, 0)] := by decide +kernel
theorem t2_dim : (dealtT 2 t2).length = 2 := by decide +kernel
theorem t2_rlz : rlzB 2 t2 [[0, 1], [1, 0]] = true := by decide +kernel
theorem t2_not : rlzB 2 t2 [[0, 1]] = false := by decide +kernel
theorem t2_tab : tabR t2 = [[.int .i64 2, .rsl 1 [[.int .u64 0]]], [.int .i64 2, .rsl 1 [[.int .u64 0]]]] := by
  have h0 : setW [false, false] 2 = [0] := by decide +kernel
  simp [tabR, t2, rowB, h0, words]
theorem awake_r : Reads Tryd.prog 10 false [] (.bool true) := by
  have hs1 := std_r 1 (by decide) (by decide)
  have hs2 := rstd_r 1 (by decide)
  have hsm := same_g 2 t2 t2_sq (by decide)
  have hc := crit_g 2 t2 t2_sq (by decide) t2_po
  have hd := dim_g 2 t2 t2_sq (by decide) t2_po
  have he := Reads.flat (eqpairs_r [(0, 1), (1, 0)] [(0, 1), (1, 0)] (by decide)) rfl
  have hr1 := Reads.flat (realizes_g 2 t2 t2_sq (by decide) t2_po [[0, 1], [1, 0]] (by decide) (by decide)) rfl
  have hr2 := Reads.flat (realizes_g 2 t2 t2_sq (by decide) t2_po [[0, 1]] (by decide) (by decide)) rfl
  rw [t2_std] at hs1 hs2
  rw [t2_crit] at hc
  rw [t2_dim] at hd
  rw [t2_rlz] at hr1
  rw [t2_not] at hr2
  unfold relB at *
  rw [t2_tab] at *
  simp only [ints, lisR, prs, natP, pairV, List.map_cons, List.map_nil, decide_true] at *
  refine Reads.body (rs := [.tmp 0]) Tryd.func10 rfl Tryd.ntmps10 rfl (by simp) ?_
  generalize hQr : retQ _ _ _ = Qr
  -- block 1
  refine AW.sg [] [] trivial ?_
  refine AW.so 0 (fun ii => if ii = 0 then some (.reads false (.tup [.agg [.rsl 2 [[.int .i64 2, .rsl 1 [[.int .u64 0]]], [.int .i64 2, .rsl 1 [[.int .u64 0]]]]], .int .i64 0])) else none) [1,2] [1] trivial ?_
  repeat with_reducible refine cj ?_ ?_
  all_goals try first | (exact hs1) | omega | exact ent (by kernel_rfl)
  refine AW.seq fun K1 hK1 => ?_
  refine AW.sd mixed 0 (fun ii => if ii = 4 then some (.reads false (.agg [.rsl 2 [[.int .i64 2, .rsl 1 [[.int .u64 0]]], [.int .i64 2, .rsl 1 [[.int .u64 0]]]]])) else if ii = 5 then some (.reads false (.bool true)) else none) [1,18] [1] trivial ?_
  repeat with_reducible refine cj ?_ ?_
  all_goals try first | (first | exact hs2 | exact hsm | (intro hh; exact ⟨hh, hs2⟩) | (intro hh; exact ⟨hh, hsm⟩) | exact fun _ => hs2 | exact fun _ => hsm) | (intros; (repeat' apply And.intro) <;> first | assumption | (first | exact hs2 | exact hsm | (intro hh; exact ⟨hh, hs2⟩) | (intro hh; exact ⟨hh, hsm⟩) | exact fun _ => hs2 | exact fun _ => hsm)) | omega | exact chk (by kernel_rfl) | exact ent (by kernel_rfl) | (intro hgd; exact absurd hgd (by decide)) | rfl | exact gD | (intro _hgd; simp_all [go_sem]; done)
  refine AW.cn ?_ ?_
  · intro hb
    simp at hb
  · intro hb
    refine AW.skip ?_
    refine hK1 _ _ _ ?_; clear hK1
    refine AW.so 0 (fun ii => if ii = 1 then some (.reads false (.tup [.rsl 2 [[.int .i64 ((0 : Nat) : Int), .int .i64 ((1 : Nat) : Int)], [.int .i64 ((1 : Nat) : Int), .int .i64 ((0 : Nat) : Int)]], .int .i64 ((0 : Nat) : Int)])) else none) [1,3,4] [1] trivial ?_
    repeat with_reducible refine cj ?_ ?_
    all_goals try first | (exact hc) | omega | exact ent (by kernel_rfl)
    refine AW.so 0 (fun ii => if ii = 1 then some (.reads false (.tup [.int .i64 ((2 : Nat) : Int), .int .i64 ((0 : Nat) : Int)])) else none) [1,3,4,5,6] [1] trivial ?_
    repeat with_reducible refine cj ?_ ?_
    all_goals try first | (exact hd) | omega | exact ent (by kernel_rfl)
    refine AW.so 0 (fun ii => if ii = 7 then some (.reads true (.bool true)) else if ii = 22 then some (.reads true (.bool true)) else if ii = 28 then some (.reads true (.bool false)) else none) [0] [] trivial ?_
    repeat with_reducible refine cj ?_ ?_
    all_goals try first | (first | exact he | exact hr1 | exact hr2 | exact fun _ => he | exact fun _ => hr1 | exact fun _ => hr2) | (intros; (repeat' apply And.intro) <;> first | assumption | (first | exact he | exact hr1 | exact hr2 | exact fun _ => he | exact fun _ => hr1 | exact fun _ => hr2)) | omega | exact ent (by kernel_rfl) | (intro hgd; exact absurd hgd (by decide)) | rfl | exact gD | (intro _hgd; simp_all [go_sem]; done)
    -- ret 2
    rw [← hQr]
    refine AW.rt trivial ?_
    exact Wk.of_eq (by simp)
end Go.Proofs.D

namespace Go.Proofs.D
open Go.AM Go
set_option maxRecDepth 100000
set_option maxHeartbeats 4000000
/-- What is no order is refused by both. -/
theorem bad_valid (rs : List USet) (hl : longR rs) (hsm : greatB rs = false) (hok : ∀ x ∈ rs, okW x.W) (hb : BadP rs) : Reads Tryd.prog 40 false [relV rs] (.bool false) ∧ Reads Tryd.prog 15 false [relV rs] (.bool false) := by
  obtain ⟨h20, hw⟩ := great_f hsm
  rcases hb with hv | ⟨t, ht, hs, hn, hp⟩
  · exact ⟨pvalid_e rs hl hv, poset_e rs hl.1 (fun x hx => by have := hw x hx; omega) hok hv⟩
  · have h1 := pvalid_g _ t hs hn
    have h2 := poset_g _ t hs hn
    rw [hp, relB_SB, ← ht] at h1 h2
    exact ⟨h1, h2⟩
end Go.Proofs.D

/- The reference's reversal: step by step the least element that is free. -/
namespace Go.AM
theorem OrdI.acyc {n : Nat} {u : List (List Bool)} (hs : Sq n u) {r : List Nat} (h : OrdI n u r) (hl : r.length = n) : AM.acyc n u = true := by
  have hE := natL_each hl h.nd h.rng
  refine acyc_iff.2 fun i hi => Bool.eq_false_iff.2 fun hw => ?_
  have := warsh_least hs (S := fun i j => bfA n i j (natL r) = true) (fun i j hi hj hij => ?_) (fun i k j _ _ _ h1 h2 => bfA_trans h1 h2) hi hi hw
  · rw [bfA_irr] at this; cases this
  · obtain ⟨k, hk, he⟩ := hE.has hj
    have hkl : k < r.length := by omega
    rw [natL_get hkl] at he
    have hjk : r[k]? = some j := by rw [List.getElem?_eq_getElem hkl]; congr 1; omega
    obtain ⟨p, hp1, hp2⟩ := h.top k j i hjk hi hij
    unfold bfA
    rw [natL_ref hl h.nd h.rng hjk, natL_ref hl h.nd h.rng hp2]
    exact decide_eq_true (by omega)
end Go.AM

namespace Go.Proofs.D
open Go.AM Go
set_option maxRecDepth 100000
set_option maxHeartbeats 4000000
end Go.Proofs.D

namespace Go.Proofs.D
open Go.AM Go
set_option maxRecDepth 100000
set_option maxHeartbeats 4000000
end Go.Proofs.D

namespace Go.Proofs.D
open Go.AM Go
set_option maxRecDepth 100000
set_option maxHeartbeats 4000000
end Go.Proofs.D

/- The reference's deal, with the classes that it leaves. -/
namespace Go.AM
/-- What is dealt are pairs in range, few in each class. -/
structure RqOk (n i : Nat) (cs : List (List (Nat × Nat))) : Prop where
  rng : ∀ k, ∀ x ∈ cs.getD k [], x.1 < n ∧ x.2 < n
  le : ∀ k, (cs.getD k []).length ≤ i
theorem RqOk.step {n i : Nat} {cs : List (List (Nat × Nat))} (h : RqOk n i cs) {x : Nat × Nat} (hx : x.1 < n ∧ x.2 < n) {c : Nat} (hc : c < cs.length) : RqOk n (i + 1) (cs.set c (cs.getD c [] ++ [x])) := by
  refine ⟨fun k y hy => ?_, fun k => ?_⟩
  · by_cases e : c = k
    · subst e
      rw [getD_set_eq hc] at hy
      rcases List.mem_append.1 hy with hy | hy
      · exact h.rng c y hy
      · rw [List.mem_singleton.1 hy]; exact hx
    · rw [getD_set_ne e] at hy; exact h.rng k y hy
  · by_cases e : c = k
    · subst e
      rw [getD_set_eq hc]
      have := h.le c
      simp only [List.length_append, List.length_singleton]; omega
    · rw [getD_set_ne e]; have := h.le k; omega
theorem RqOk.rep (n t : Nat) : RqOk n 0 (List.replicate t []) := by
  have h : ∀ k, (List.replicate t ([] : List (Nat × Nat))).getD k [] = [] := fun k => by
    rw [List.getD_eq_getElem?_getD, List.getElem?_replicate]; split <;> rfl
  exact ⟨fun k x hx => by rw [h k] at hx; simp at hx, fun k => by rw [h k]; simp⟩
end Go.AM

/- A root whose cells hold nil slices: the cells may be read as empty slices. -/
namespace Go.AM
end Go.AM

namespace Go.Proofs.D
open Go.AM Go
set_option maxRecDepth 100000
set_option maxHeartbeats 4000000
end Go.Proofs.D

namespace Go.Proofs.D
open Go.AM Go
set_option maxRecDepth 100000
set_option maxHeartbeats 4000000
end Go.Proofs.D

namespace Go.Proofs.D
open Go.AM Go
set_option maxRecDepth 100000
set_option maxHeartbeats 4000000
end Go.Proofs.D

namespace Go.Proofs.D
open Go.AM Go
set_option maxRecDepth 100000
set_option maxHeartbeats 4000000
end Go.Proofs.D

/- The critical pairs that a list turns round can be turned round together, by a list that does not come after it. -/
namespace Go.AM
theorem acyc_of_bf {n : Nat} {u : List (List Bool)} (hs : Sq n u) {l : List Int} (h : ∀ i j, i < n → j < n → atT u i j = true → bfA n i j l = true) : acyc n u = true := by
  refine acyc_iff.2 fun i hi => Bool.eq_false_iff.2 fun hw => ?_
  have := warsh_least hs (S := fun i j => bfA n i j l = true) (fun i j hi hj hij => h i j hi hj hij) (fun i k j _ _ _ h1 h2 => bfA_trans h1 h2) hi hi hw
  rw [bfA_irr] at this; cases this
end Go.AM

namespace Go.Proofs.D
open Go.AM Go
set_option maxRecDepth 100000
set_option maxHeartbeats 4000000
end Go.Proofs.D

/- The dimension as the least number of ranks that tell an order. -/
namespace Go.AM
structure PoD (lt : Nat → Nat → Bool) (D : Nat → Prop) : Prop where
  irr : ∀ i, D i → lt i i = false
  trans : ∀ i j k, D i → D j → D k → lt i j = true → lt j k = true → lt i k = true
structure RkOk (lt : Nat → Nat → Bool) (D : Nat → Prop) (r : Nat → Nat) : Prop where
  up : ∀ i j, D i → D j → lt i j = true → r i < r j
  inj : ∀ i j, D i → D j → i ≠ j → r i ≠ r j
structure IsDim (lt : Nat → Nat → Bool) (D : Nat → Prop) (rs : List (Nat → Nat)) : Prop where
  ne : rs ≠ []
  ok : ∀ r ∈ rs, RkOk lt D r
  rev : ∀ i j, D i → D j → i ≠ j → lt i j = false → ∃ r ∈ rs, r j < r i
def DimLe (lt : Nat → Nat → Bool) (D : Nat → Prop) (m : Nat) : Prop := ∃ rs, IsDim lt D rs ∧ rs.length = m
theorem IsDim.sub {lt : Nat → Nat → Bool} {D D' : Nat → Prop} {rs : List (Nat → Nat)} (h : IsDim lt D rs) (hd : ∀ i, D' i → D i) : IsDim lt D' rs :=
  ⟨h.ne, fun r hr => ⟨fun i j hi hj => (h.ok r hr).up i j (hd i hi) (hd j hj), fun i j hi hj => (h.ok r hr).inj i j (hd i hi) (hd j hj)⟩, fun i j hi hj => h.rev i j (hd i hi) (hd j hj)⟩
theorem DimLe.sub {lt : Nat → Nat → Bool} {D D' : Nat → Prop} {m : Nat} (h : DimLe lt D m) (hd : ∀ i, D' i → D i) : DimLe lt D' m := by
  obtain ⟨rs, h1, h2⟩ := h
  exact ⟨rs, h1.sub hd, h2⟩
theorem DimLe.succ {lt : Nat → Nat → Bool} {D : Nat → Prop} {m : Nat} (h : DimLe lt D m) : DimLe lt D (m + 1) := by
  obtain ⟨rs, h1, h2⟩ := h
  obtain ⟨r, hr⟩ := List.exists_mem_of_ne_nil _ h1.ne
  refine ⟨r :: rs, ⟨by simp, fun s hs => ?_, fun i j hi hj hij hl => ?_⟩, by simp [h2]⟩
  · rcases List.mem_cons.1 hs with rfl | hs
    · exact h1.ok _ hr
    · exact h1.ok s hs
  · obtain ⟨s, hs, hb⟩ := h1.rev i j hi hj hij hl
    exact ⟨s, List.mem_cons_of_mem _ hs, hb⟩
theorem DimLe.mono {lt : Nat → Nat → Bool} {D : Nat → Prop} {m : Nat} (h : DimLe lt D m) : ∀ {k : Nat}, m ≤ k → DimLe lt D k := by
  intro k hk
  induction k with
  | zero => obtain rfl : m = 0 := by omega
            exact h
  | succ k ih =>
    by_cases e : m = k + 1
    · exact e ▸ h
    · exact (ih (by omega)).succ
/-! ### From ranks to lists, and back. -/
def rkT (n : Nat) (r : Nat → Nat) : List (List Bool) := tabF n fun i j => decide (r i < r j)
theorem rkT_acyc (n : Nat) (r : Nat → Nat) : acyc n (rkT n r) = true := by
  refine acyc_iff.2 fun i hi => Bool.eq_false_iff.2 fun hw => ?_
  have := warsh_least (tabF_sq n _) (S := fun i j => r i < r j) (fun i j hi hj h => by rw [atT_tabF hi hj] at h; exact of_decide_eq_true h) (fun i k j _ _ _ h1 h2 => Nat.lt_trans h1 h2) hi hi hw
  exact Nat.lt_irrefl _ this
def rkL (n : Nat) (r : Nat → Nat) : List Int := natL (ordO n (rkT n r) n [])
theorem rkL_ok (n : Nat) (r : Nat → Nat) : IsEach n (rkL n r) ∧ ∀ i j, i < n → j < n → r i < r j → bfA n i j (rkL n r) = true := by
  obtain ⟨h1, h2⟩ := ordO_each (tabF_sq n _) (rkT_acyc n r)
  exact ⟨h1, fun i j hi hj h => h2 i j hi hj (by rw [atT_tabF hi hj]; exact decide_eq_true h)⟩
theorem IsDim.lists {n : Nat} {t : List (List Bool)} (hp : IsPo n t) {rs : List (Nat → Nat)} (h : IsDim (atT t) (· < n) rs) : IsRlz n t (rs.map (rkL n)) := by
  refine ⟨by simpa using h.ne, fun l hl => ?_, fun i j hi hj hij ha => ?_⟩
  · obtain ⟨r, hr, rfl⟩ := List.mem_map.1 hl
    obtain ⟨hE, hb⟩ := rkL_ok n r
    exact (extB_bf hp).2 ⟨hE, fun i j hi hj ha => hb i j hi hj ((h.ok r hr).up i j hi hj ha)⟩
  · obtain ⟨r, hr, hb⟩ := h.rev i j hi hj hij ha
    exact ⟨rkL n r, List.mem_map_of_mem hr, (rkL_ok n r).2 j i hj hi hb⟩
def lsR (n : Nat) (l : List Int) (i : Nat) : Nat := (refA l (i : Nat) n).toNat
theorem lsR_lt {n : Nat} {l : List Int} (hE : IsEach n l) {i j : Nat} (hi : i < n) (hj : j < n) : (lsR n l i < lsR n l j) ↔ bfA n i j l = true := by
  obtain ⟨k, hk, he⟩ := hE.has hi
  obtain ⟨m, hm, hf⟩ := hE.has hj
  unfold lsR bfA
  rw [refA_at hE he n (Nat.le_refl _) hk, refA_at hE hf n (Nat.le_refl _) hm, decide_eq_true_eq]
  omega
theorem IsRlz.ranks {n : Nat} {t : List (List Bool)} (hp : IsPo n t) {ls : List (List Int)} (h : IsRlz n t ls) : IsDim (atT t) (· < n) (ls.map (lsR n)) := by
  refine ⟨by simpa using h.ne, fun r hr => ?_, fun i j hi hj hij ha => ?_⟩
  · obtain ⟨l, hl, rfl⟩ := List.mem_map.1 hr
    obtain ⟨hE, hb⟩ := (extB_bf hp).1 (h.ext l hl)
    refine ⟨fun i j hi hj ha => (lsR_lt hE hi hj).2 (hb i j hi hj ha), fun i j hi hj hij e => ?_⟩
    have h1 : ¬ lsR n l i < lsR n l j := by omega
    have h2 : ¬ lsR n l j < lsR n l i := by omega
    rw [lsR_lt hE hi hj] at h1
    rw [lsR_lt hE hj hi] at h2
    rw [bfA_or hE hi hj hij] at h2
    cases e : bfA n i j l with
    | true => exact h1 e
    | false => rw [e] at h2; exact h2 rfl
  · obtain ⟨l, hl, hb⟩ := h.rev i j hi hj hij ha
    obtain ⟨hE, _⟩ := (extB_bf hp).1 (h.ext l hl)
    exact ⟨lsR n l, List.mem_map_of_mem hl, (lsR_lt hE hj hi).2 hb⟩
/-! ### The search finds as few classes as there are. -/
theorem deal_col {n : Nat} {t : List (List Bool)} (hs : Sq n t) (hp : IsPo n t) (hn : n ≤ 8) {P : List (Nat × Nat)} (hP : ∀ x ∈ P, x.1 < n ∧ x.2 < n ∧ leT t x.1 x.2 = false) {m : Nat} (col : Nat × Nat → Nat) (L : Nat → List Int)
    (hL : ∀ c, c < m → extB n (belL n t) (L c) = true) (hc : ∀ x ∈ P, col x < m ∧ bfA n x.2 x.1 (L (col x)) = true) :
    ∀ (ps : List (Nat × Nat)) (i : Nat) (cl : List (List Nat)) (de : List (List (Nat × Nat))) (s : List Nat), P.drop i = ps → SI n t P i cl de → s.length = de.length → s.Nodup → (∀ c ∈ s, c < m) → (∀ k, k < de.length → ∀ x ∈ de.getD k [], col x = s.getD k 0) → (dealP m (startT n t) ps cl de).isSome = true
  | [], _, _, _, _, _, _, _, _, _, _ => rfl
  | x :: ps, i, cl, de, s, hd, hI, hsl, hnd, hsm, hco => by
    have hx : P[i]? = some x := by
      have := congrArg (fun l => l[0]?) hd
      simpa using this
    have hps : P.drop (i + 1) = ps := by
      have := congrArg List.tail hd
      simpa using this
    have hxP := List.mem_of_getElem? hx
    obtain ⟨h1, h2, h3⟩ := hP x hxP
    obtain ⟨hcm, hcb⟩ := hc x hxP
    have hl := hI.len
    rw [dealP]
    rcases Classical.em (col x ∈ s) with hmem | hmem
    · -- its class is there
      obtain ⟨k, hk, hke⟩ := mem_get hmem 0
      have hkd : k < de.length := by omega
      have hci := hI.ci k hkd
      have hac : acyc n (addTs t (de.getD k [] ++ [x])) = true := by
        have hr : ∀ y ∈ de.getD k [] ++ [x], y.1 < n ∧ y.2 < n := fun y hy => by
          rcases List.mem_append.1 hy with hy | hy
          · exact hci.rng y hy
          · rw [List.mem_singleton.1 hy]; exact ⟨h1, h2⟩
        refine acyc_of_bf (addTs_sq hs fun y hy => (hr y hy).2) (l := L (col x)) fun a b ha hb hab => ?_
        rcases (addTs_at _ hs hr a b).1 hab with hab | hab
        · exact ext_bf hp (hL _ hcm) ha hb hab
        · rcases List.mem_append.1 hab with hab | hab
          · have e1 := hco k hkd _ hab
            have e2 := (hc _ (hI.from_ k _ hab)).2
            rw [e1, hke] at e2
            exact e2
          · rw [← List.mem_singleton.1 hab] at hcb ⊢; exact hcb
      have hbad : badC (cl.getD k []) x.2 x.1 = false := by
        have := hci.bad hs hn h1 h2
        rw [hac] at this
        simpa using this.symm
      have hput := hI.put hs hn (fun y hy => ⟨(hP y hy).1, (hP y hy).2.1⟩) hx (j := k) (by omega) hbad
      have hrec := deal_col hs hp hn hP col L hL hc ps (i + 1) _ _ s hps hput (by simp [addP, hsl]) hnd hsm (fun k' hk' y hy => by
        rw [addP_get hkd] at hy
        split at hy
        · rename_i e; subst e
          rcases List.mem_append.1 hy with hy | hy
          · exact hco k hkd y hy
          · rw [List.mem_singleton.1 hy, hke]
        · exact hco k' (by simpa [addP] using hk') y hy)
      have := dealK_isSome (rec := dealP m (startT n t) ps) (x := x) cl.length 0 k (Nat.zero_le _) (by omega) hbad hrec
      split
      · rfl
      · rename_i hnone; rw [hnone] at this; cases this
    · -- a new class
      have hlt : s.length < m := by
        have := nodup_nat m (col x :: s) (List.nodup_cons.2 ⟨hmem, hnd⟩) (fun c hcs => by
          rcases List.mem_cons.1 hcs with rfl | hcs
          · exact hcm
          · exact hsm c hcs)
        simp at this; omega
      have hg := hI.grow hs hp hn hP hx
      have hrec := deal_col hs hp hn hP col L hL hc ps (i + 1) _ _ (s ++ [col x]) hps hg (by simp [hsl]) (by
          rw [List.nodup_append]
          refine ⟨hnd, by simp, fun a ha b hb e => ?_⟩
          rw [List.mem_singleton.1 hb] at e
          exact hmem (e ▸ ha)) (fun c hcs => by
          rcases List.mem_append.1 hcs with hcs | hcs
          · exact hsm c hcs
          · rw [List.mem_singleton.1 hcs]; exact hcm) (fun k hk y hy => by
          rw [snoc_get] at hy ⊢
          rw [hsl]
          split at hy
          · rename_i hk2; rw [if_pos hk2]; exact hco k hk2 y hy
          · rename_i hk2
            rw [if_neg hk2]
            split at hy
            · rename_i hk3; rw [if_pos hk3, List.mem_singleton.1 hy]
            · simp at hy)
      split
      · rfl
      · rw [if_neg (by omega)]; exact hrec
theorem rlz_dim {n : Nat} {t : List (List Bool)} (hs : Sq n t) (hp : IsPo n t) (hn : n ≤ 8) {ls : List (List Int)} (h : IsRlz n t ls) : (dealtT n t).length ≤ ls.length := by
  obtain ⟨m, h1, h2, h3, h4⟩ := deals_len (n := n) (t := t)
  rcases Nat.lt_or_ge ls.length m with hlt | hge
  · exfalso
    have hl1 : 1 ≤ ls.length := by
      have := h.ne
      cases ls with
      | nil => exact absurd rfl this
      | cons a l => simp
    have hnone := h4 ls.length hl1 hlt
    have hcr := ((rlz_crit hs hp h.ext).1 h).2
    have hcol : ∀ x : Nat × Nat, ∃ c, x ∈ critT n t → c < ls.length ∧ bfA n x.2 x.1 (ls.getD c []) = true := fun x => by
      rcases Classical.em (x ∈ critT n t) with hx | hx
      · obtain ⟨l, hl, hb⟩ := hcr x hx
        obtain ⟨c, hc, he⟩ := mem_get hl []
        exact ⟨c, fun _ => ⟨hc, by rw [he]; exact hb⟩⟩
      · exact ⟨0, fun h => absurd h hx⟩
    have := deal_col hs hp hn (P := critT n t) (fun x hx => critT_inc hx) (m := ls.length) (fun x => (hcol x).choose) (fun c => ls.getD c []) (fun c hc => h.ext _ (mem_getD hc _)) (fun x hx => (hcol x).choose_spec hx)
      (critT n t) 0 [] [] [] rfl (SI.nil n t _) rfl List.nodup_nil (by simp) (by simp)
    rw [hnone] at this; cases this
  · omega
theorem dim_le {n : Nat} {t : List (List Bool)} (hs : Sq n t) (hp : IsPo n t) (hn : n ≤ 8) {m : Nat} (h : DimLe (atT t) (· < n) m) : (dealtT n t).length ≤ m := by
  obtain ⟨rs, h1, h2⟩ := h
  have := rlz_dim hs hp hn (h1.lists hp)
  rw [List.length_map, h2] at this
  exact this
theorem dim_at {n : Nat} {t : List (List Bool)} (hs : Sq n t) (hp : IsPo n t) (hn : n ≤ 8) : DimLe (atT t) (· < n) (dealtT n t).length :=
  ⟨_, (realT_rlz hs hp hn).ranks hp, by rw [List.length_map, realT_len]⟩
end Go.AM

/- How the dimension changes with the elements. -/
namespace Go.AM
section
variable {lt : Nat → Nat → Bool} {D : Nat → Prop} {n : Nat}
end
/-- An order on the numbers below n. -/
structure PoN (lt : Nat → Nat → Bool) (n : Nat) : Prop where
  irr : ∀ i, lt i i = false
  trans : ∀ i j k, lt i j = true → lt j k = true → lt i k = true
  rng : ∀ i j, lt i j = true → i < n ∧ j < n
end Go.AM

/- Five elements: at most two lists. -/
namespace Go.AM
def t5 (b0 b1 b2 b3 b4 b5 b6 b7 b8 b9 : Bool) : List (List Bool) := [[false, b0, b1, b2, b3], [false, false, b4, b5, b6], [false, false, false, b7, b8], [false, false, false, false, b9], [false, false, false, false, false]]
/-- Transitive, where only greater numbers are related. -/
def tr5 (b0 b1 b2 b3 b4 b5 b6 b7 b8 b9 : Bool) : Bool :=
  (!(b0 && b4) || b1) && (!(b0 && b5) || b2) && (!(b0 && b6) || b3) && (!(b1 && b7) || b2) && (!(b1 && b8) || b3) && (!(b2 && b9) || b3) && (!(b4 && b7) || b5) && (!(b4 && b8) || b6) && (!(b5 && b9) || b6) && (!(b7 && b9) || b8)
theorem five_dec : ∀ b0 b1 b2 b3 b4 b5 b6 b7 b8 b9 : Bool, (!tr5 b0 b1 b2 b3 b4 b5 b6 b7 b8 b9 || (dealP 2 (startT 5 (t5 b0 b1 b2 b3 b4 b5 b6 b7 b8 b9)) (critT 5 (t5 b0 b1 b2 b3 b4 b5 b6 b7 b8 b9)) [] []).isSome) = true := by decide +kernel
end Go.AM

/- Five elements: at most two lists (the other half). -/
namespace Go.AM
theorem imp3 {a b c : Bool} (h : a = true → b = true → c = true) : (!(a && b) || c) = true := by
  cases a <;> cases b <;> simp at h ⊢
  exact h
theorem atT_rng {n : Nat} {t : List (List Bool)} (hs : Sq n t) {i j : Nat} (h : atT t i j = true) : i < n ∧ j < n := by
  unfold atT at h
  by_cases hi : i < n
  · refine ⟨hi, ?_⟩
    have := hs.rowLen hi
    rcases Nat.lt_or_ge j n with hj | hj
    · exact hj
    · rw [getD_out (by omega)] at h; cases h
  · have : rowT t i = [] := getD_out (by rw [hs.len]; omega) _
    rw [this] at h
    simp at h
theorem IsPo.pon {n : Nat} {t : List (List Bool)} (hs : Sq n t) (hp : IsPo n t) : PoN (atT t) n := by
  refine ⟨fun i => ?_, fun i j k h1 h2 => ?_, fun i j h => atT_rng hs h⟩
  · cases e : atT t i i with
    | false => rfl
    | true => have := hp.irr i (atT_rng hs e).1; rw [e] at this; cases this
  · exact hp.trans i j k (atT_rng hs h1).1 (atT_rng hs h1).2 (atT_rng hs h2).2 h1 h2
theorem PoN.le {lt : Nat → Nat → Bool} {n m : Nat} (h : PoN lt n) (hm : n ≤ m) : PoN lt m := ⟨h.irr, h.trans, fun i j hij => by have := h.rng i j hij; omega⟩
theorem PoN.tab {lt : Nat → Nat → Bool} {n : Nat} (h : PoN lt n) : IsPo n (tabF n lt) :=
  ⟨fun i hi => by rw [atT_tabF hi hi]; exact h.irr i, fun i j k hi hj hk h1 h2 => by rw [atT_tabF hi hj] at h1; rw [atT_tabF hj hk] at h2; rw [atT_tabF hi hk]; exact h.trans i j k h1 h2⟩
theorem all_in {n : Nat} {l : List Nat} (hnd : l.Nodup) (hr : ∀ i ∈ l, i < n) (hl : l.length = n) {z : Nat} (hz : z < n) : z ∈ l := by
  apply Classical.byContradiction
  intro h
  have := nodup_nat n (z :: l) (List.nodup_cons.2 ⟨h, hnd⟩) (fun i hi => by
    rcases List.mem_cons.1 hi with rfl | hi
    · exact hz
    · exact hr i hi)
  simp at this; omega
theorem five {lt : Nat → Nat → Bool} (hp : PoN lt 5) : DimLe lt (· < 5) 2 := by
  have hu := hp.tab
  have hus := tabF_sq 5 lt
  obtain ⟨hO, hl⟩ := ordO_ok hus (hu.acyc hus) 5 [] (OrdI.nil _ _) (by simp)
  generalize ordO 5 (tabF 5 lt) 5 [] = L at hO hl
  obtain ⟨f, hf⟩ : ∃ f : Nat → Nat → Bool, f = fun i j => lt (L.getD i 0) (L.getD j 0) := ⟨_, rfl⟩
  have hfd : ∀ i j, f i j = lt (L.getD i 0) (L.getD j 0) := fun i j => by rw [hf]
  have hLr : ∀ i, i < 5 → L.getD i 0 < 5 := fun i hi => hO.rng _ (mem_getD (by omega) 0)
  have hup : ∀ i j, i < 5 → j < 5 → f i j = true → i < j := fun i j hi hj h => by
    rw [hfd] at h
    have hj' : L[j]? = some (L.getD j 0) := by rw [List.getElem?_eq_getElem (by omega)]; simp [List.getD_eq_getElem?_getD, List.getElem?_eq_getElem (show j < L.length by omega)]
    obtain ⟨p, h1, h2⟩ := hO.top j _ (L.getD i 0) hj' (hLr i hi) (by rw [atT_tabF (hLr i hi) (hLr j hj)]; exact h)
    obtain ⟨hpl, he⟩ := List.getElem?_eq_some_iff.1 h2
    have : p = i := by
      refine (List.getElem_inj hO.nd (h₁ := by omega)).1 (he.trans ?_)
      simp [List.getD_eq_getElem?_getD, List.getElem?_eq_getElem (show i < L.length by omega)]
    omega
  have hat : ∀ i j, i < 5 → j < 5 → atT (t5 (f 0 1) (f 0 2) (f 0 3) (f 0 4) (f 1 2) (f 1 3) (f 1 4) (f 2 3) (f 2 4) (f 3 4)) i j = f i j := fun i j hi hj => by
    have h0 : atT (t5 (f 0 1) (f 0 2) (f 0 3) (f 0 4) (f 1 2) (f 1 3) (f 1 4) (f 2 3) (f 2 4) (f 3 4)) i j = (decide (i < j) && f i j) := by
      rcases (show i = 0 ∨ i = 1 ∨ i = 2 ∨ i = 3 ∨ i = 4 by omega) with rfl | rfl | rfl | rfl | rfl <;> rcases (show j = 0 ∨ j = 1 ∨ j = 2 ∨ j = 3 ∨ j = 4 by omega) with rfl | rfl | rfl | rfl | rfl <;> rfl
    rw [h0]
    cases e : f i j with
    | false => simp
    | true => rw [decide_eq_true (hup i j hi hj e)]; rfl
  have htr : ∀ i j k, f i j = true → f j k = true → f i k = true := fun i j k h1 h2 => by
    rw [hfd] at *
    exact hp.trans _ _ _ h1 h2
  have htr5 : tr5 (f 0 1) (f 0 2) (f 0 3) (f 0 4) (f 1 2) (f 1 3) (f 1 4) (f 2 3) (f 2 4) (f 3 4) = true := by
    unfold tr5
    rw [imp3 (htr 0 1 2), imp3 (htr 0 1 3), imp3 (htr 0 1 4), imp3 (htr 0 2 3), imp3 (htr 0 2 4), imp3 (htr 0 3 4), imp3 (htr 1 2 3), imp3 (htr 1 2 4), imp3 (htr 1 3 4), imp3 (htr 2 3 4)]
    rfl
  have hdec := five_dec (f 0 1) (f 0 2) (f 0 3) (f 0 4) (f 1 2) (f 1 3) (f 1 4) (f 2 3) (f 2 4) (f 3 4)
  rw [htr5] at hdec
  have hsq : Sq 5 (t5 (f 0 1) (f 0 2) (f 0 3) (f 0 4) (f 1 2) (f 1 3) (f 1 4) (f 2 3) (f 2 4) (f 3 4)) := ⟨rfl, fun b hb => by
    simp only [t5, List.mem_cons, List.not_mem_nil, or_false] at hb
    rcases hb with rfl | rfl | rfl | rfl | rfl <;> rfl⟩
  generalize hT : t5 (f 0 1) (f 0 2) (f 0 3) (f 0 4) (f 1 2) (f 1 3) (f 1 4) (f 2 3) (f 2 4) (f 3 4) = T at *
  have hTp : IsPo 5 T := ⟨fun i hi => by rw [hat i i hi hi, hfd]; exact hp.irr _, fun i j k hi hj hk h1 h2 => by rw [hat i j hi hj] at h1; rw [hat j k hj hk] at h2; rw [hat i k hi hk]; exact htr i j k h1 h2⟩
  have hd2 : (dealtT 5 T).length ≤ 2 := by
    obtain ⟨m, h1, h2, h3, h4⟩ := deals_len (n := 5) (t := T)
    rcases Nat.lt_or_ge 2 m with h5 | h5
    · have := h4 2 (by omega) h5
      rw [this] at hdec; cases hdec
    · omega
  obtain ⟨rs, hI, hlen⟩ := (dim_at hsq hTp (by omega)).mono hd2
  have hpos : ∀ z, z < 5 → L.idxOf z < 5 ∧ L.getD (L.idxOf z) 0 = z := fun z hz => by
    have hm := all_in hO.nd hO.rng hl hz
    have h1 := List.idxOf_lt_length_of_mem hm
    refine ⟨by omega, ?_⟩
    rw [List.getD_eq_getElem?_getD, List.getElem?_eq_getElem h1]
    simp
  have hinj : ∀ i j, i < 5 → j < 5 → i ≠ j → L.idxOf i ≠ L.idxOf j := fun i j hi hj hij e => by
    have h1 := (hpos i hi).2
    rw [e, (hpos j hj).2] at h1
    exact hij h1.symm
  have hlt : ∀ i j, i < 5 → j < 5 → atT T (L.idxOf i) (L.idxOf j) = lt i j := fun i j hi hj => by
    rw [hat _ _ (hpos i hi).1 (hpos j hj).1, hfd, (hpos i hi).2, (hpos j hj).2]
  refine ⟨rs.map fun r z => r (L.idxOf z), ⟨by simpa using hI.ne, fun r hr => ?_, fun i j hi hj hij hl0 => ?_⟩, by simpa using hlen⟩
  · obtain ⟨r0, hr0, rfl⟩ := List.mem_map.1 hr
    have h0 := hI.ok r0 hr0
    refine ⟨fun i j hi hj h => ?_, fun i j hi hj hij => ?_⟩
    · exact h0.up _ _ (hpos i hi).1 (hpos j hj).1 (by rw [hlt i j hi hj]; exact h)
    · exact h0.inj _ _ (hpos i hi).1 (hpos j hj).1 (hinj i j hi hj hij)
  · obtain ⟨r0, hr0, hb⟩ := hI.rev _ _ (hpos i hi).1 (hpos j hj).1 (hinj i j hi hj hij) (by rw [hlt i j hi hj]; exact hl0)
    exact ⟨_, List.mem_map_of_mem hr0, hb⟩
theorem dim_five {n : Nat} {t : List (List Bool)} (hs : Sq n t) (hp : IsPo n t) (hn : n ≤ 5) : (dealtT n t).length ≤ 2 :=
  dim_le hs hp (by omega) ((five ((hp.pon hs).le hn)).sub fun i (hi : i < n) => (show i < 5 by omega))
end Go.AM

/- All linear extensions, as the law lists them. -/
namespace Go.AM
def exG (n : Nat) (t : List (List Bool)) : Nat → List Nat → List (List Int)
  | 0, b => [natL b]
  | m + 1, b => (List.range n).flatMap fun i => if freeO n t b i = true then exG n t m (b ++ [i]) else []
def exA (n : Nat) (t : List (List Bool)) (m : Nat) (b : List Nat) (i : Nat) : List (List Int) := (List.range i).flatMap fun i => if freeO n t b i = true then exG n t m (b ++ [i]) else []
theorem exG_succ (n : Nat) (t : List (List Bool)) (m : Nat) (b : List Nat) : exG n t (m + 1) b = exA n t m b n := rfl
theorem exA_succ (n : Nat) (t : List (List Bool)) (m : Nat) (b : List Nat) (i : Nat) : exA n t m b (i + 1) = exA n t m b i ++ if freeO n t b i = true then exG n t m (b ++ [i]) else [] := by
  unfold exA; rw [List.range_succ, List.flatMap_append]; simp
theorem exA_le {n : Nat} {t : List (List Bool)} {m B : Nat} {b : List Nat} (h : ∀ i, (exG n t m (b ++ [i])).length ≤ B) : ∀ i, (exA n t m b i).length ≤ i * B
  | 0 => by simp [exA]
  | i + 1 => by
    rw [exA_succ, List.length_append, Nat.add_mul, Nat.one_mul]
    have := exA_le h i
    split
    · have := h i; omega
    · simp; omega
theorem exG_le (n : Nat) (t : List (List Bool)) : ∀ (m : Nat) (b : List Nat), (exG n t m b).length ≤ n ^ m
  | 0, b => by simp [exG]
  | m + 1, b => by
    rw [exG_succ, Nat.pow_succ, Nat.mul_comm]
    exact exA_le (fun i => exG_le n t m (b ++ [i])) n
theorem exG_ord {n : Nat} {t : List (List Bool)} : ∀ (m : Nat) (b : List Nat), OrdI n t b → ∀ l ∈ exG n t m b, ∃ r, l = natL r ∧ OrdI n t r ∧ r.length = b.length + m
  | 0, b, h, l, hl => by
    unfold exG at hl
    rw [List.mem_singleton.1 hl]
    exact ⟨b, rfl, h, rfl⟩
  | m + 1, b, h, l, hl => by
    unfold exG at hl
    obtain ⟨i, hi, hl⟩ := List.mem_flatMap.1 hl
    split at hl
    · rename_i hf
      obtain ⟨r, h1, h2, h3⟩ := exG_ord m _ (h.snoc (List.mem_range.1 hi) hf) l hl
      exact ⟨r, h1, h2, by rw [h3]; simp; omega⟩
    · simp at hl
theorem OrdI.free {n : Nat} {t : List (List Bool)} {r : List Nat} (h : OrdI n t r) {k : Nat} (hk : k < r.length) : freeO n t (r.take k) r[k] = true := by
  refine freeO_iff.2 ⟨fun hm => ?_, fun j hj ha => ?_⟩
  · obtain ⟨q, hq, he⟩ := List.mem_iff_getElem.1 hm
    rw [List.length_take] at hq
    rw [List.getElem_take] at he
    have := (List.getElem_inj h.nd (h₀ := by omega) (h₁ := hk)).1 he
    omega
  · obtain ⟨p, hp, he⟩ := h.top k _ j (List.getElem?_eq_getElem hk) hj ha
    exact List.mem_of_getElem? (by rw [List.getElem?_take_of_lt hp]; exact he)
theorem ord_exG {n : Nat} {t : List (List Bool)} {r : List Nat} (h : OrdI n t r) (hl : r.length = n) : ∀ (m k : Nat), k + m = n → natL r ∈ exG n t m (r.take k)
  | 0, k, hk => by
    unfold exG
    rw [List.take_of_length_le (by omega)]
    simp
  | m + 1, k, hk => by
    unfold exG
    have hkl : k < r.length := by omega
    refine List.mem_flatMap.2 ⟨r[k], List.mem_range.2 (h.rng _ (List.getElem_mem hkl)), ?_⟩
    rw [if_pos (h.free hkl)]
    have := ord_exG h hl m (k + 1) (by omega)
    rw [List.take_add_one, List.getElem?_eq_getElem hkl] at this
    exact this
theorem extB_ord {n : Nat} {t : List (List Bool)} (hp : IsPo n t) {l : List Int} : extB n (belL n t) l = true ↔ ∃ r, l = natL r ∧ OrdI n t r ∧ r.length = n := by
  rw [extB_bf hp]
  constructor
  · rintro ⟨hE, hb⟩
    have hl := hE.len
    have hge : ∀ k, k < n → l.getD k 0 = (((l.map Int.toNat).getD k 0 : Nat) : Int) := fun k hk => by
      have := (hE.rng k hk).1
      simp only [List.getD_eq_getElem?_getD, List.getElem?_map, List.getElem?_eq_getElem (show k < l.length by omega), Option.map_some, Option.getD_some] at this ⊢
      omega
    refine ⟨l.map Int.toNat, ?_, ⟨?_, fun i hi => ?_, fun q i k hq hk ha => ?_⟩, by simpa using hl⟩
    · refine List.ext_getElem (by simp [natL]) fun k h1 h2 => ?_
      have := hge k (by omega)
      simp only [List.getD_eq_getElem?_getD, List.getElem?_eq_getElem h1, Option.getD_some] at this
      rw [this]
      simp [natL, List.getD_eq_getElem?_getD, h1]
    · refine List.pairwise_iff_getElem.2 fun i j hi hj hij e => ?_
      simp only [List.length_map] at hi hj
      refine hE.inj hij (by omega) ?_
      rw [hge i (by omega), hge j (by omega)]
      simp only [List.getD_eq_getElem?_getD, List.getElem?_eq_getElem (show i < (l.map Int.toNat).length by simpa using hi), List.getElem?_eq_getElem (show j < (l.map Int.toNat).length by simpa using hj), Option.getD_some, e]
    · obtain ⟨x, hx, rfl⟩ := List.mem_map.1 hi
      obtain ⟨k, hk, rfl⟩ := List.mem_iff_getElem.1 hx
      have := hE.rng k (by omega)
      simp only [List.getD_eq_getElem?_getD, List.getElem?_eq_getElem hk, Option.getD_some] at this
      omega
    · obtain ⟨hql, he⟩ := List.getElem?_eq_some_iff.1 hq
      simp only [List.length_map] at hql
      have hgq := hge q (by omega)
      rw [List.getD_eq_getElem?_getD (l := l.map Int.toNat), hq, Option.getD_some] at hgq
      have hi : i < n := by have := (hE.rng q (by omega)).2; omega
      have hbk := hb k i hk hi ha
      obtain ⟨p, hp1, hp2⟩ := hE.has hk
      unfold bfA at hbk
      rw [refA_at hE hp2 n (Nat.le_refl _) hp1, refA_at hE hgq n (Nat.le_refl _) (by omega)] at hbk
      simp only [decide_eq_true_eq] at hbk
      refine ⟨p, by omega, ?_⟩
      have hgp := hge p hp1
      rw [hp2] at hgp
      rw [List.getElem?_eq_getElem (by simp; omega)]
      congr 1
      rw [List.getD_eq_getElem?_getD, List.getElem?_eq_getElem (show p < (l.map Int.toNat).length by simp; omega), Option.getD_some] at hgp
      omega
  · rintro ⟨r, rfl, hO, hl⟩
    refine ⟨natL_each hl hO.nd hO.rng, fun i j hi hj ha => ?_⟩
    have hE := natL_each hl hO.nd hO.rng
    obtain ⟨k, hk, he⟩ := hE.has hj
    have hkl : k < r.length := by omega
    rw [natL_get hkl] at he
    have hjk : r[k]? = some j := by rw [List.getElem?_eq_getElem hkl]; congr 1; omega
    obtain ⟨p, hp1, hp2⟩ := hO.top k j i hjk hi ha
    unfold bfA
    rw [natL_ref hl hO.nd hO.rng hjk, natL_ref hl hO.nd hO.rng hp2]
    exact decide_eq_true (by omega)
theorem ext_mem {n : Nat} {t : List (List Bool)} (hp : IsPo n t) {l : List Int} : l ∈ exG n t n [] ↔ extB n (belL n t) l = true := by
  rw [extB_ord hp]
  constructor
  · intro h
    obtain ⟨r, h1, h2, h3⟩ := exG_ord n [] (OrdI.nil n t) l h
    exact ⟨r, h1, h2, by simpa using h3⟩
  · rintro ⟨r, rfl, hO, hl⟩
    have := ord_exG hO hl n 0 (by omega)
    simpa using this
/-- A single list, or two of them: the dimension is told by the lists. -/
theorem IsRlz.perm {n : Nat} {t : List (List Bool)} {ls ms : List (List Int)} (h : IsRlz n t ls) (hm : ∀ l, l ∈ ls ↔ l ∈ ms) : IsRlz n t ms := by
  refine ⟨fun e => ?_, fun l hl => h.ext l ((hm l).2 hl), fun i j hi hj hij ha => ?_⟩
  · obtain ⟨l, hl⟩ := List.exists_mem_of_ne_nil _ h.ne
    have := (hm l).1 hl
    rw [e] at this; simp at this
  · obtain ⟨l, hl, hb⟩ := h.rev i j hi hj hij ha
    exact ⟨l, (hm l).1 hl, hb⟩
theorem one_iff {n : Nat} {t : List (List Bool)} (hs : Sq n t) (hp : IsPo n t) (hn : n ≤ 8) : ((exG n t n []).any fun x => rlzB n t [x]) = true ↔ (dealtT n t).length = 1 := by
  rw [List.any_eq_true]
  constructor
  · rintro ⟨x, _, hx⟩
    have h1 := rlz_dim hs hp hn ((rlzB_iff hp).1 hx)
    obtain ⟨m, h2, h3, _⟩ := deals_len (n := n) (t := t)
    simp at h1; omega
  · intro h
    have hr := realT_rlz hs hp hn
    have hl := realT_len n t
    rw [h] at hl
    obtain ⟨x, hx⟩ := List.length_eq_one_iff.1 hl
    rw [hx] at hr
    exact ⟨x, (ext_mem hp).2 (hr.ext x (by simp)), (rlzB_iff hp).2 hr⟩
theorem two_ex {n : Nat} {t : List (List Bool)} (hs : Sq n t) (hp : IsPo n t) (hn : n ≤ 8) (h : (dealtT n t).length = 2) : ∃ i j, j < i ∧ i < (exG n t n []).length ∧ rlzB n t [(exG n t n []).getD j [], (exG n t n []).getD i []] = true := by
  have hr := realT_rlz hs hp hn
  have hl := realT_len n t
  rw [h] at hl
  obtain ⟨a, b, hab⟩ : ∃ a b, realT n t = [a, b] := by
    match realT n t, hl with
    | [a, b], _ => exact ⟨a, b, rfl⟩
  rw [hab] at hr
  obtain ⟨i, hi, hie⟩ := mem_get ((ext_mem hp).2 (hr.ext a (by simp))) []
  obtain ⟨j, hj, hje⟩ := mem_get ((ext_mem hp).2 (hr.ext b (by simp))) []
  have hne : i ≠ j := fun e => by
    subst e
    rw [hie] at hje
    subst hje
    have := rlz_dim hs hp hn (hr.perm (ms := [a]) (fun l => by simp))
    simp at this; omega
  rcases Nat.lt_or_gt_of_ne hne with h1 | h1
  · exact ⟨j, i, h1, hj, (rlzB_iff hp).2 (by rw [hie, hje]; exact hr)⟩
  · exact ⟨i, j, h1, hi, (rlzB_iff hp).2 (by rw [hie, hje]; exact hr.perm (fun l => by simp [or_comm]))⟩
end Go.AM

namespace Go.Proofs.D
open Go.AM Go
set_option maxRecDepth 100000
set_option maxHeartbeats 4000000
theorem renC_lisR (f : Ref → Option Ref) (ls : List (List Int)) : (lisR ls).map (fun row => row.map (renC f 4)) = lisR ls := by
  simp [lisR, renC_rsl4]
theorem contains_r (l : List Int) (x : Int) (hl : l.length ≤ 9223372036854775807) : Reads Tryd.prog 62 false [.rsl 1 (ints l), .int .i64 x] (.bool (decide (x ∈ l))) := by
  have hi := index_r l x hl
  have hg := ixf_ge (fun y => decide (x = y)) l
  refine Reads.body (rs := [.tmp 4]) Tryd.func62 rfl Tryd.ntmps62 rfl (by simp) ?_
  generalize hQr : retQ _ _ _ = Qr
  -- block 1
  refine AW.sg [0,1] [] trivial ?_
  refine AW.so 0 (fun ii => if ii = 2 then some (.reads false (.int .i64 (ixf (fun y => decide (x = y)) l))) else none) [4] [] trivial ?_
  repeat with_reducible refine cj ?_ ?_
  all_goals try first | (exact hi) | omega | exact ent (by kernel_rfl)
  -- ret 1
  rw [← hQr]
  refine AW.rt trivial ?_
  exact Wk.of_eq (by rw [hg]; congr 1; rw [List.any_eq, decide_eq_decide]; simp)
theorem ext_u (n : Nat) (t : List (List Bool)) (hs : Sq n t) (hn : n ≤ 5) : ∀ (m : Nat) (b : List Nat), b.length + m = n → (∀ i ∈ b, i < n) → ∀ (outs : List (List Int)), outs.length + 5 ^ m ≤ 100000 → ∀ (g v g1 v1 : Nat),
    Upd Tryd.prog 31 [(0, some ⟨g, v, 1, lisR outs⟩), (1, some ⟨g1, v1, 1, ints (natL b)⟩)] [relB t, .sl ⟨1, g1, none⟩ 0 b.length none, .sl ⟨0, g, none⟩ 0 outs.length none]
      (fun k => .sl ⟨0, k, none⟩ 0 (outs ++ exG n t m b).length none) (fun k => [(0, some ⟨k, k, 1, lisR (outs ++ exG n t m b)⟩)]) := by
  intro m
  induction m with
  | zero =>
    intro b hbl hbr outs hol g v g1 v1
    have htl := tabR_len t
    have hlen := hs.len
    have hls := fun a b ha hb => less_r n t hs (by omega) a b ha hb
    have hco := fun (x : Int) => contains_r (natL b) x (by simp [natL]; omega)
    have hmm : ∀ i : Nat, decide ((i : Int) ∈ natL b) = b.contains i := fun i => by
      rw [List.contains_eq_mem]
      refine decide_eq_decide.2 ?_
      simp only [natL, List.mem_map]
      exact ⟨fun ⟨a, h1, h2⟩ => by rw [← (by omega : a = i)]; exact h1, fun h => ⟨i, h, rfl⟩⟩
    have hcl := clone_u (natL b) (by simp [natL]; omega)
    have hnl : (natL b).length = b.length := by simp [natL]
    rw [hnl] at hcl
    have hil : (ints (natL b)).length = b.length := by rw [ints_len, hnl]
    have hbt : (ints (natL b)).take b.length = ints (natL b) := List.take_of_length_le (by omega)
    unfold relB at *
    refine Upd.of_body (rs := [.tmp 6]) Tryd.func31 rfl Tryd.ntmps31 rfl (by simp) ?_
    intro k0 k hk0 hk1
    generalize hQr : retQ _ _ _ = Qr
    -- block 2
    refine AW.so 100 (fun _ => none) [1,2,3] [0,1,103] (e3 @htl @hlen @hil) ?_
    refine AW.freezeK [1] [1] [1, 2, 3] [0, 103] ?_
    simp only [go_sem, reduceIte, zE, hbt]
    refine AW.seq fun K1 hK1 => ?_
    refine AW.so 100 (fun _ => none) [1,2,3,15] [0,103] (e3 @htl @hlen @hil) ?_
    refine AW.cn ?_ ?_
    · intro hb
      have hou : (lisR outs).take outs.length = lisR outs := List.take_of_length_le (by rw [lisR_len]; omega)
      have hlo := lisR_len outs
      have hgl : ∀ a : List AV, (lisR outs ++ [a]).getD outs.length [] = a := fun a => Go.AM.rows_get hlo a
      have hsl : ∀ a u : List AV, (lisR outs ++ [a]).set outs.length u = lisR outs ++ [u] := fun a u => Go.AM.rows_set hlo a u
      have hll : ∀ a : List AV, (lisR outs ++ [a]).length = outs.length + 1 := fun a => by rw [List.length_append, hlo]; rfl
      have hap := lisR_app outs (natL b)
      have hex : outs ++ exG n t 0 b = outs ++ [natL b] := rfl
      have hel : (outs ++ [natL b]).length = outs.length + 1 := by simp
      refine AW.so 100 (fun ii => if ii = 2 then some (.upd [] (fun kk => [(0, some ⟨kk, kk, 1, ints (natL b)⟩)]) (fun kk => .sl ⟨0, kk, none⟩ 0 b.length none)) else none) [6] [0,118] (e5 @htl @hlen @hil @hou @hlo) ?_
      repeat with_reducible refine cj ?_ ?_
      all_goals try first | (first | exact hcl | omega) | omega | exact ent (by kernel_rfl) | (simp [scP, scalar]; done) | exact scP_words _ | exact scP_ints _ | exact scP_bools _
      refine AW.frzCellK [118] 5 0 outs.length 0 ?_
      simp only [go_sem, reduceIte, zE, zL, hgl, hsl, hll, hbt, hap]
      refine ⟨by decide, by omega, ?_⟩
      -- ret 1
      rw [← hQr]
      refine AW.rt (e3 @htl @hlen @hil) ?_
      refine ⟨[(0, 0, true)], ?_⟩
      rw [hex, hel]
      simp only [go_sem, reduceIte, zE, renC_lisR]
    · intro hb
      exfalso; omega
  | succ m ih =>
    intro b hbl hbr outs hol g v g1 v1
    have htl := tabR_len t
    have hlen := hs.len
    have hls := fun a b ha hb => less_r n t hs (by omega) a b ha hb
    have hco := fun (x : Int) => contains_r (natL b) x (by simp [natL]; omega)
    have hmm : ∀ i : Nat, decide ((i : Int) ∈ natL b) = b.contains i := fun i => by
      rw [List.contains_eq_mem]
      refine decide_eq_decide.2 ?_
      simp only [natL, List.mem_map]
      exact ⟨fun ⟨a, h1, h2⟩ => by rw [← (by omega : a = i)]; exact h1, fun h => ⟨i, h, rfl⟩⟩
    have hcl := clone_u (natL b) (by simp [natL]; omega)
    have hnl : (natL b).length = b.length := by simp [natL]
    rw [hnl] at hcl
    have hil : (ints (natL b)).length = b.length := by rw [ints_len, hnl]
    have hbt : (ints (natL b)).take b.length = ints (natL b) := List.take_of_length_le (by omega)
    unfold relB at *
    refine Upd.of_body (rs := [.tmp 6]) Tryd.func31 rfl Tryd.ntmps31 rfl (by simp) ?_
    intro k0 k hk0 hk1
    generalize hQr : retQ _ _ _ = Qr
    -- block 3
    refine AW.so 100 (fun _ => none) [1,2,3] [0,1,103] (e3 @htl @hlen @hil) ?_
    refine AW.freezeK [1] [1] [1, 2, 3] [0, 103] ?_
    simp only [go_sem, reduceIte, zE, hbt]
    refine AW.seq fun K1 hK1 => ?_
    refine AW.so 100 (fun _ => none) [1,2,3,15] [0,103] (e3 @htl @hlen @hil) ?_
    refine AW.cn ?_ ?_
    · intro hb
      exfalso; omega
    · intro hb
      refine AW.skip ?_
      refine hK1 _ _ _ ?_; clear hK1
      refine AW.seq fun K2 hK2 => ?_
      refine AW.so 100 (fun _ => none) [1,2,3,23,24] [0,103] (e3 @htl @hlen @hil) ?_
      refine AW.block ?_
      refine AW.loopE (fun mm ee ss kk => ∃ (i g v g3 v3 : Nat), n - i = mm ∧ ee = [(1, .rsl 1 (ints (natL b))), (2, .sl ⟨0, g, none⟩ 0 (outs ++ exA n t m b i).length none), (3, .ptr ⟨103, g3, none⟩ 0 0), (23, .int .i64 n), (24, .int .i64 (i : Nat))] ∧ ss = [(0, some ⟨g, v, 1, lisR (outs ++ exA n t m b i)⟩), (103, some ⟨g3, v3, 1, [[.rsl 2 (tabR t)]]⟩)] ∧ (i ≤ n)) ?_ ?_
      -- init 1
      · refine ⟨_, 0, ?_, ?_, ?_, ?_, rfl, ?henv, ?hstore, ?hst⟩
        case henv =>
          repeat' (first | rfl | refine env_cons ?_ ?_ | refine st_cons ?_ ?_ ?_ ?_ | refine int_eq ?_ | refine bool_eq ?_ | refine rsl_eq ?_ | refine osl_eq ?_ | refine sl_eq ?_ ?_ ?_ | refine ptr_eq ?_ ?_ ?_ | refine agg_eq ?_ | refine es_cons ?_ ?_ | refine row_cons ?_ ?_)
          all_goals (first | rfl | (simp [exA]; done) | omega)
        case hstore =>
          repeat' (first | rfl | refine env_cons ?_ ?_ | refine st_cons ?_ ?_ ?_ ?_ | refine int_eq ?_ | refine bool_eq ?_ | refine rsl_eq ?_ | refine osl_eq ?_ | refine sl_eq ?_ ?_ ?_ | refine ptr_eq ?_ ?_ ?_ | refine agg_eq ?_ | refine es_cons ?_ ?_ | refine row_cons ?_ ?_)
          all_goals (first | rfl | (simp [exA]; done))
        case hst =>
          first | trivial | omega | (simp; done) | (simp; omega)
      rintro mm ee ss kk ⟨i, g, v, g3, v3, rfl, rfl, rfl, hI⟩
      generalize hQl1 : thenQ _ _ = Ql1
      refine AW.so 100 (fun _ => none) [1,2,3,23,24,25] [0,103] (e3 @htl @hlen @hil) ?_
      refine AW.seq fun K3 hK3 => ?_
      refine AW.cn ?_ ?_
      · intro hb
        have hin : i < n := by omega
        have hcoi := hco (i : Nat)
        rw [hmm] at hcoi
        have hsu := exA_succ n t m b i
        have hfd : freeO n t b i = (!b.contains i && (List.range n).all fun k => !atT t k i || b.contains k) := rfl
        have hple := exA_le (n := n) (t := t) (m := m) (b := b) (B := 5 ^ m) (fun i => Nat.le_trans (exG_le n t m _) (Nat.pow_le_pow_left hn m)) i
        have hpl2 : i * 5 ^ m + 5 ^ m ≤ 5 ^ (m + 1) := by rw [Nat.pow_succ, Nat.mul_comm (5 ^ m) 5, ← Nat.succ_mul]; exact Nat.mul_le_mul_right _ (by omega)
        have hih := ih (b ++ [i]) (by rw [List.length_append, List.length_singleton]; omega) (fun x hx => by rcases List.mem_append.1 hx with hx | hx; exact hbr x hx; rw [List.mem_singleton.1 hx]; exact hin) (outs ++ exA n t m b i) (by rw [List.length_append]; omega)
        rw [List.append_assoc] at hih
        generalize hO : outs ++ exA n t m b i = O at *
        have hOl : O.length ≤ 100000 := by rw [← hO, List.length_append]; omega
        refine AW.skip ?_
        refine hK3 _ _ _ ?_; clear hK3
        refine AW.seq fun K4 hK4 => ?_
        have hB1 : ∀ (gj vj g3 v3 : Nat) (kk : Nat), K4 [(1, .rsl 1 (ints (natL b))), (2, .sl ⟨0, gj, none⟩ 0 (outs ++ exA n t m b (i + 1)).length none), (3, .ptr ⟨103, g3, none⟩ 0 0), (23, .int .i64 n), (24, .int .i64 (i : Nat))] [(0, some ⟨gj, vj, 1, lisR (outs ++ exA n t m b (i + 1))⟩), (103, some ⟨g3, v3, 1, [[.rsl 2 (tabR t)]]⟩)] kk := by
          intro gj vj g3 v3 kk
          refine hK4 _ _ _ ?_; clear hK4
          refine AW.ro 100 (fun _ => none) [1,2,3,23,24] [0,103] (e3 @htl @hlen @hil) ?_
          -- again 1
          rw [← hQl1]; change Exists _
          exact ⟨_, eO, i + 1, _, _, _, _, rfl, eD, eD, eT⟩
        refine AW.block ?_
        refine AW.so 100 (fun _ => none) [1,2,3,7,23,24] [0,103] (e3 @htl @hlen @hil) ?_
        refine AW.seq fun K5 hK5 => ?_
        refine AW.so 100 (fun ii => if ii = 2 then some (.reads false (.bool (b.contains i))) else none) [1,2,3,7,23,24,29] [0,103] (e3 @htl @hlen @hil) ?_
        repeat with_reducible refine cj ?_ ?_
        all_goals try first | (exact hcoi) | omega | exact ent (by kernel_rfl)
        refine AW.cn ?_ ?_
        · intro hb
          have hf0 : freeO n t b i = false := by rw [hfd, hb]; rfl
          rw [hf0, if_neg (by decide), List.append_nil] at hsu
          simp only [hsu, hO] at hB1
          -- exit 1
          refine AW.kx [1,2,3,23,24] [0,103] ?_
          exact hB1 _ _ _ _ _
        · intro hb
          have hb3 : b.contains i = false := by simpa using hb
          clear hb
          rw [hb3, Bool.not_false, Bool.true_and] at hfd
          refine AW.skip ?_
          refine hK5 _ _ _ ?_; clear hK5
          refine AW.so 100 (fun _ => none) [1,2,3,7,8,23,24] [0,103] (e3 @htl @hlen @hil) ?_
          refine AW.seq fun K6 hK6 => ?_
          refine AW.so 100 (fun _ => none) [1,2,3,7,8,23,24,32,33] [0,103] (e3 @htl @hlen @hil) ?_
          refine AW.block ?_
          refine AW.loopE (fun mm ee ss kk => ∃ (j g3 v3 : Nat), n - j = mm ∧ ee = [(1, .rsl 1 (ints (natL b))), (2, .sl ⟨0, g, none⟩ 0 O.length none), (3, .ptr ⟨103, g3, none⟩ 0 0), (7, .int .i64 (i : Nat)), (8, .bool ((List.range j).all fun k => !atT t k i || b.contains k)), (23, .int .i64 n), (24, .int .i64 (i : Nat)), (32, .int .i64 n), (33, .int .i64 (j : Nat))] ∧ ss = [(0, some ⟨g, v, 1, lisR O⟩), (103, some ⟨g3, v3, 1, [[.rsl 2 (tabR t)]]⟩)] ∧ (j ≤ n)) ?_ ?_
          -- init 2
          · exact ⟨_, 0, _, _, rfl, eD, eD, eT⟩
          rintro mm ee ss kk ⟨j, g3, v3, rfl, rfl, rfl, hI⟩
          generalize hQl2 : thenQ _ _ = Ql2
          refine AW.so 100 (fun _ => none) [1,2,3,7,8,23,24,32,33,34] [0,103] (e3 @htl @hlen @hil) ?_
          refine AW.seq fun K7 hK7 => ?_
          refine AW.cn ?_ ?_
          · intro hb
            have hjn : j < n := by omega
            have hlj := hls j i hjn hin
            have hcoj := hco (j : Nat)
            rw [hmm] at hcoj
            have hjsu := all_succ (fun k => !atT t k i || b.contains k) j
            generalize hAA : ((List.range j).all fun k => !atT t k i || b.contains k) = A at *
            refine AW.skip ?_
            refine hK7 _ _ _ ?_; clear hK7
            refine AW.seq fun K8 hK8 => ?_
            refine AW.block ?_
            refine AW.so 100 (fun _ => none) [1,2,3,7,8,9,23,24,32,33] [0,103] (e3 @htl @hlen @hil) ?_
            refine AW.ro 100 (fun ii => if ii = 5 then some (.reads false (.bool (atT t j i))) else if ii = 10 then some (.reads false (.bool (b.contains j))) else none) [1,2,3,7,8,23,24,32,33] [0,103] (e3 @htl @hlen @hil) ?_
            repeat with_reducible refine cj ?_ ?_
            all_goals try first | ((intros; (repeat' apply And.intro) <;> first | assumption | exact hlj | exact hcoj)) | (intros; (repeat' apply And.intro) <;> first | assumption | ((intros; (repeat' apply And.intro) <;> first | assumption | exact hlj | exact hcoj))) | omega | exact ent (by kernel_rfl) | (intro hgd; exact absurd hgd (by decide)) | rfl | (simp only [go_sem, reduceIte, reduceCtorEq, zA, zM, zE, zL, zD, zS, zP, zB, zI, zR, htl, hlen, hil]; done) | (intro _hgd; simp_all [go_sem]; done)
            refine hK8 _ _ _ ?_; clear hK8
            refine AW.ro 100 (fun _ => none) [1,2,3,7,8,23,24,32,33] [0,103] (e3 @htl @hlen @hil) ?_
            -- again 2
            rw [← hQl2]; change Exists _
            refine ⟨_, ?hm, j + 1, ?_, ?_, rfl, ?henv, ?hstore, ?hst⟩
            case henv =>
              repeat' (first | rfl | refine env_cons ?_ ?_ | refine st_cons ?_ ?_ ?_ ?_ | refine int_eq ?_ | refine bool_eq ?_ | refine rsl_eq ?_ | refine osl_eq ?_ | refine sl_eq ?_ ?_ ?_ | refine ptr_eq ?_ ?_ ?_ | refine agg_eq ?_ | refine es_cons ?_ ?_ | refine row_cons ?_ ?_)
              all_goals (first | omega | (rw [hjsu]; done))
            case hstore =>
              repeat' (first | rfl | refine env_cons ?_ ?_ | refine st_cons ?_ ?_ ?_ ?_ | refine int_eq ?_ | refine bool_eq ?_ | refine rsl_eq ?_ | refine osl_eq ?_ | refine sl_eq ?_ ?_ ?_ | refine ptr_eq ?_ ?_ ?_ | refine agg_eq ?_ | refine es_cons ?_ ?_ | refine row_cons ?_ ?_)
              all_goals (first | (simp; done) | omega | (simp; omega))
            case hst =>
              first | trivial | omega | (simp; done) | (simp; omega)
            case hm => omega
          · intro hb
            have hjn : j = n := by omega
            rw [hjn, ← hfd]
            clear hb
            -- exit 2
            refine AW.kx [1,2,3,7,8,23,24] [0,103] ?_
            rw [← hQl2]
            refine hK6 _ _ _ ?_; clear hK6
            refine AW.so 100 (fun _ => none) [1,2,3,7,23,24,50] [0,103] (e3 @htl @hlen @hil) ?_
            refine AW.cn ?_ ?_
            · intro hb
              rw [hb, if_pos rfl] at hsu
              have hst : O ++ exG n t m (b ++ [i]) = outs ++ exA n t m b (i + 1) := by rw [hsu, ← hO, List.append_assoc]
              have hih2 : ∀ (g v g1 v1 : Nat), Upd Tryd.prog 31 [(0, some ⟨g, v, 1, lisR O⟩), (1, some ⟨g1, v1, 1, ints (natL (b ++ [i]))⟩)] [.agg [.rsl 2 (tabR t)], .sl ⟨1, g1, none⟩ 0 (b.length + 1) none, .sl ⟨0, g, none⟩ 0 O.length none] (fun k => .sl ⟨0, k, none⟩ 0 (outs ++ exA n t m b (i + 1)).length none) (fun k => [(0, some ⟨k, k, 1, lisR (outs ++ exA n t m b (i + 1))⟩)]) := by
                intro g v g1 v1
                have := ih (b ++ [i]) (by rw [List.length_append, List.length_singleton]; omega) (fun x hx => by rcases List.mem_append.1 hx with hx | hx; exact hbr x hx; rw [List.mem_singleton.1 hx]; exact hin) O (by rw [← hO, List.length_append]; omega) g v g1 v1
                rw [hst, List.length_append, List.length_singleton] at this
                exact this
              have hapb : ints (natL b) ++ [[AV.int .i64 (i : Nat)]] = ints (natL (b ++ [i])) := by simp [natL, ints]
              have hbl2 : b.length < 5 := by omega
              clear hih ih
              refine AW.rd mixed 100 (fun ii => if ii = 2 then some (.upd [] (fun kk => [(0, some ⟨kk, kk, 1, ints (natL b)⟩)]) (fun kk => .sl ⟨0, kk, none⟩ 0 b.length none)) else if ii = 7 then some (.upd [0, 153] (fun kk => [(0, some ⟨kk, kk, 1, lisR (outs ++ exA n t m b (i + 1))⟩)]) (fun kk => .sl ⟨0, kk, none⟩ 0 (outs ++ exA n t m b (i + 1)).length none)) else none) [1,2,3,23,24] [0,103] (e4 @htl @hlen @hil (e5 @hbt @hil @hapb @renC_lisR @renC_ints)) ?_
              repeat with_reducible refine cj ?_ ?_
              all_goals try first | (first | exact hcl | exact hih2 _ _ _ _ | omega) | omega | exact chk (by kernel_rfl) | exact ent (by kernel_rfl) | (simp [scP, scalar]; done) | exact scP_words _ | exact scP_ints _ | exact scP_bools _
              exact hB1 _ _ _ _ _
            · intro hb
              rw [hb, if_neg (by decide), List.append_nil] at hsu
              simp only [hsu, hO] at hB1
              refine AW.keep [1, 2, 3, 23, 24] [0, 103] ?_
              simp only [go_sem, reduceIte, zE]
              refine AW.skip ?_
              exact hB1 _ _ _ _ _
      · intro hb
        have hin : i = n := by omega
        rw [hin, ← exG_succ]
        -- exit 0
        refine AW.kx [2] [0,103] ?_
        rw [← hQl1]
        refine hK2 _ _ _ ?_; clear hK2
        refine AW.so 100 (fun _ => none) [6] [0] (e3 @htl @hlen @hil) ?_
        -- ret 2
        rw [← hQr]
        refine AW.rt (e3 @htl @hlen @hil) ?_
        refine ⟨[(0, 0, true)], ?_⟩
        simp only [go_sem, reduceIte, zE, renC_lisR]
end Go.Proofs.D

namespace Go.Proofs.D
open Go.AM Go
set_option maxRecDepth 100000
set_option maxHeartbeats 4000000
theorem ext_t0 (n : Nat) (t : List (List Bool)) (hs : Sq n t) (hn : n ≤ 5) (b : List Nat) (hb0 : [] = ints (natL b)) (hbl : b.length + 0 = n) (outs : List (List Int)) (hou0 : [] = lisR outs) (hol : outs.length = 0) (hbl0 : b.length = 0) : Reads Tryd.prog 31 false [relB t, .nilsl, .nilsl] (.rsl 1 (lisR (outs ++ exG n t 0 b))) := by
  have htl := tabR_len t
  have hlen := hs.len
  have hls := fun a b ha hb => less_r n t hs (by omega) a b ha hb
  have hco := fun (x : Int) => contains_r (natL b) x (by simp [natL]; omega)
  have hmm : ∀ i : Nat, decide ((i : Int) ∈ natL b) = b.contains i := fun i => by
    rw [List.contains_eq_mem]
    refine decide_eq_decide.2 ?_
    simp only [natL, List.mem_map]
    exact ⟨fun ⟨a, h1, h2⟩ => by rw [← (by omega : a = i)]; exact h1, fun h => ⟨i, h, rfl⟩⟩
  have hcl := clone_u (natL b) (by simp [natL]; omega)
  have hnl : (natL b).length = b.length := by simp [natL]
  rw [hnl] at hcl
  have hil : (ints (natL b)).length = b.length := by rw [ints_len, hnl]
  have hbt : (ints (natL b)).take b.length = ints (natL b) := List.take_of_length_le (by omega)
  unfold relB at *
  refine Reads.body (rs := [.tmp 6]) Tryd.func31 rfl Tryd.ntmps31 rfl (by simp) ?_
  generalize hQr : retQ _ _ _ = Qr
  -- block 1
  refine AW.sg [1,2,3] [3] (e3 @htl @hlen @hil) ?_
  refine AW.nilOwn 1 1 1 (by simp only [go_sem, reduceIte, zE]) ?_
  refine AW.nilOwn 2 2 1 (by simp only [go_sem, reduceIte, zE]) ?_
  refine AW.freezeK [1] [1] [1, 2, 3] [2, 3] ?_
  simp only [go_sem, reduceIte, zE]
  rw [show (AV.rsl 1 ([] : List (List AV))) = AV.rsl 1 (ints (natL b)) from by rw [← hb0], show (Root.mk (4 + 1) (4 + 1) 1 []) = Root.mk (4 + 1) (4 + 1) 1 (lisR outs) from by rw [← hou0], show AV.sl ⟨2, 4 + 1, none⟩ 0 0 none = AV.sl ⟨2, 4 + 1, none⟩ 0 outs.length none from by rw [hol]]
  refine AW.keep [1, 2, 3] [2, 3] ?_
  simp only [go_sem, reduceIte, zE]
  refine AW.seq fun K1 hK1 => ?_
  refine AW.sg [1,2,3,15] [2,3] (e3 @htl @hlen @hil) ?_
  refine AW.cn ?_ ?_
  · intro hb
    have hou : (lisR outs).take outs.length = lisR outs := List.take_of_length_le (by rw [lisR_len]; omega)
    have hlo := lisR_len outs
    have hgl : ∀ a : List AV, (lisR outs ++ [a]).getD outs.length [] = a := fun a => Go.AM.rows_get hlo a
    have hsl : ∀ a u : List AV, (lisR outs ++ [a]).set outs.length u = lisR outs ++ [u] := fun a u => Go.AM.rows_set hlo a u
    have hll : ∀ a : List AV, (lisR outs ++ [a]).length = outs.length + 1 := fun a => by rw [List.length_append, hlo]; rfl
    have hap := lisR_app outs (natL b)
    have hex : outs ++ exG n t 0 b = outs ++ [natL b] := rfl
    have hel : (outs ++ [natL b]).length = outs.length + 1 := by simp
    refine AW.so 0 (fun ii => if ii = 2 then some (.upd [] (fun kk => [(0, some ⟨kk, kk, 1, ints (natL b)⟩)]) (fun kk => .sl ⟨0, kk, none⟩ 0 b.length none)) else none) [6] [2,18] (e5 @htl @hlen @hil @hou @hlo) ?_
    repeat with_reducible refine cj ?_ ?_
    all_goals try first | (first | exact hcl | omega) | omega | exact ent (by kernel_rfl) | (simp [scP, scalar]; done) | exact scP_words _ | exact scP_ints _ | exact scP_bools _
    refine AW.frzCellK [18] 5 2 outs.length 0 ?_
    simp only [go_sem, reduceIte, zE, zL, hgl, hsl, hll, hbt, hap]
    refine ⟨by decide, by omega, ?_⟩
    -- ret 1
    rw [← hQr]
    refine AW.rt (e3 @htl @hlen @hil) ?_
    rw [hex]
    have htk : (lisR (outs ++ [natL b])).take (outs.length + 1) = lisR (outs ++ [natL b]) := List.take_of_length_le (by rw [lisR_len]; simp)
    exact Wk.of_eq (by simp only [go_sem, reduceIte, zE, htk, vwc_lisR])
  · intro hb
    exfalso; omega
theorem ext_t1 (n : Nat) (t : List (List Bool)) (hs : Sq n t) (hn : n ≤ 5) (m : Nat) (b : List Nat) (hb0 : [] = ints (natL b)) (hbl : b.length + (m + 1) = n) (outs : List (List Int)) (hou0 : [] = lisR outs) (hol : outs.length = 0) (hbl0 : b.length = 0) (hbr : ∀ i ∈ b, i < n) : Reads Tryd.prog 31 false [relB t, .nilsl, .nilsl] (.rsl 1 (lisR (outs ++ exG n t (m + 1) b))) := by
  have ih := fun (b : List Nat) h1 h2 (outs : List (List Int)) h3 (g v g1 v1 : Nat) => ext_u n t hs hn m b h1 h2 outs h3 g v g1 v1
  have hpm : 5 ^ (m + 1) ≤ 5 ^ 5 := Nat.pow_le_pow_right (by decide) (by omega)
  have htl := tabR_len t
  have hlen := hs.len
  have hls := fun a b ha hb => less_r n t hs (by omega) a b ha hb
  have hco := fun (x : Int) => contains_r (natL b) x (by simp [natL]; omega)
  have hmm : ∀ i : Nat, decide ((i : Int) ∈ natL b) = b.contains i := fun i => by
    rw [List.contains_eq_mem]
    refine decide_eq_decide.2 ?_
    simp only [natL, List.mem_map]
    exact ⟨fun ⟨a, h1, h2⟩ => by rw [← (by omega : a = i)]; exact h1, fun h => ⟨i, h, rfl⟩⟩
  have hcl := clone_u (natL b) (by simp [natL]; omega)
  have hnl : (natL b).length = b.length := by simp [natL]
  rw [hnl] at hcl
  have hil : (ints (natL b)).length = b.length := by rw [ints_len, hnl]
  have hbt : (ints (natL b)).take b.length = ints (natL b) := List.take_of_length_le (by omega)
  unfold relB at *
  refine Reads.body (rs := [.tmp 6]) Tryd.func31 rfl Tryd.ntmps31 rfl (by simp) ?_
  generalize hQr : retQ _ _ _ = Qr
  -- block 2
  refine AW.sg [1,2,3] [3] (e3 @htl @hlen @hil) ?_
  refine AW.nilOwn 1 1 1 (by simp only [go_sem, reduceIte, zE]) ?_
  refine AW.nilOwn 2 2 1 (by simp only [go_sem, reduceIte, zE]) ?_
  refine AW.freezeK [1] [1] [1, 2, 3] [2, 3] ?_
  simp only [go_sem, reduceIte, zE]
  rw [show (AV.rsl 1 ([] : List (List AV))) = AV.rsl 1 (ints (natL b)) from by rw [← hb0], show (Root.mk (4 + 1) (4 + 1) 1 []) = Root.mk (4 + 1) (4 + 1) 1 (lisR outs) from by rw [← hou0], show AV.sl ⟨2, 4 + 1, none⟩ 0 0 none = AV.sl ⟨2, 4 + 1, none⟩ 0 outs.length none from by rw [hol]]
  refine AW.keep [1, 2, 3] [2, 3] ?_
  simp only [go_sem, reduceIte, zE]
  refine AW.seq fun K1 hK1 => ?_
  refine AW.sg [1,2,3,15] [2,3] (e3 @htl @hlen @hil) ?_
  refine AW.cn ?_ ?_
  · intro hb
    exfalso; omega
  · intro hb
    refine AW.skip ?_
    refine hK1 _ _ _ ?_; clear hK1
    refine AW.seq fun K2 hK2 => ?_
    refine AW.sg [1,2,3,23,24] [2,3] (e3 @htl @hlen @hil) ?_
    refine AW.block ?_
    refine AW.loopE (fun mm ee ss kk => ∃ (i g v g3 v3 : Nat), n - i = mm ∧ ee = [(1, .rsl 1 (ints (natL b))), (2, .sl ⟨2, g, none⟩ 0 (outs ++ exA n t m b i).length none), (3, .ptr ⟨3, g3, none⟩ 0 0), (23, .int .i64 n), (24, .int .i64 (i : Nat))] ∧ ss = [(2, some ⟨g, v, 1, lisR (outs ++ exA n t m b i)⟩), (3, some ⟨g3, v3, 1, [[.rsl 2 (tabR t)]]⟩)] ∧ (i ≤ n)) ?_ ?_
    -- init 1
    · refine ⟨_, 0, ?_, ?_, ?_, ?_, rfl, ?henv, ?hstore, ?hst⟩
      case henv =>
        repeat' (first | rfl | refine env_cons ?_ ?_ | refine st_cons ?_ ?_ ?_ ?_ | refine int_eq ?_ | refine bool_eq ?_ | refine rsl_eq ?_ | refine osl_eq ?_ | refine sl_eq ?_ ?_ ?_ | refine ptr_eq ?_ ?_ ?_ | refine agg_eq ?_ | refine es_cons ?_ ?_ | refine row_cons ?_ ?_)
        all_goals (first | rfl | (simp [exA]; done) | omega)
      case hstore =>
        repeat' (first | rfl | refine env_cons ?_ ?_ | refine st_cons ?_ ?_ ?_ ?_ | refine int_eq ?_ | refine bool_eq ?_ | refine rsl_eq ?_ | refine osl_eq ?_ | refine sl_eq ?_ ?_ ?_ | refine ptr_eq ?_ ?_ ?_ | refine agg_eq ?_ | refine es_cons ?_ ?_ | refine row_cons ?_ ?_)
        all_goals (first | rfl | (simp [exA]; done))
      case hst =>
        first | trivial | omega | (simp; done) | (simp; omega)
    rintro mm ee ss kk ⟨i, g, v, g3, v3, rfl, rfl, rfl, hI⟩
    generalize hQl1 : thenQ _ _ = Ql1
    refine AW.sg [1,2,3,23,24,25] [2,3] (e3 @htl @hlen @hil) ?_
    refine AW.seq fun K3 hK3 => ?_
    refine AW.cn ?_ ?_
    · intro hb
      have hin : i < n := by omega
      have hcoi := hco (i : Nat)
      rw [hmm] at hcoi
      have hsu := exA_succ n t m b i
      have hfd : freeO n t b i = (!b.contains i && (List.range n).all fun k => !atT t k i || b.contains k) := rfl
      have hple := exA_le (n := n) (t := t) (m := m) (b := b) (B := 5 ^ m) (fun i => Nat.le_trans (exG_le n t m _) (Nat.pow_le_pow_left hn m)) i
      have hpl2 : i * 5 ^ m + 5 ^ m ≤ 5 ^ (m + 1) := by rw [Nat.pow_succ, Nat.mul_comm (5 ^ m) 5, ← Nat.succ_mul]; exact Nat.mul_le_mul_right _ (by omega)
      have hih := ih (b ++ [i]) (by rw [List.length_append, List.length_singleton]; omega) (fun x hx => by rcases List.mem_append.1 hx with hx | hx; exact hbr x hx; rw [List.mem_singleton.1 hx]; exact hin) (outs ++ exA n t m b i) (by rw [List.length_append]; omega)
      rw [List.append_assoc] at hih
      generalize hO : outs ++ exA n t m b i = O at *
      have hOl : O.length ≤ 100000 := by rw [← hO, List.length_append]; omega
      refine AW.skip ?_
      refine hK3 _ _ _ ?_; clear hK3
      refine AW.seq fun K4 hK4 => ?_
      have hB1 : ∀ (gj vj g3 v3 : Nat) (kk : Nat), K4 [(1, .rsl 1 (ints (natL b))), (2, .sl ⟨2, gj, none⟩ 0 (outs ++ exA n t m b (i + 1)).length none), (3, .ptr ⟨3, g3, none⟩ 0 0), (23, .int .i64 n), (24, .int .i64 (i : Nat))] [(2, some ⟨gj, vj, 1, lisR (outs ++ exA n t m b (i + 1))⟩), (3, some ⟨g3, v3, 1, [[.rsl 2 (tabR t)]]⟩)] kk := by
        intro gj vj g3 v3 kk
        refine hK4 _ _ _ ?_; clear hK4
        refine AW.rg [1,2,3,23,24] [2,3] (e3 @htl @hlen @hil) ?_
        -- again 1
        rw [← hQl1]; change Exists _
        exact ⟨_, eO, i + 1, _, _, _, _, rfl, eD, eD, eT⟩
      refine AW.block ?_
      refine AW.sg [1,2,3,7,23,24] [2,3] (e3 @htl @hlen @hil) ?_
      refine AW.seq fun K5 hK5 => ?_
      refine AW.so 0 (fun ii => if ii = 2 then some (.reads false (.bool (b.contains i))) else none) [1,2,3,7,23,24,29] [2,3] (e3 @htl @hlen @hil) ?_
      repeat with_reducible refine cj ?_ ?_
      all_goals try first | (exact hcoi) | omega | exact ent (by kernel_rfl)
      refine AW.cn ?_ ?_
      · intro hb
        have hf0 : freeO n t b i = false := by rw [hfd, hb]; rfl
        rw [hf0, if_neg (by decide), List.append_nil] at hsu
        simp only [hsu, hO] at hB1
        -- exit 1
        refine AW.kx [1,2,3,23,24] [2,3] ?_
        exact hB1 _ _ _ _ _
      · intro hb
        have hb3 : b.contains i = false := by simpa using hb
        clear hb
        rw [hb3, Bool.not_false, Bool.true_and] at hfd
        refine AW.skip ?_
        refine hK5 _ _ _ ?_; clear hK5
        refine AW.sg [1,2,3,7,8,23,24] [2,3] (e3 @htl @hlen @hil) ?_
        refine AW.seq fun K6 hK6 => ?_
        refine AW.sg [1,2,3,7,8,23,24,32,33] [2,3] (e3 @htl @hlen @hil) ?_
        refine AW.block ?_
        refine AW.loopE (fun mm ee ss kk => ∃ (j g3 v3 : Nat), n - j = mm ∧ ee = [(1, .rsl 1 (ints (natL b))), (2, .sl ⟨2, g, none⟩ 0 O.length none), (3, .ptr ⟨3, g3, none⟩ 0 0), (7, .int .i64 (i : Nat)), (8, .bool ((List.range j).all fun k => !atT t k i || b.contains k)), (23, .int .i64 n), (24, .int .i64 (i : Nat)), (32, .int .i64 n), (33, .int .i64 (j : Nat))] ∧ ss = [(2, some ⟨g, v, 1, lisR O⟩), (3, some ⟨g3, v3, 1, [[.rsl 2 (tabR t)]]⟩)] ∧ (j ≤ n)) ?_ ?_
        -- init 2
        · exact ⟨_, 0, _, _, rfl, eD, eD, eT⟩
        rintro mm ee ss kk ⟨j, g3, v3, rfl, rfl, rfl, hI⟩
        generalize hQl2 : thenQ _ _ = Ql2
        refine AW.sg [1,2,3,7,8,23,24,32,33,34] [2,3] (e3 @htl @hlen @hil) ?_
        refine AW.seq fun K7 hK7 => ?_
        refine AW.cn ?_ ?_
        · intro hb
          have hjn : j < n := by omega
          have hlj := hls j i hjn hin
          have hcoj := hco (j : Nat)
          rw [hmm] at hcoj
          have hjsu := all_succ (fun k => !atT t k i || b.contains k) j
          generalize hAA : ((List.range j).all fun k => !atT t k i || b.contains k) = A at *
          refine AW.skip ?_
          refine hK7 _ _ _ ?_; clear hK7
          refine AW.seq fun K8 hK8 => ?_
          refine AW.block ?_
          refine AW.sg [1,2,3,7,8,9,23,24,32,33] [2,3] (e3 @htl @hlen @hil) ?_
          refine AW.ro 0 (fun ii => if ii = 5 then some (.reads false (.bool (atT t j i))) else if ii = 10 then some (.reads false (.bool (b.contains j))) else none) [1,2,3,7,8,23,24,32,33] [2,3] (e3 @htl @hlen @hil) ?_
          repeat with_reducible refine cj ?_ ?_
          all_goals try first | ((intros; (repeat' apply And.intro) <;> first | assumption | exact hlj | exact hcoj)) | (intros; (repeat' apply And.intro) <;> first | assumption | ((intros; (repeat' apply And.intro) <;> first | assumption | exact hlj | exact hcoj))) | omega | exact ent (by kernel_rfl) | (intro hgd; exact absurd hgd (by decide)) | rfl | (simp only [go_sem, reduceIte, reduceCtorEq, zA, zM, zE, zL, zD, zS, zP, zB, zI, zR, htl, hlen, hil]; done) | (intro _hgd; simp_all [go_sem]; done)
          refine hK8 _ _ _ ?_; clear hK8
          refine AW.rg [1,2,3,7,8,23,24,32,33] [2,3] (e3 @htl @hlen @hil) ?_
          -- again 2
          rw [← hQl2]; change Exists _
          refine ⟨_, ?hm, j + 1, ?_, ?_, rfl, ?henv, ?hstore, ?hst⟩
          case henv =>
            repeat' (first | rfl | refine env_cons ?_ ?_ | refine st_cons ?_ ?_ ?_ ?_ | refine int_eq ?_ | refine bool_eq ?_ | refine rsl_eq ?_ | refine osl_eq ?_ | refine sl_eq ?_ ?_ ?_ | refine ptr_eq ?_ ?_ ?_ | refine agg_eq ?_ | refine es_cons ?_ ?_ | refine row_cons ?_ ?_)
            all_goals (first | omega | (rw [hjsu]; done))
          case hstore =>
            repeat' (first | rfl | refine env_cons ?_ ?_ | refine st_cons ?_ ?_ ?_ ?_ | refine int_eq ?_ | refine bool_eq ?_ | refine rsl_eq ?_ | refine osl_eq ?_ | refine sl_eq ?_ ?_ ?_ | refine ptr_eq ?_ ?_ ?_ | refine agg_eq ?_ | refine es_cons ?_ ?_ | refine row_cons ?_ ?_)
            all_goals (first | (simp; done) | omega | (simp; omega))
          case hst =>
            first | trivial | omega | (simp; done) | (simp; omega)
          case hm => omega
        · intro hb
          have hjn : j = n := by omega
          rw [hjn, ← hfd]
          clear hb
          -- exit 2
          refine AW.kx [1,2,3,7,8,23,24] [2,3] ?_
          rw [← hQl2]
          refine hK6 _ _ _ ?_; clear hK6
          refine AW.sg [1,2,3,7,23,24,50] [2,3] (e3 @htl @hlen @hil) ?_
          refine AW.cn ?_ ?_
          · intro hb
            rw [hb, if_pos rfl] at hsu
            have hst : O ++ exG n t m (b ++ [i]) = outs ++ exA n t m b (i + 1) := by rw [hsu, ← hO, List.append_assoc]
            have hih2 : ∀ (g v g1 v1 : Nat), Upd Tryd.prog 31 [(0, some ⟨g, v, 1, lisR O⟩), (1, some ⟨g1, v1, 1, ints (natL (b ++ [i]))⟩)] [.agg [.rsl 2 (tabR t)], .sl ⟨1, g1, none⟩ 0 (b.length + 1) none, .sl ⟨0, g, none⟩ 0 O.length none] (fun k => .sl ⟨0, k, none⟩ 0 (outs ++ exA n t m b (i + 1)).length none) (fun k => [(0, some ⟨k, k, 1, lisR (outs ++ exA n t m b (i + 1))⟩)]) := by
              intro g v g1 v1
              have := ih (b ++ [i]) (by rw [List.length_append, List.length_singleton]; omega) (fun x hx => by rcases List.mem_append.1 hx with hx | hx; exact hbr x hx; rw [List.mem_singleton.1 hx]; exact hin) O (by rw [← hO, List.length_append]; omega) g v g1 v1
              rw [hst, List.length_append, List.length_singleton] at this
              exact this
            have hapb : ints (natL b) ++ [[AV.int .i64 (i : Nat)]] = ints (natL (b ++ [i])) := by simp [natL, ints]
            have hbl2 : b.length < 5 := by omega
            clear hih ih
            refine AW.rd mixed 0 (fun ii => if ii = 2 then some (.upd [] (fun kk => [(0, some ⟨kk, kk, 1, ints (natL b)⟩)]) (fun kk => .sl ⟨0, kk, none⟩ 0 b.length none)) else if ii = 7 then some (.upd [2, 53] (fun kk => [(0, some ⟨kk, kk, 1, lisR (outs ++ exA n t m b (i + 1))⟩)]) (fun kk => .sl ⟨0, kk, none⟩ 0 (outs ++ exA n t m b (i + 1)).length none)) else none) [1,2,3,23,24] [2,3] (e4 @htl @hlen @hil (e5 @hbt @hil @hapb @renC_lisR @renC_ints)) ?_
            repeat with_reducible refine cj ?_ ?_
            all_goals try first | (first | exact hcl | exact hih2 _ _ _ _ | omega) | omega | exact chk (by kernel_rfl) | exact ent (by kernel_rfl) | (simp [scP, scalar]; done) | exact scP_words _ | exact scP_ints _ | exact scP_bools _
            exact hB1 _ _ _ _ _
          · intro hb
            rw [hb, if_neg (by decide), List.append_nil] at hsu
            simp only [hsu, hO] at hB1
            refine AW.keep [1, 2, 3, 23, 24] [2, 3] ?_
            simp only [go_sem, reduceIte, zE]
            refine AW.skip ?_
            exact hB1 _ _ _ _ _
    · intro hb
      have hin : i = n := by omega
      rw [hin, ← exG_succ]
      -- exit 0
      refine AW.kx [2] [2,3] ?_
      rw [← hQl1]
      refine hK2 _ _ _ ?_; clear hK2
      refine AW.sg [6] [2] (e3 @htl @hlen @hil) ?_
      -- ret 2
      rw [← hQr]
      refine AW.rt (e3 @htl @hlen @hil) ?_
      have htk : (lisR (outs ++ exG n t (m + 1) b)).take (outs ++ exG n t (m + 1) b).length = lisR (outs ++ exG n t (m + 1) b) := List.take_of_length_le (by rw [lisR_len]; exact Nat.le_refl _)
      exact Wk.of_eq (by simp only [go_sem, reduceIte, zE, htk, vwc_lisR])
theorem ext_top (n : Nat) (t : List (List Bool)) (hs : Sq n t) (hn : n ≤ 5) : Reads Tryd.prog 31 false [relB t, .nilsl, .nilsl] (.rsl 1 (lisR (exG n t n []))) := by
  cases n with
  | zero => exact ext_t0 0 t hs hn [] rfl rfl [] rfl rfl rfl
  | succ m => exact ext_t1 (m + 1) t hs hn m [] rfl (by simp) [] rfl rfl rfl (by simp)
end Go.Proofs.D

namespace Go.Proofs.D
open Go.AM Go
set_option maxRecDepth 100000
set_option maxHeartbeats 4000000
theorem lst1_r (n : Nat) (t : List (List Bool)) (hs : Sq n t) (hn : n ≤ 5) (hp : poB n t = true) (x : List Int) (hx : x.length ≤ 9223372036854775807) : Reads Tryd.prog 33 false [.rsl 1 (ints x), .rptr [.rsl 2 (tabR t)]] (.bool (rlzB n t [x])) := by
  have h := Reads.flat (realizes_g n t hs (by omega) hp [x] (by simp) (by simpa using hx)) rfl
  have hl : lisR [x] = [[.rsl 1 (ints x)]] := rfl
  rw [hl] at h
  unfold relB at h
  refine Reads.body (rs := [.tmp 3]) Tryd.func33 rfl Tryd.ntmps33 rfl (by simp) ?_
  generalize hQr : retQ _ _ _ = Qr
  -- block 1
  refine AW.sg [0,1] [] trivial ?_
  refine AW.so 0 (fun ii => if ii = 3 then some (.reads true (.bool (rlzB n t [x]))) else none) [3] [] trivial ?_
  repeat with_reducible refine cj ?_ ?_
  all_goals try first | (exact h) | omega | exact ent (by kernel_rfl)
  -- ret 1
  rw [← hQr]
  refine AW.rt trivial ?_
  exact Wk.refl _
theorem ixlst_r (n : Nat) (t : List (List Bool)) (hs : Sq n t) (hn : n ≤ 5) (hp : poB n t = true) (ls : List (List Int)) (hl : ls.length ≤ 9223372036854775807) (hle : ∀ e ∈ ls, e.length ≤ 9223372036854775807) : Reads Tryd.prog 63 false [.rsl 1 (lisR ls), .fn 33 [.rptr [.rsl 2 (tabR t)]]] (.int .i64 (ixf (fun x => rlzB n t [x]) ls)) := by
  have hc := fun e he => lst1_r n t hs hn hp e he
  generalize hpp : (fun x => rlzB n t [x]) = p
  have hpe : ∀ x, rlzB n t [x] = p x := fun x => by rw [← hpp]
  refine Reads.body (rs := [.tmp 4]) Tryd.func63 rfl Tryd.ntmps63 rfl (by simp) ?_
  generalize hQr : retQ _ _ _ = Qr
  -- block 2
  refine AW.sg [0,1] [] (@lisR_len) ?_
  refine AW.seq fun K1 hK1 => ?_
  refine AW.sg [0,1,7,8] [] (@lisR_len) ?_
  refine AW.block ?_
  refine AW.loopE (fun mm ee ss kk => ∃ (j : Nat), ls.length - j = mm ∧ ee = [(0, .rsl 1 (lisR ls)), (1, .fn 33 [.rptr [.rsl 2 (tabR t)]]), (7, .int .i64 ls.length), (8, .int .i64 (j : Nat))] ∧ ss = [] ∧ (j ≤ ls.length ∧ (ls.take j).any p = false)) ?_ ?_
  -- init 1
  · exact ⟨_, 0, rfl, eD, eD, eT⟩
  rintro mm ee ss kk ⟨j, rfl, rfl, rfl, hI⟩
  generalize hQl1 : thenQ _ _ = Ql1
  obtain ⟨hj, hall⟩ := hI
  refine AW.sg [0,1,7,8,9] [] (@lisR_len) ?_
  refine AW.seq fun K2 hK2 => ?_
  refine AW.cn ?_ ?_
  · intro hb
    obtain ⟨e, he⟩ := getI (l := ls) (j := j) (by omega)
    have hgx : (lisR ls).getD j [] = [.rsl 1 (ints e)] := by simp [lisR, List.getD_eq_getElem?_getD, he]
    have hats := any_take_succ (p := p) he
    have hbx := hc e (hle e (List.mem_of_getElem? he))
    rw [hpe] at hbx
    refine AW.skip ?_
    refine hK2 _ _ _ ?_; clear hK2
    refine AW.seq fun K3 hK3 => ?_
    refine AW.block ?_
    refine AW.sg [0,1,5,7,8] [] (@lisR_len) ?_
    refine AW.so 0 (fun ii => if ii = 5 then some (.reads false (.bool (p e))) else none) [0,1,5,7,8,16] [] (e2 @lisR_len @hgx) ?_
    repeat with_reducible refine cj ?_ ?_
    all_goals try first | (exact hbx) | omega | exact ent (by kernel_rfl)
    refine AW.cn ?_ ?_
    · intro hb
      refine AW.sg [4] [] (@lisR_len) ?_
      -- ret 1
      rw [← hQl1, ← hQr]
      refine AW.rt (@lisR_len) ?_
      exact Wk.of_eq (by rw [ixf_at he hb hall])
    · intro hb
      refine AW.skip ?_
      refine hK3 _ _ _ ?_; clear hK3
      refine AW.rg [0,1,7,8] [] (@lisR_len) ?_
      -- again 1
      rw [← hQl1]; change Exists _
      exact ⟨_, eO, j + 1, rfl, eD, eD, (⟨by omega, by rw [hats, hall, hb]; rfl⟩)⟩
  · intro hb
    -- exit 0
    refine AW.kx [] [] ?_
    rw [← hQl1]
    refine hK1 _ _ _ ?_; clear hK1
    refine AW.sg [4] [] (@lisR_len) ?_
    -- ret 2
    rw [← hQr]
    refine AW.rt (@lisR_len) ?_
    exact Wk.of_eq (by rw [List.take_of_length_le (by omega)] at hall; rw [ixf_none hall])
theorem ctlst_r (n : Nat) (t : List (List Bool)) (hs : Sq n t) (hn : n ≤ 5) (hp : poB n t = true) (ls : List (List Int)) (hl : ls.length ≤ 9223372036854775807) (hle : ∀ e ∈ ls, e.length ≤ 9223372036854775807) : Reads Tryd.prog 32 false [.rsl 1 (lisR ls), .fn 33 [.rptr [.rsl 2 (tabR t)]]] (.bool (ls.any fun x => rlzB n t [x])) := by
  have h := ixlst_r n t hs hn hp ls hl hle
  have hge := ixf_ge (fun x => rlzB n t [x]) ls
  generalize ixf (fun x => rlzB n t [x]) ls = q at *
  refine Reads.body (rs := [.tmp 4]) Tryd.func32 rfl Tryd.ntmps32 rfl (by simp) ?_
  generalize hQr : retQ _ _ _ = Qr
  -- block 3
  refine AW.sg [0,1] [] trivial ?_
  refine AW.so 0 (fun ii => if ii = 2 then some (.reads false (.int .i64 q)) else none) [4] [] trivial ?_
  repeat with_reducible refine cj ?_ ?_
  all_goals try first | (exact h) | omega | exact ent (by kernel_rfl)
  -- ret 1
  rw [← hQr]
  refine AW.rt trivial ?_
  exact Wk.of_eq (by rw [hge])
theorem least_l (rs : List USet) (hl : longR rs) (hg : (decide ((5 : Int) < rs.length) || greatB rs) = true) : Reads Tryd.prog 8 false [relV rs] (.bool true) := by
  have ha := awake_r
  have hf := great_r rs hl
  have hrl : (rs.map rowV).length = rs.length := by simp
  have hl1 := hl.1
  unfold relV at *
  refine Reads.body (rs := [.tmp 2]) Tryd.func8 rfl Tryd.ntmps8 rfl (by simp) ?_
  generalize hQr : retQ _ _ _ = Qr
  -- block 4
  refine AW.sg [1] [1] (@hrl) ?_
  refine AW.seq fun K1 hK1 => ?_
  refine AW.so 0 (fun ii => if ii = 0 then some (.reads false (.bool true)) else none) [1,10] [1] (@hrl) ?_
  repeat with_reducible refine cj ?_ ?_
  all_goals try first | (exact ha) | omega | exact ent (by kernel_rfl)
  refine AW.cn ?_ ?_
  · intro hb
    exfalso; simp at hb
  · intro hb
    refine AW.skip ?_
    refine hK1 _ _ _ ?_; clear hK1
    refine AW.seq fun K2 hK2 => ?_
    refine AW.so 0 (fun ii => if ii = 6 then some (.reads false (.bool (greatB rs))) else if ii = 10 then some (.reads false (.bool true)) else none) [1,23] [1] (e2 @hrl @hg) ?_
    repeat with_reducible refine cj ?_ ?_
    all_goals try first | (first | exact hf | exact fun _ => hf | (intro hh; exact ⟨hh, hf⟩)) | (intros; (repeat' apply And.intro) <;> first | assumption | (first | exact hf | exact fun _ => hf | (intro hh; exact ⟨hh, hf⟩))) | omega | exact ent (by kernel_rfl) | (intro hgd; exact absurd hgd (by decide)) | rfl | (simp only [go_sem, reduceIte, reduceCtorEq, zA, zM, zE, zL, zD, zS, zP, zB, zI, zR, hrl, hg]; done) | (intro _hgd; simp_all [go_sem]; done)
    refine AW.cn ?_ ?_
    · intro hb
      refine AW.sg [2] [] (@hrl) ?_
      -- ret 2
      rw [← hQr]
      refine AW.rt (@hrl) ?_
      exact Wk.refl _
    · intro hb
      exfalso; simp at hb
theorem least_b (rs : List USet) (hl : longR rs) (hg : (decide ((5 : Int) < rs.length) || greatB rs) = false) (hv2 : Reads Tryd.prog 15 false [relV rs] (.bool false)) : Reads Tryd.prog 8 false [relV rs] (.bool true) := by
  have ha := awake_r
  have hf := great_r rs hl
  have hrl : (rs.map rowV).length = rs.length := by simp
  have hl1 := hl.1
  unfold relV at *
  refine Reads.body (rs := [.tmp 2]) Tryd.func8 rfl Tryd.ntmps8 rfl (by simp) ?_
  generalize hQr : retQ _ _ _ = Qr
  -- block 5
  refine AW.sg [1] [1] (@hrl) ?_
  refine AW.seq fun K1 hK1 => ?_
  refine AW.so 0 (fun ii => if ii = 0 then some (.reads false (.bool true)) else none) [1,10] [1] (@hrl) ?_
  repeat with_reducible refine cj ?_ ?_
  all_goals try first | (exact ha) | omega | exact ent (by kernel_rfl)
  refine AW.cn ?_ ?_
  · intro hb
    exfalso; simp at hb
  · intro hb
    refine AW.skip ?_
    refine hK1 _ _ _ ?_; clear hK1
    refine AW.seq fun K2 hK2 => ?_
    refine AW.so 0 (fun ii => if ii = 6 then some (.reads false (.bool (greatB rs))) else if ii = 10 then some (.reads false (.bool false)) else none) [1,23] [1] (e2 @hrl @hg) ?_
    repeat with_reducible refine cj ?_ ?_
    all_goals try first | (first | exact hf | exact fun _ => hf | (intro hh; exact ⟨hh, hf⟩) | exact hv2 | exact fun _ => hv2 | (intro hh; exact ⟨hh, hv2⟩)) | (intros; (repeat' apply And.intro) <;> first | assumption | (first | exact hf | exact fun _ => hf | (intro hh; exact ⟨hh, hf⟩) | exact hv2 | exact fun _ => hv2 | (intro hh; exact ⟨hh, hv2⟩))) | omega | exact ent (by kernel_rfl) | (intro hgd; exact absurd hgd (by decide)) | rfl | (simp only [go_sem, reduceIte, reduceCtorEq, zA, zM, zE, zL, zD, zS, zP, zB, zI, zR, hrl, hg]; done) | (intro _hgd; simp_all [go_sem]; done)
    refine AW.cn ?_ ?_
    · intro hb
      refine AW.sg [2] [] (@hrl) ?_
      -- ret 2
      rw [← hQr]
      refine AW.rt (@hrl) ?_
      exact Wk.refl _
    · intro hb
      exfalso; simp at hb
theorem least_g (n : Nat) (t : List (List Bool)) (hs : Sq n t) (hn : n ≤ 5) (hp : poB n t = true) (hg : (decide ((5 : Int) < n) || greatB (t.map SB)) = false) : Reads Tryd.prog 8 false [relB t] (.bool true) := by
  have hpo := (poB_iff hs).1 hp
  have ha := awake_r
  have hf := great_r (t.map SB) (longR_SB hs (by omega))
  rw [← relB_SB] at hf
  have hv2 := poset_g n t hs (by omega)
  rw [hp] at hv2
  have hd := dim_g n t hs (by omega) hp
  have htop := ext_top n t hs hn
  have hd2 := dim_five hs hpo hn
  have hone := one_iff hs hpo (by omega : n ≤ 8)
  have htwo := two_ex hs hpo (by omega : n ≤ 8)
  obtain ⟨_, hlm, hd1, _⟩ := deals_len (n := n) (t := t)
  rw [← hlm] at hd1
  have htl := tabR_len t
  have hlen := hs.len
  have hEl : (exG n t n []).length ≤ 100000 := Nat.le_trans (exG_le n t n []) (Nat.le_trans (Nat.pow_le_pow_left hn n) (Nat.le_trans (Nat.pow_le_pow_right (by decide) hn) (by decide)))
  have hmem : ∀ e ∈ exG n t n [], e.length ≤ 9223372036854775807 := fun e he => by
    have := ((extB_bf hpo).1 ((ext_mem hpo).1 he)).1.len; omega
  have hct := Reads.flat (ctlst_r n t hs hn hp (exG n t n []) (by omega) hmem) rfl
  have hrz := fun a b (h1 : a.length ≤ 9223372036854775807) (h2 : b.length ≤ 9223372036854775807) => Reads.flat (realizes_g n t hs (by omega) hp [a, b] (by simp) (by simp; exact ⟨h1, h2⟩)) rfl
  generalize hD : (dealtT n t).length = D at *
  generalize hE : exG n t n [] = E at *
  have hlE := lisR_len E
  generalize hO : (E.any fun x => rlzB n t [x]) = O at *
  unfold relB at *
  refine Reads.body (rs := [.tmp 2]) Tryd.func8 rfl Tryd.ntmps8 rfl (by simp) ?_
  generalize hQr : retQ _ _ _ = Qr
  -- block 6
  refine AW.sg [1] [1] (e3 @htl @hlen @hlE) ?_
  refine AW.seq fun K1 hK1 => ?_
  refine AW.so 0 (fun ii => if ii = 0 then some (.reads false (.bool true)) else none) [1,10] [1] (e3 @htl @hlen @hlE) ?_
  repeat with_reducible refine cj ?_ ?_
  all_goals try first | (exact ha) | omega | exact ent (by kernel_rfl)
  refine AW.cn ?_ ?_
  · intro hb
    exfalso; simp at hb
  · intro hb
    refine AW.skip ?_
    refine hK1 _ _ _ ?_; clear hK1
    refine AW.seq fun K2 hK2 => ?_
    refine AW.so 0 (fun ii => if ii = 6 then some (.reads false (.bool (greatB (t.map SB)))) else if ii = 10 then some (.reads false (.bool true)) else none) [1,23] [1] (e4 @htl @hlen @hlE @hg) ?_
    repeat with_reducible refine cj ?_ ?_
    all_goals try first | (first | exact hf | exact fun _ => hf | (intro hh; exact ⟨hh, hf⟩) | exact hv2 | exact fun _ => hv2 | (intro hh; exact ⟨hh, hv2⟩)) | (intros; (repeat' apply And.intro) <;> first | assumption | (first | exact hf | exact fun _ => hf | (intro hh; exact ⟨hh, hf⟩) | exact hv2 | exact fun _ => hv2 | (intro hh; exact ⟨hh, hv2⟩))) | omega | exact ent (by kernel_rfl) | (intro hgd; exact absurd hgd (by decide)) | rfl | (simp only [go_sem, reduceIte, reduceCtorEq, zA, zM, zE, zL, zD, zS, zP, zB, zI, zR, htl, hlen, hlE, hg]; done) | (intro _hgd; simp_all [go_sem]; done)
    refine AW.cn ?_ ?_
    · intro hb
      exfalso; simp at hb
    · intro hb
      refine AW.skip ?_
      refine hK2 _ _ _ ?_; clear hK2
      refine AW.so 0 (fun ii => if ii = 1 then some (.reads false (.tup [.int .i64 (D : Nat), .int .i64 ((0 : Nat) : Int)])) else none) [1,3,4] [1] (e3 @htl @hlen @hlE) ?_
      repeat with_reducible refine cj ?_ ?_
      all_goals try first | (exact hd) | omega | exact ent (by kernel_rfl)
      refine AW.seq fun K3 hK3 => ?_
      refine AW.sg [1,3,38] [1] (e3 @htl @hlen @hlE) ?_
      repeat with_reducible refine cj ?_ ?_
      all_goals try first | omega | (intros; (repeat' apply And.intro) <;> first | assumption | omega | decide) | (intro hgd; exact absurd hgd (by decide)) | rfl | (simp only [go_sem, reduceIte, reduceCtorEq, zA, zM, zE, zL, zD, zS, zP, zB, zI, zR, htl, hlen, hlE]; done) | (intro _hgd; simp_all [go_sem]; done)
      refine AW.cn ?_ ?_
      · intro hb
        exfalso; simp at hb; omega
      · intro hb
        refine AW.skip ?_
        refine hK3 _ _ _ ?_; clear hK3
        refine AW.so 0 (fun ii => if ii = 1 then some (.reads false (.rsl 1 (lisR E))) else none) [1,3,5] [1] (e3 @htl @hlen @hlE) ?_
        repeat with_reducible refine cj ?_ ?_
        all_goals try first | (exact htop) | omega | exact ent (by kernel_rfl)
        refine AW.so 0 (fun ii => if ii = 2 then some (.reads true (.bool O)) else none) [1,3,5,6] [1] (e3 @htl @hlen @hlE) ?_
        repeat with_reducible refine cj ?_ ?_
        all_goals try first | (exact hct) | omega | exact ent (by kernel_rfl)
        refine AW.seq fun K4 hK4 => ?_
        refine AW.sg [1,3,5,6,48] [1] (e3 @htl @hlen @hlE) ?_
        repeat with_reducible refine cj ?_ ?_
        all_goals try first | omega | (intros; (repeat' apply And.intro) <;> first | assumption | omega | decide) | (intro hgd; exact absurd hgd (by decide)) | rfl | (simp only [go_sem, reduceIte, reduceCtorEq, zA, zM, zE, zL, zD, zS, zP, zB, zI, zR, htl, hlen, hlE]; done) | (intro _hgd; simp_all [go_sem]; done)
        refine AW.cn ?_ ?_
        · intro hb
          have hOD : O = true ∧ D = 1 := by
            rcases hb with hb | hb
            · exact ⟨hb, hone.1 hb⟩
            · have : D = 1 := by omega
              exact ⟨hone.2 this, this⟩
          refine AW.sg [2] [] (e3 @htl @hlen @hlE) ?_
          repeat with_reducible refine cj ?_ ?_
          all_goals try first | omega | (intros; (repeat' apply And.intro) <;> first | assumption | omega | decide) | (intro hgd; exact absurd hgd (by decide)) | rfl | (simp only [go_sem, reduceIte, reduceCtorEq, zA, zM, zE, zL, zD, zS, zP, zB, zI, zR, htl, hlen, hlE]; done) | (intro _hgd; simp_all [go_sem]; done)
          -- ret 4
          rw [← hQr]
          refine AW.rt (e3 @htl @hlen @hlE) ?_
          exact Wk.of_eq (by rw [hOD.1, hOD.2]; rfl)
        · intro hb
          have hD2 : D = 2 := by have := hb.2; omega
          obtain ⟨i0, j0, hji, hi0, hrl0⟩ := htwo hD2
          clear hb
          refine AW.skip ?_
          refine hK4 _ _ _ ?_; clear hK4
          refine AW.seq fun K5 hK5 => ?_
          refine AW.sg [1,5,55,56] [1] (e3 @htl @hlen @hlE) ?_
          refine AW.block ?_
          refine AW.loopE (fun mm ee ss kk => ∃ (i g1 v1 : Nat), E.length - i = mm ∧ ee = [(1, .ptr ⟨1, g1, none⟩ 0 0), (5, .rsl 1 (lisR E)), (55, .int .i64 E.length), (56, .int .i64 (i : Nat))] ∧ ss = [(1, some ⟨g1, v1, 1, [[.rsl 2 (tabR t)]]⟩)] ∧ (i ≤ i0)) ?_ ?_
          -- init 1
          · exact ⟨_, 0, _, _, rfl, eD, eD, eT⟩
          rintro mm ee ss kk ⟨i, g1, v1, rfl, rfl, rfl, hI⟩
          generalize hQl1 : thenQ _ _ = Ql1
          refine AW.sg [1,5,55,56,57] [1] (e3 @htl @hlen @hlE) ?_
          refine AW.seq fun K6 hK6 => ?_
          refine AW.cn ?_ ?_
          · intro hb
            refine AW.skip ?_
            refine hK6 _ _ _ ?_; clear hK6
            refine AW.seq fun K7 hK7 => ?_
            refine AW.block ?_
            refine AW.sg [1,5,7,55,56] [1] (e3 @htl @hlen @hlE) ?_
            refine AW.sg [1,5,7,55,56,59,60] [1] (e3 @htl @hlen @hlE) ?_
            refine AW.block ?_
            refine AW.loopE (fun mm ee ss kk => ∃ (j g1 v1 : Nat), i - j = mm ∧ ee = [(1, .ptr ⟨1, g1, none⟩ 0 0), (5, .rsl 1 (lisR E)), (7, .int .i64 (i : Nat)), (55, .int .i64 E.length), (56, .int .i64 (i : Nat)), (59, .int .i64 (i : Nat)), (60, .int .i64 (j : Nat))] ∧ ss = [(1, some ⟨g1, v1, 1, [[.rsl 2 (tabR t)]]⟩)] ∧ (j ≤ i ∧ (i = i0 → j ≤ j0))) ?_ ?_
            -- init 2
            · exact ⟨_, 0, _, _, rfl, eD, eD, (⟨by omega, fun _ => by omega⟩)⟩
            rintro mm ee ss kk ⟨j, g1, v1, rfl, rfl, rfl, hI⟩
            generalize hQl2 : thenQ _ _ = Ql2
            obtain ⟨hj, hjj⟩ := hI
            refine AW.sg [1,5,7,55,56,59,60,61] [1] (e3 @htl @hlen @hlE) ?_
            refine AW.seq fun K8 hK8 => ?_
            refine AW.cn ?_ ?_
            · intro hb
              obtain ⟨a, hga0⟩ := getI (l := E) (j := j) (by omega)
              obtain ⟨b, hgb0⟩ := getI (l := E) (j := i) (by omega)
              have hga : (lisR E).getD j [] = [.rsl 1 (ints a)] := by simp [lisR, List.getD_eq_getElem?_getD, hga0]
              have hgb : (lisR E).getD i [] = [.rsl 1 (ints b)] := by simp [lisR, List.getD_eq_getElem?_getD, hgb0]
              have hrab := hrz a b (hmem a (List.mem_of_getElem? hga0)) (hmem b (List.mem_of_getElem? hgb0))
              have hlab : lisR [a, b] = [[.rsl 1 (ints a)], [.rsl 1 (ints b)]] := rfl
              rw [hlab] at hrab
              have heab : i = i0 → j = j0 → rlzB n t [a, b] = true := fun e1 e2 => by
                subst e1; subst e2
                rw [List.getD_eq_getElem?_getD, List.getD_eq_getElem?_getD, hga0, hgb0] at hrl0
                exact hrl0
              refine AW.skip ?_
              refine hK8 _ _ _ ?_; clear hK8
              refine AW.seq fun K9 hK9 => ?_
              refine AW.block ?_
              refine AW.sg [1,5,7,8,55,56,59,60] [1] (e3 @htl @hlen @hlE) ?_
              refine AW.sd mixed 0 (fun ii => if ii = 10 then some (.upd [72] (fun _ => []) (fun _ => .bool (rlzB n t [a, b]))) else none) [1,5,7,55,56,59,60,73] [1] (e5 @htl @hlen @hlE @hga @hgb) ?_
              repeat with_reducible refine cj ?_ ?_
              all_goals try first | (first | exact hrab.upd rfl | exact hrab.upd (by simp only [go_sem, reduceIte, zE]) | exact hrab.upd (by simp only [go_sem, reduceIte, zE]; rfl)) | omega | exact chk (by kernel_rfl) | exact ent (by kernel_rfl)
              refine AW.cn ?_ ?_
              · intro hb
                refine AW.sg [2] [] (e3 @htl @hlen @hlE) ?_
                -- ret 5
                rw [← hQl2, ← hQl1, ← hQr]
                refine AW.rt (e3 @htl @hlen @hlE) ?_
                exact Wk.refl _
              · intro hb
                have hb0 : rlzB n t [a, b] = false := by simpa using hb
                clear hb
                refine AW.skip ?_
                refine hK9 _ _ _ ?_; clear hK9
                refine AW.rg [1,5,7,55,56,59,60] [1] (e3 @htl @hlen @hlE) ?_
                -- again 2
                rw [← hQl2]; change Exists _
                refine ⟨_, eO, j + 1, _, _, rfl, eD, eD, ?_⟩
                refine ⟨by omega, fun e => ?_⟩
                have := hjj e
                rcases Nat.lt_or_eq_of_le this with h | h
                · omega
                · rw [heab e h] at hb0; cases hb0
            · intro hb
              have hji2 : j = i := by omega
              have hii : i < i0 := by
                rcases Nat.lt_or_eq_of_le hI with h | h
                · exact h
                · have := hjj h; omega
              -- exit 2
              refine AW.kx [1,5,55,56] [1] ?_
              rw [← hQl2]
              refine hK7 _ _ _ ?_; clear hK7
              refine AW.rg [1,5,55,56] [1] (e3 @htl @hlen @hlE) ?_
              -- again 1
              rw [← hQl1]; change Exists _
              exact ⟨_, eO, i + 1, _, _, rfl, eD, eD, eT⟩
          · intro hb
            exfalso; omega
theorem law_least (rs : List USet) (hl : longR rs) (hok : ∀ x ∈ rs, okW x.W) : Reads Tryd.prog 8 false [relV rs] (.bool true) := by
  cases hg : decide ((5 : Int) < rs.length) || greatB rs with
  | true => exact least_l rs hl hg
  | false =>
    have hg2 := hg
    rw [Bool.or_eq_false_iff] at hg2
    rcases rel_cases rs hok with ⟨t, ht, hs, hn, hp⟩ | hb
    · have h := least_g _ t hs (by have := of_decide_eq_false hg2.1; omega) hp (by rw [← ht]; exact hg)
      rw [relB_SB, ← ht] at h
      exact h
    · obtain ⟨_, h2⟩ := bad_valid rs hl hg2.2 hok hb
      exact least_b rs hl hg h2
end Go.Proofs.D

