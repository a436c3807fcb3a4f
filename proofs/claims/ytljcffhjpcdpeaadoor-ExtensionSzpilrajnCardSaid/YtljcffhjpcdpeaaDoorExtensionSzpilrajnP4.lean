/- Lemmas and contracts, part 4: an abstract machine over the model, and the functions that the statement reaches. -/
import Derived.Test.YtljcffhjpcdpeaaDoorExtensionSzpilrajnP3
set_option linter.unusedVariables false
set_option linter.unusedSimpArgs false
open Nat renaming reduceAdd → zA, reduceMul → zM, reduceEqDiff → zE, reduceLT → zL, reduceLeDiff → zD, reduceSub → zS, reducePow → zP, reduceBEq → zB
open Int renaming reduceToNat → zI
open List renaming reduceReplicate → zR
namespace Go.Proofs.X
open Go.AM Go
set_option maxRecDepth 100000
set_option maxHeartbeats 2000000
theorem pvalid_e (rs : List USet) (hl : longR rs) (hv : validR rs = false) : Reads Tryd.prog 37 false [relV rs] (.bool false) := by
  have h := rvalid_r rs hl.1 hl.2
  rw [hv] at h
  unfold relV at *
  refine Reads.body (rs := [.tmp 2]) Tryd.func37 rfl Tryd.ntmps37 rfl (by simp) ?_
  generalize hQr : retQ _ _ _ = Qr
  refine AW.seq fun K1 hK1 => ?_
  refine AW.regionK 0 (fun _ => none) [1] [1] ?_
  simp only [go_sem, reduceIte, reduceCtorEq, zA, zM, zE, zL, zD, zS, zP, zB, zI, zR]
  repeat with_reducible refine cj ?_ ?_
  all_goals try first | omega
  refine hK1 _ _ _ ?_; clear hK1
  refine AW.seq fun K2 hK2 => ?_
  refine AW.seq fun K3 hK3 => ?_
  refine AW.regionK 0 (fun ii => if ii = 1 then some (.reads false (.bool false)) else none) [1, 11] [1] ?_
  simp only [go_sem, reduceIte, reduceCtorEq, zA, zM, zE, zL, zD, zS, zP, zB, zI, zR]
  repeat with_reducible refine cj ?_ ?_
  all_goals try first | (exact h) | omega | exact ent (by kernel_rfl)
  refine hK3 _ _ _ ?_; clear hK3
  refine AW.cond rfl (by simp only [go_sem, reduceIte, reduceCtorEq, zA, zM, zE, zL, zD, zS, zP, zB, zI, zR]) ?_ ?_
  · intro hb
    try simp only [hB, decide_eq_true_eq, decide_eq_false_iff_not] at hb
    refine AW.seq fun K4 hK4 => ?_
    refine AW.regionK 0 (fun _ => none) [2] [] ?_
    simp only [go_sem, reduceIte, reduceCtorEq, zA, zM, zE, zL, zD, zS, zP, zB, zI, zR]
    repeat with_reducible refine cj ?_ ?_
    all_goals try first | omega
    refine hK4 _ _ _ ?_; clear hK4
    refine AW.ret ?_
    rw [← hQr]
    simp only [go_sem, reduceIte, reduceCtorEq, zA, zM, zE, zL, zD, zS, zP, zB, zI, zR]
    exact Wk.refl _
  · intro hb
    try simp only [hB, decide_eq_true_eq, decide_eq_false_iff_not] at hb
    simp at hb
end Go.Proofs.X

/- Rows made of lists of members. -/
namespace Go.AM
def rowL (n : Nat) (l : List Int) : List Bool := setR n fun i => decide ((i : Int) ∈ l)
theorem rowL_len (n : Nat) (l : List Int) : (rowL n l).length = n := setR_len _ _
theorem rowL_get {n : Nat} {l : List Int} {i : Nat} (h : i < n) : (rowL n l).getD i false = decide ((i : Int) ∈ l) := setR_get h
theorem fold_setBit {n : Nat} : ∀ (l : List Int) (b : List Bool), b.length = n → (∀ x ∈ l, 0 ≤ x ∧ x < n) → l.foldl setBit (setW b n) = setW (l.foldl (fun b x => b.set x.toNat true) b) n
  | [], _, _, _ => rfl
  | x :: l, b, hb, hl => by
    have hx := hl x (List.mem_cons_self ..)
    have h1 := setBit_setW b (i := x.toNat) (by omega)
    rw [hb, Int.toNat_of_nonneg hx.1] at h1
    rw [List.foldl_cons, List.foldl_cons, h1]
    exact fold_setBit l _ (by simp [hb]) fun y hy => hl y (List.mem_cons_of_mem _ hy)
theorem fold_set_get {n : Nat} : ∀ (l : List Int) (b : List Bool), b.length = n → (∀ x ∈ l, 0 ≤ x ∧ x < n) → (l.foldl (fun b x => b.set x.toNat true) b).length = n ∧ ∀ i, i < n → (l.foldl (fun b x => b.set x.toNat true) b).getD i false = (b.getD i false || decide ((i : Int) ∈ l))
  | [], b, hb, _ => ⟨hb, fun i _ => by simp⟩
  | x :: l, b, hb, hl => by
    have hx := hl x (List.mem_cons_self ..)
    obtain ⟨h1, h2⟩ := fold_set_get l (b.set x.toNat true) (by simp [hb]) fun y hy => hl y (List.mem_cons_of_mem _ hy)
    refine ⟨h1, fun i hi => ?_⟩
    rw [List.foldl_cons, h2 i hi, getD_setB]
    by_cases e : x = (i : Int)
    · rw [if_pos ⟨by omega, by omega⟩, decide_eq_true (show (i : Int) ∈ x :: l by rw [e]; exact List.mem_cons_self ..)]; simp
    · rw [if_neg (by omega)]
      congr 1
      refine decide_eq_decide.2 ?_
      rw [List.mem_cons]
      exact ⟨.inr, fun h => h.resolve_left fun h => e h.symm⟩
theorem ofW_row {n : Nat} {l : List Int} (hl : ∀ x ∈ l, 0 ≤ x ∧ x < n) : ofW n l = setW (rowL n l) n := by
  have hz := setW_zero n
  have h1 := fold_setBit l (List.replicate n false) (by simp) hl
  rw [hz] at h1
  have h2 := fold_set_get l (List.replicate n false) (by simp) hl
  unfold ofW
  rw [h1]
  congr 1
  refine getD_extB (by rw [h2.1, rowL_len]) fun i hi => ?_
  rw [h2.1] at hi
  rw [h2.2 i hi, rowL_get hi]
  have e : (List.replicate n false).getD i false = false := by rw [List.getD_eq_getElem?_getD, List.getElem?_replicate]; split <;> rfl
  rw [e, Bool.false_or]
theorem rowL_nats {n : Nat} {l : List Nat} : rowL n (l.map fun (i : Nat) => (i : Int)) = setR n fun i => decide (i ∈ l) := by
  refine setR_ext fun i hi => decide_eq_decide.2 ?_
  rw [List.mem_map]
  exact ⟨fun ⟨a, h1, h2⟩ => by rw [← (by omega : a = i)]; exact h1, fun h => ⟨i, h, rfl⟩⟩
end Go.AM

namespace Go.Proofs.X
open Go.AM Go
set_option maxRecDepth 100000
set_option maxHeartbeats 2000000
end Go.Proofs.X

namespace Go.Proofs.X
open Go.AM Go
set_option maxRecDepth 100000
set_option maxHeartbeats 2000000
end Go.Proofs.X

/- The restriction of an order. -/
namespace Go.AM
def resT (t : List (List Bool)) (M : List Nat) : List (List Bool) := tabF M.length fun a c => atT t (M.getD a 0) (M.getD c 0)
theorem resT_at {t : List (List Bool)} {M : List Nat} {a c : Nat} (ha : a < M.length) (hc : c < M.length) : atT (resT t M) a c = atT t (M.getD a 0) (M.getD c 0) := atT_tabF ha hc
theorem IsPo.res {n : Nat} {t : List (List Bool)} (h : IsPo n t) {M : List Nat} (hM : ∀ i ∈ M, i < n) : IsPo M.length (resT t M) := by
  have hl : ∀ a, a < M.length → M.getD a 0 < n := fun a ha => hM _ (mem_getD ha 0)
  refine ⟨fun i hi => by rw [resT_at hi hi]; exact h.irr _ (hl i hi), fun i j k hi hj hk h1 h2 => ?_⟩
  rw [resT_at hi hj] at h1
  rw [resT_at hj hk] at h2
  rw [resT_at hi hk]
  exact h.trans _ _ _ (hl i hi) (hl j hj) (hl k hk) h1 h2
end Go.AM

namespace Go.Proofs.X
open Go.AM Go
set_option maxRecDepth 100000
set_option maxHeartbeats 2000000
end Go.Proofs.X

/- A set is valid exactly if no bit behind its numbers is set. -/
namespace Go.AM
theorem validS_bits {N : Int} {W : List Int} (hW : okW W) (h0 : 0 ≤ N) (h1 : N ≤ 512) (hl : (W.length : Int) = wordsN N) (hb : ∀ i : Nat, N ≤ i → i < 64 * W.length → hasW W i = false) : validS N W = true := by
  have e : W = setW (setR N.toNat fun i => hasW W (i : Int)) (setR N.toNat fun i => hasW W (i : Int)).length := by
    have hn : ((setR N.toNat fun i => hasW W (i : Int)).length : Int) = N := by rw [setR_len]; omega
    have hlen : (setW (setR N.toNat fun i => hasW W (i : Int)) (setR N.toNat fun i => hasW W (i : Int)).length).length = W.length := by rw [setW_len', hn]; omega
    refine words_ext hW (setW_ok _) hlen.symm fun i hi => ?_
    rw [hasW_setW _ (by rw [hlen]; omega)]
    by_cases h : (i : Int) < N
    · rw [setR_get (by omega)]
    · rw [hb i (by omega) hi, Go.AM.getD_out (by rw [setR_len]; omega)]
  have hv := validS_setW (b := setR N.toNat fun i => hasW W (i : Int)) (by rw [setR_len]; omega)
  rw [← e] at hv
  rw [show N = ((setR N.toNat fun i => hasW W (i : Int)).length : Int) by rw [setR_len]; omega]
  exact hv
theorem validS_bit {N : Int} {W : List Int} (hW : okW W) (hv : validS N W = true) {i : Nat} (hi : N ≤ i) (hlt : i < 64 * W.length) : hasW W i = false := by
  obtain ⟨b, h1, h2⟩ := setW_of hW hv
  rw [h2, hasW_setW b (by rw [← h2]; omega)]
  rw [Go.AM.getD_out (by omega)]
end Go.AM

namespace Go.Proofs.X
open Go.AM Go
set_option maxRecDepth 100000
set_option maxHeartbeats 2000000
theorem wrap64 {i : Int} (h0 : 0 ≤ i) : IntKind.u64.wrap (i.tmod 64) = i.tmod 64 := by
  have : 0 ≤ i.tmod 64 ∧ i.tmod 64 < 64 := by rw [Int.tmod_eq_emod_of_nonneg h0]; omega
  simp [IntKind.wrap, IntKind.signed, IntKind.bits]; omega
theorem rbit_r (N : Int) (W : List Int) (i : Int) (hW : okW W) (h0 : 0 ≤ i) (h1 : i.tdiv 64 < W.length) (hl : W.length ≤ 9223372036854775807) : Reads Tryd.prog 70 false [.agg [.int .i64 N, .rsl 1 (words W)], .int .i64 i] (.bool (hasW W i)) := by
  have hd := div64_rng (i := i) (n := i + 1) h0 (by omega)
  have hgw := words_getD (l := W) (i := (i.tdiv 64).toNat) (by omega)
  have hb := bit_hasW hW h0
  have hwr := wrap64 h0
  refine Reads.body (rs := [.tmp 4]) Tryd.func70 rfl Tryd.ntmps70 rfl (by simp) ?_
  generalize hQr : retQ _ _ _ = Qr
  refine AW.seq fun K1 hK1 => ?_
  refine AW.regionK 0 (fun _ => none) [1, 2] [2] ?_
  simp only [go_sem, reduceIte, reduceCtorEq, zA, zM, zE, zL, zD, zS, zP, zB, zI, zR]
  repeat with_reducible refine cj ?_ ?_
  all_goals try first | omega
  refine hK1 _ _ _ ?_; clear hK1
  refine AW.seq fun K2 hK2 => ?_
  refine AW.regionK 0 (fun _ => none) [4] [] ?_
  simp only [go_sem, reduceIte, reduceCtorEq, zA, zM, zE, zL, zD, zS, zP, zB, zI, zR, hgw, hwr]
  repeat with_reducible refine cj ?_ ?_
  all_goals try first | omega
  refine hK2 _ _ _ ?_; clear hK2
  refine AW.ret ?_
  rw [← hQr]
  simp only [go_sem, reduceIte, reduceCtorEq, zA, zM, zE, zL, zD, zS, zP, zB, zI, zR]
  exact Wk.of_eq (by rw [hb])
theorem rvalid2_r (N : Int) (W : List Int) (hW : okW W) (hl : W.length ≤ 9223372036854775807) : Reads Tryd.prog 68 false [.agg [.int .i64 N, .rsl 1 (words W)]] (.bool (validS N W)) := by
  have hwe := wordsN_ref N
  have hbi := fun i h0 h1 => rbit_r N W i hW h0 h1 hl
  have hnv : ¬ (0 ≤ N ∧ N ≤ 512 ∧ (W.length : Int) = wordsN N) → validS N W = false := fun h => by
    cases e : validS N W
    · rfl
    · exact absurd (validS_sz e) h
  refine Reads.body (rs := [.tmp 2]) Tryd.func68 rfl Tryd.ntmps68 rfl (by simp) ?_
  generalize hQr : retQ _ _ _ = Qr
  refine AW.seq fun K1 hK1 => ?_
  refine AW.regionK 0 (fun _ => none) [1] [1] ?_
  simp only [go_sem, reduceIte, reduceCtorEq, zA, zM, zE, zL, zD, zS, zP, zB, zI, zR, hwe]
  repeat with_reducible refine cj ?_ ?_
  all_goals try first | omega
  refine hK1 _ _ _ ?_; clear hK1
  refine AW.seq fun K2 hK2 => ?_
  refine AW.seq fun K3 hK3 => ?_
  refine AW.regionK 0 (fun _ => none) [1, 21] [1] ?_
  simp only [go_sem, reduceIte, reduceCtorEq, zA, zM, zE, zL, zD, zS, zP, zB, zI, zR, hwe]
  repeat with_reducible refine cj ?_ ?_
  all_goals try first | ((intro hh; have hc := hh; simp only [Bool.or_eq_false_iff, decide_eq_false_iff_not] at hc; have hwn2 := wordsN_rng (n := N) (by omega); (repeat' apply And.intro) <;> first | exact hh | omega | decide)) | (intros; (repeat' apply And.intro) <;> first | assumption | ((intro hh; have hc := hh; simp only [Bool.or_eq_false_iff, decide_eq_false_iff_not] at hc; have hwn2 := wordsN_rng (n := N) (by omega); (repeat' apply And.intro) <;> first | exact hh | omega | decide))) | omega | (intro hgd; exact absurd hgd (by decide)) | rfl | (simp only [go_sem, reduceIte, reduceCtorEq, zA, zM, zE, zL, zD, zS, zP, zB, zI, zR, hwe]; done) | (intro _hgd; simp_all [go_sem]; done)
  refine hK3 _ _ _ ?_; clear hK3
  refine AW.cond rfl (by simp only [go_sem, reduceIte, reduceCtorEq, zA, zM, zE, zL, zD, zS, zP, zB, zI, zR]) ?_ ?_
  · intro hb
    try simp only [hB, decide_eq_true_eq, decide_eq_false_iff_not] at hb
    refine AW.seq fun K4 hK4 => ?_
    refine AW.regionK 0 (fun _ => none) [2] [] ?_
    simp only [go_sem, reduceIte, reduceCtorEq, zA, zM, zE, zL, zD, zS, zP, zB, zI, zR, hwe]
    repeat with_reducible refine cj ?_ ?_
    all_goals try first | omega
    refine hK4 _ _ _ ?_; clear hK4
    refine AW.ret ?_
    rw [← hQr]
    simp only [go_sem, reduceIte, reduceCtorEq, zA, zM, zE, zL, zD, zS, zP, zB, zI, zR, hwe]
    exact Wk.of_eq (by rw [hnv (by rintro ⟨a, b, c⟩; rcases hb with (hb | hb) | hb; omega; omega; exact hb c)])
  · intro hb
    try simp only [hB, decide_eq_true_eq, decide_eq_false_iff_not] at hb
    have hsz : 0 ≤ N ∧ N ≤ 512 ∧ (W.length : Int) = wordsN N := by refine ⟨?_, ?_, ?_⟩ <;> (obtain ⟨⟨a, b⟩, c⟩ := hb; omega)
    have hwn := wordsN_rng hsz.1
    refine AW.skip ?_
    refine hK2 _ _ _ ?_; clear hK2
    refine AW.seq fun K5 hK5 => ?_
    refine AW.seq fun K6 hK6 => ?_
    refine AW.regionK 0 (fun _ => none) [1, 3] [1] ?_
    simp only [go_sem, reduceIte, reduceCtorEq, zA, zM, zE, zL, zD, zS, zP, zB, zI, zR, hwe]
    repeat with_reducible refine cj ?_ ?_
    all_goals try first | omega
    refine hK6 _ _ _ ?_; clear hK6
    refine AW.block ?_
    refine AW.loopE (fun mm ee ss kk => ∃ (i : Nat) (g1 v1 : Nat), 64 * W.length - i = mm ∧ ee = [(1, .ptr ⟨1, g1, none⟩ 0 0), (3, .int .i64 (i : Nat))] ∧ ss = [(1, some ⟨g1, v1, 2, [[.int .i64 N, .rsl 1 (words W)]]⟩)] ∧ (N ≤ i ∧ i ≤ 1000000 ∧ ∀ q : Nat, N ≤ q → q < i → q < 64 * W.length → hasW W q = false)) ?_ ?_
    · refine ⟨_, N.toNat, ?_, ?_, rfl, ?henv, ?hstore, ?hst⟩
      case henv =>
        repeat' (first | rfl | refine env_cons ?_ ?_ | refine st_cons ?_ ?_ ?_ ?_ | refine int_eq ?_ | refine bool_eq ?_ | refine rsl_eq ?_ | refine osl_eq ?_ | refine sl_eq ?_ ?_ ?_ | refine ptr_eq ?_ ?_ ?_ | refine agg_eq ?_ | refine es_cons ?_ ?_ | refine row_cons ?_ ?_)
        all_goals (first | (simp; done) | omega | (simp; omega))
      case hstore =>
        repeat' (first | rfl | refine env_cons ?_ ?_ | refine st_cons ?_ ?_ ?_ ?_ | refine int_eq ?_ | refine bool_eq ?_ | refine rsl_eq ?_ | refine osl_eq ?_ | refine sl_eq ?_ ?_ ?_ | refine ptr_eq ?_ ?_ ?_ | refine agg_eq ?_ | refine es_cons ?_ ?_ | refine row_cons ?_ ?_)
        all_goals (first | (simp; done) | omega | (simp; omega))
      case hst =>
        exact ⟨by omega, by omega, fun q h1 h2 => by omega⟩
    rintro mm ee ss kk ⟨i, g1, v1, rfl, rfl, rfl, hI⟩
    generalize hQl1 : thenQ _ _ = Ql1
    obtain ⟨hNi, hi6, hall⟩ := hI
    refine AW.seq fun K7 hK7 => ?_
    refine AW.seq fun K8 hK8 => ?_
    refine AW.regionK 0 (fun _ => none) [1, 3, 29] [1] ?_
    simp only [go_sem, reduceIte, reduceCtorEq, zA, zM, zE, zL, zD, zS, zP, zB, zI, zR, hwe]
    repeat with_reducible refine cj ?_ ?_
    all_goals try first | omega
    refine hK8 _ _ _ ?_; clear hK8
    refine AW.cond rfl (by simp only [go_sem, reduceIte, reduceCtorEq, zA, zM, zE, zL, zD, zS, zP, zB, zI, zR]) ?_ ?_
    · intro hb
      try simp only [hB, decide_eq_true_eq, decide_eq_false_iff_not] at hb
      have hbr := hbi (i : Nat) (by omega) (by rw [Int.tdiv_eq_ediv_of_nonneg (by omega)]; omega)
      refine AW.skip ?_
      refine hK7 _ _ _ ?_; clear hK7
      refine AW.seq fun K9 hK9 => ?_
      refine AW.block ?_
      refine AW.seq fun K10 hK10 => ?_
      refine AW.regionK 0 (fun ii => if ii = 2 then some (.reads false (.bool (hasW W (i : Nat)))) else none) [1, 3, 34] [1] ?_
      simp only [go_sem, reduceIte, reduceCtorEq, zA, zM, zE, zL, zD, zS, zP, zB, zI, zR, hwe]
      repeat with_reducible refine cj ?_ ?_
      all_goals try first | (exact hbr) | omega | exact ent (by kernel_rfl)
      refine hK10 _ _ _ ?_; clear hK10
      refine AW.cond rfl (by simp only [go_sem, reduceIte, reduceCtorEq, zA, zM, zE, zL, zD, zS, zP, zB, zI, zR]) ?_ ?_
      · intro hb
        try simp only [hB, decide_eq_true_eq, decide_eq_false_iff_not] at hb
        refine AW.seq fun K11 hK11 => ?_
        refine AW.regionK 0 (fun _ => none) [2] [] ?_
        simp only [go_sem, reduceIte, reduceCtorEq, zA, zM, zE, zL, zD, zS, zP, zB, zI, zR, hwe]
        repeat with_reducible refine cj ?_ ?_
        all_goals try first | omega
        refine hK11 _ _ _ ?_; clear hK11
        refine AW.ret ?_
        rw [← hQl1]
        rw [← hQr]
        simp only [go_sem, reduceIte, reduceCtorEq, zA, zM, zE, zL, zD, zS, zP, zB, zI, zR, hwe]
        exact Wk.of_eq (by cases e : validS N W; rfl; rw [validS_bit hW e hNi (by omega)] at hb; cases hb)
      · intro hb
        try simp only [hB, decide_eq_true_eq, decide_eq_false_iff_not] at hb
        refine AW.skip ?_
        refine hK9 _ _ _ ?_; clear hK9
        refine AW.regionK 0 (fun _ => none) [1, 3] [1] ?_
        simp only [go_sem, reduceIte, reduceCtorEq, zA, zM, zE, zL, zD, zS, zP, zB, zI, zR, hwe]
        repeat with_reducible refine cj ?_ ?_
        all_goals try first | omega
        rw [← hQl1]
        change Exists _
        refine ⟨_, ?hm, i + 1, ?_, ?_, rfl, ?henv, ?hstore, ?hst⟩
        case henv =>
          repeat' (first | rfl | refine env_cons ?_ ?_ | refine st_cons ?_ ?_ ?_ ?_ | refine int_eq ?_ | refine bool_eq ?_ | refine rsl_eq ?_ | refine osl_eq ?_ | refine sl_eq ?_ ?_ ?_ | refine ptr_eq ?_ ?_ ?_ | refine agg_eq ?_ | refine es_cons ?_ ?_ | refine row_cons ?_ ?_)
          all_goals (first | (simp; done) | omega | (simp; omega))
        case hstore =>
          repeat' (first | rfl | refine env_cons ?_ ?_ | refine st_cons ?_ ?_ ?_ ?_ | refine int_eq ?_ | refine bool_eq ?_ | refine rsl_eq ?_ | refine osl_eq ?_ | refine sl_eq ?_ ?_ ?_ | refine ptr_eq ?_ ?_ ?_ | refine agg_eq ?_ | refine es_cons ?_ ?_ | refine row_cons ?_ ?_)
          all_goals (first | (simp; done) | omega | (simp; omega))
        case hst =>
          refine ⟨by omega, by omega, fun q h1 h2 h3 => ?_⟩
          by_cases e : q = i
          · rw [e]; exact hb
          · exact hall q h1 (by omega) h3
        case hm => omega
    · intro hb
      try simp only [hB, decide_eq_true_eq, decide_eq_false_iff_not] at hb
      refine AW.keep [] [] ?_
      try simp only [go_sem, reduceIte, reduceCtorEq, zA, zM, zE, zL, zD, zS, zP, zB, zI, zR]
      refine AW.exit ?_
      rw [← hQl1]
      refine hK5 _ _ _ ?_; clear hK5
      refine AW.seq fun K12 hK12 => ?_
      refine AW.regionK 0 (fun _ => none) [2] [] ?_
      simp only [go_sem, reduceIte, reduceCtorEq, zA, zM, zE, zL, zD, zS, zP, zB, zI, zR, hwe]
      repeat with_reducible refine cj ?_ ?_
      all_goals try first | omega
      refine hK12 _ _ _ ?_; clear hK12
      refine AW.ret ?_
      rw [← hQr]
      simp only [go_sem, reduceIte, reduceCtorEq, zA, zM, zE, zL, zD, zS, zP, zB, zI, zR, hwe]
      exact Wk.of_eq (by rw [validS_bits hW hsz.1 hsz.2.1 hsz.2.2 fun q h1 h2 => hall q h1 (by omega) h2])
theorem rvrow_r (b : List Bool) (hb : b.length ≤ 512) : Reads Tryd.prog 68 false [.agg (rowB b)] (.bool true) := by
  have h := rvalid2_r b.length (setW b b.length) (setW_ok b) (by have := setB_len hb; omega)
  rw [validS_setW hb] at h
  exact h
theorem rbrow_r (b : List Bool) (hb : b.length ≤ 512) (i : Nat) (hi : i < b.length) : Reads Tryd.prog 70 false [.agg (rowB b), .int .i64 (i : Nat)] (.bool (b.getD i false)) := by
  have hd := div64_rng (i := (i : Int)) (n := b.length) (by omega) (by omega)
  have h := rbit_r b.length (setW b b.length) (i : Nat) (setW_ok b) (by omega) (by rw [setW_len']; have := wordsN_rng (n := (b.length : Int)) (by omega); omega) (by have := setB_len hb; omega)
  rw [hasW_row hi] at h
  exact h
theorem rcomp_r (a b : List Bool) (ha : a.length ≤ 512) (hl : b.length = a.length) : Reads Tryd.prog 69 false [.agg (rowB a), .agg (rowB b)] (.bool true) := by
  have h1 := rvrow_r a ha
  have h2 := rvrow_r b (by omega)
  unfold rowB at *
  refine Reads.body (rs := [.tmp 4]) Tryd.func69 rfl Tryd.ntmps69 rfl (by simp) ?_
  generalize hQr : retQ _ _ _ = Qr
  refine AW.seq fun K1 hK1 => ?_
  refine AW.regionK 0 (fun _ => none) [2, 3] [2, 3] ?_
  simp only [go_sem, reduceIte, reduceCtorEq, zA, zM, zE, zL, zD, zS, zP, zB, zI, zR]
  repeat with_reducible refine cj ?_ ?_
  all_goals try first | omega
  refine hK1 _ _ _ ?_; clear hK1
  refine AW.seq fun K2 hK2 => ?_
  refine AW.regionK 0 (fun ii => if ii = 1 then some (.reads false (.bool true)) else if ii = 4 then some (.reads false (.bool true)) else none) [4] [] ?_
  simp only [go_sem, reduceIte, reduceCtorEq, zA, zM, zE, zL, zD, zS, zP, zB, zI, zR]
  repeat with_reducible refine cj ?_ ?_
  all_goals try first | (first | exact h1 | (intro hh; exact ⟨hh, h2⟩)) | (intros; (repeat' apply And.intro) <;> first | assumption | (first | exact h1 | (intro hh; exact ⟨hh, h2⟩))) | omega | exact ent (by kernel_rfl) | (intro hgd; exact absurd hgd (by decide)) | rfl | (simp only [go_sem, reduceIte, reduceCtorEq, zA, zM, zE, zL, zD, zS, zP, zB, zI, zR]; done) | (intro _hgd; simp_all [go_sem]; done)
  refine hK2 _ _ _ ?_; clear hK2
  refine AW.ret ?_
  rw [← hQr]
  simp only [go_sem, reduceIte, reduceCtorEq, zA, zM, zE, zL, zD, zS, zP, zB, zI, zR]
  exact Wk.of_eq (by simp [hl])
theorem rsub_r (a b : List Bool) (ha : a.length ≤ 512) (hl : b.length = a.length) : Reads Tryd.prog 45 false [.agg (rowB a), .agg (rowB b)] (.bool (subB a b)) := by
  have hc := rcomp_r a b ha hl
  have hba := rbrow_r a ha
  have hbb := rbrow_r b (by omega)
  have hsd : subB a b = (List.range a.length).all fun i => !a.getD i false || b.getD i false := rfl
  unfold rowB at *
  refine Reads.body (rs := [.tmp 4]) Tryd.func45 rfl Tryd.ntmps45 rfl (by simp) ?_
  generalize hQr : retQ _ _ _ = Qr
  refine AW.seq fun K1 hK1 => ?_
  refine AW.regionK 0 (fun _ => none) [2, 3] [2, 3] ?_
  simp only [go_sem, reduceIte, reduceCtorEq, zA, zM, zE, zL, zD, zS, zP, zB, zI, zR]
  repeat with_reducible refine cj ?_ ?_
  all_goals try first | omega
  refine hK1 _ _ _ ?_; clear hK1
  refine AW.seq fun K2 hK2 => ?_
  refine AW.seq fun K3 hK3 => ?_
  refine AW.regionK 0 (fun ii => if ii = 2 then some (.reads false (.bool true)) else none) [2, 3, 9] [2, 3] ?_
  simp only [go_sem, reduceIte, reduceCtorEq, zA, zM, zE, zL, zD, zS, zP, zB, zI, zR]
  repeat with_reducible refine cj ?_ ?_
  all_goals try first | (exact hc) | omega | exact ent (by kernel_rfl)
  refine hK3 _ _ _ ?_; clear hK3
  refine AW.cond rfl (by simp only [go_sem, reduceIte, reduceCtorEq, zA, zM, zE, zL, zD, zS, zP, zB, zI, zR]) ?_ ?_
  · intro hb
    try simp only [hB, decide_eq_true_eq, decide_eq_false_iff_not] at hb
    simp at hb
  · intro hb
    try simp only [hB, decide_eq_true_eq, decide_eq_false_iff_not] at hb
    refine AW.skip ?_
    refine hK2 _ _ _ ?_; clear hK2
    refine AW.seq fun K4 hK4 => ?_
    refine AW.seq fun K5 hK5 => ?_
    refine AW.regionK 0 (fun _ => none) [2, 3, 5] [2, 3] ?_
    simp only [go_sem, reduceIte, reduceCtorEq, zA, zM, zE, zL, zD, zS, zP, zB, zI, zR]
    repeat with_reducible refine cj ?_ ?_
    all_goals try first | omega
    refine hK5 _ _ _ ?_; clear hK5
    refine AW.block ?_
    refine AW.loopE (fun mm ee ss kk => ∃ (i g2 v2 g3 v3 : Nat), a.length - i = mm ∧ ee = [(2, .ptr ⟨2, g2, none⟩ 0 0), (3, .ptr ⟨3, g3, none⟩ 0 0), (5, .int .i64 (i : Nat))] ∧ ss = [(2, some ⟨g2, v2, 2, [[.int .i64 a.length, .rsl 1 (words (setW a a.length))]]⟩), (3, some ⟨g3, v3, 2, [[.int .i64 b.length, .rsl 1 (words (setW b b.length))]]⟩)] ∧ (i ≤ a.length ∧ ((List.range i).all fun i => !a.getD i false || b.getD i false) = true)) ?_ ?_
    · refine ⟨_, 0, ?_, ?_, ?_, ?_, rfl, ?henv, ?hstore, ?hst⟩
      case henv =>
        repeat' (first | rfl | refine env_cons ?_ ?_ | refine st_cons ?_ ?_ ?_ ?_ | refine int_eq ?_ | refine bool_eq ?_ | refine rsl_eq ?_ | refine osl_eq ?_ | refine sl_eq ?_ ?_ ?_ | refine ptr_eq ?_ ?_ ?_ | refine agg_eq ?_ | refine es_cons ?_ ?_ | refine row_cons ?_ ?_)
        all_goals (first | (simp; done) | omega | (simp; omega))
      case hstore =>
        repeat' (first | rfl | refine env_cons ?_ ?_ | refine st_cons ?_ ?_ ?_ ?_ | refine int_eq ?_ | refine bool_eq ?_ | refine rsl_eq ?_ | refine osl_eq ?_ | refine sl_eq ?_ ?_ ?_ | refine ptr_eq ?_ ?_ ?_ | refine agg_eq ?_ | refine es_cons ?_ ?_ | refine row_cons ?_ ?_)
        all_goals (first | (simp; done) | omega | (simp; omega))
      case hst =>
        exact ⟨Nat.zero_le _, rfl⟩
    rintro mm ee ss kk ⟨i, g2, v2, g3, v3, rfl, rfl, rfl, hI⟩
    generalize hQl1 : thenQ _ _ = Ql1
    obtain ⟨hi, hall⟩ := hI
    refine AW.seq fun K6 hK6 => ?_
    refine AW.seq fun K7 hK7 => ?_
    refine AW.regionK 0 (fun _ => none) [2, 3, 5, 13] [2, 3] ?_
    simp only [go_sem, reduceIte, reduceCtorEq, zA, zM, zE, zL, zD, zS, zP, zB, zI, zR]
    repeat with_reducible refine cj ?_ ?_
    all_goals try first | omega
    refine hK7 _ _ _ ?_; clear hK7
    refine AW.cond rfl (by simp only [go_sem, reduceIte, reduceCtorEq, zA, zM, zE, zL, zD, zS, zP, zB, zI, zR]) ?_ ?_
    · intro hb
      try simp only [hB, decide_eq_true_eq, decide_eq_false_iff_not] at hb
      have h1 := hba i (by omega)
      have h2 := hbb i (by omega)
      have hrs := range_all_succ (p := fun i => !a.getD i false || b.getD i false) i
      rw [hall, Bool.true_and] at hrs
      have hrf := range_all_false (p := fun i => !a.getD i false || b.getD i false) (j := i) (m := a.length) (by omega)
      refine AW.skip ?_
      refine hK6 _ _ _ ?_; clear hK6
      refine AW.seq fun K8 hK8 => ?_
      refine AW.block ?_
      refine AW.seq fun K9 hK9 => ?_
      refine AW.regionK 0 (fun ii => if ii = 2 then some (.reads false (.bool (a.getD i false))) else if ii = 6 then some (.reads false (.bool (b.getD i false))) else none) [2, 3, 5, 24] [2, 3] ?_
      simp only [go_sem, reduceIte, reduceCtorEq, zA, zM, zE, zL, zD, zS, zP, zB, zI, zR]
      repeat with_reducible refine cj ?_ ?_
      all_goals try first | (first | exact h1 | (intro hh; exact ⟨hh, h2⟩)) | (intros; (repeat' apply And.intro) <;> first | assumption | (first | exact h1 | (intro hh; exact ⟨hh, h2⟩))) | omega | exact ent (by kernel_rfl) | (intro hgd; exact absurd hgd (by decide)) | rfl | (simp only [go_sem, reduceIte, reduceCtorEq, zA, zM, zE, zL, zD, zS, zP, zB, zI, zR]; done) | (intro _hgd; simp_all [go_sem]; done)
      refine hK9 _ _ _ ?_; clear hK9
      refine AW.cond rfl (by simp only [go_sem, reduceIte, reduceCtorEq, zA, zM, zE, zL, zD, zS, zP, zB, zI, zR]) ?_ ?_
      · intro hb
        try simp only [hB, decide_eq_true_eq, decide_eq_false_iff_not] at hb
        refine AW.seq fun K10 hK10 => ?_
        refine AW.regionK 0 (fun _ => none) [4] [] ?_
        simp only [go_sem, reduceIte, reduceCtorEq, zA, zM, zE, zL, zD, zS, zP, zB, zI, zR]
        repeat with_reducible refine cj ?_ ?_
        all_goals try first | omega
        refine hK10 _ _ _ ?_; clear hK10
        refine AW.ret ?_
        rw [← hQl1]
        rw [← hQr]
        simp only [go_sem, reduceIte, reduceCtorEq, zA, zM, zE, zL, zD, zS, zP, zB, zI, zR]
        exact Wk.of_eq (by rw [hsd, hrf (by rw [hb.1, hb.2]; rfl)])
      · intro hb
        try simp only [hB, decide_eq_true_eq, decide_eq_false_iff_not] at hb
        refine AW.skip ?_
        refine hK8 _ _ _ ?_; clear hK8
        refine AW.regionK 0 (fun _ => none) [2, 3, 5] [2, 3] ?_
        simp only [go_sem, reduceIte, reduceCtorEq, zA, zM, zE, zL, zD, zS, zP, zB, zI, zR]
        repeat with_reducible refine cj ?_ ?_
        all_goals try first | omega
        rw [← hQl1]
        change Exists _
        refine ⟨_, ?hm, i + 1, ?_, ?_, ?_, ?_, rfl, ?henv, ?hstore, ?hst⟩
        case henv =>
          repeat' (first | rfl | refine env_cons ?_ ?_ | refine st_cons ?_ ?_ ?_ ?_ | refine int_eq ?_ | refine bool_eq ?_ | refine rsl_eq ?_ | refine osl_eq ?_ | refine sl_eq ?_ ?_ ?_ | refine ptr_eq ?_ ?_ ?_ | refine agg_eq ?_ | refine es_cons ?_ ?_ | refine row_cons ?_ ?_)
          all_goals (first | (simp; done) | omega | (simp; omega))
        case hstore =>
          repeat' (first | rfl | refine env_cons ?_ ?_ | refine st_cons ?_ ?_ ?_ ?_ | refine int_eq ?_ | refine bool_eq ?_ | refine rsl_eq ?_ | refine osl_eq ?_ | refine sl_eq ?_ ?_ ?_ | refine ptr_eq ?_ ?_ ?_ | refine agg_eq ?_ | refine es_cons ?_ ?_ | refine row_cons ?_ ?_)
          all_goals (first | (simp; done) | omega | (simp; omega))
        case hst =>
          exact ⟨by omega, by rw [hrs]; rcases hb with hb | hb <;> rw [hb] <;> simp⟩
        case hm => omega
    · intro hb
      try simp only [hB, decide_eq_true_eq, decide_eq_false_iff_not] at hb
      refine AW.keep [] [] ?_
      try simp only [go_sem, reduceIte, reduceCtorEq, zA, zM, zE, zL, zD, zS, zP, zB, zI, zR]
      refine AW.exit ?_
      rw [← hQl1]
      refine hK4 _ _ _ ?_; clear hK4
      refine AW.seq fun K11 hK11 => ?_
      refine AW.regionK 0 (fun _ => none) [4] [] ?_
      simp only [go_sem, reduceIte, reduceCtorEq, zA, zM, zE, zL, zD, zS, zP, zB, zI, zR]
      repeat with_reducible refine cj ?_ ?_
      all_goals try first | omega
      refine hK11 _ _ _ ?_; clear hK11
      refine AW.ret ?_
      rw [← hQr]
      simp only [go_sem, reduceIte, reduceCtorEq, zA, zM, zE, zL, zD, zS, zP, zB, zI, zR]
      have hi2 : i = a.length := by omega
      subst hi2
      exact Wk.of_eq (by rw [hsd, hall])
end Go.Proofs.X

/- A contract that makes memory answers as one that reads. -/
namespace Go.AM
theorem Upd.reads {P : Program} {f : FuncId} {args : List AV} {res : Nat → AV} {s1 : Nat → Store} {r : AV} (h : Upd P f [] args res s1) (hr : Wk (vwF (s1 0) 5 (res 0)) r) : Reads P f true args r := by
  intro w F us hF hgl hl hrel
  have hr' : ∀ i, i < args.length → Rel ⟨fun _ => none, [], clk 0, w, fun _ => False⟩ (args.getD i .any) (us.getD i undef) := fun i hi => .pure _ _ ((hrel i hi).mono fun b hb => ⟨⟨hb.1, fun ⟨π, y, base, h1, _⟩ => by simp [pcontent, sget] at h1, fun h => h⟩, rfl⟩)
  have hst : StOk ⟨fun _ => none, [], clk 0, w, fun _ => False⟩ := start_ok (fun _ h => h.elim) (hgl.mono fun b hb => ⟨⟨hb.1, fun h => h⟩, rfl⟩)
  refine (h (clk 0) 0 0 (fun _ => none) w (fun _ => False) us (fun g hg => hg) (fun hg => Nat.lt_irrefl _ hg) (fun hg => absurd hg (Nat.not_lt_zero _)) hst hl hr').mono fun e w' ⟨u, ρ', h1, h2, h3⟩ => ⟨u, h1, ?_, ?_⟩
  · exact ⟨h2.ext.os, h2.ext.tape, h2.ext.output, h2.ext.size, fun b hb _ => h2.ext.block b hb fun ⟨π, y, base, e1, _⟩ => by simp [pcontent, sget] at e1⟩
  · refine hr _ _ _ (vwF_sound h2.ok (fun b hb => ⟨?_, fun hlt => ?_⟩) 5 (res 0) u h3)
    · obtain ⟨π, y, base, k1, k2⟩ := hb
      exact h2.ok.live_lt k1 k2
    · simp only [if_true] at hlt
      exact (h2.le.imm b ⟨hlt, fun ⟨π, y, base, e1, _⟩ => by simp [pcontent, sget] at e1, fun h => h⟩).1.2.1 hb
/-- A contract that reads, at roots that are given away. -/
theorem Reads.upd {P : Program} {f : FuncId} {s0 : Store} {args args' : List AV} {r : AV} (h : Reads P f true args' r) (ha : args.map (vw s0 5) = args') : Upd P f s0 args (fun _ => r) (fun _ => []) := by
  subst ha
  intro c B k ρ w F us _ _ _ hst hl hrel
  have hargs : ∀ i, i < (args.map (vw s0 5)).length → RelP (immF w fun _ => False) w ((args.map (vw s0 5)).getD i .any) (us.getD i undef) := fun i hi => by
    rw [List.length_map] at hi
    rw [getD_map_vw (vw s0 5) _ _ .any _ hi]
    exact vw_sound hst (fun b hb _ => ⟨hb, fun e => e⟩) 5 _ _ (hrel i hi)
  refine (h w (fun _ => False) us (fun _ h => h.elim) (hst.gl.mono fun b hb => ⟨⟨hb.1, fun e => e⟩, rfl⟩) (by simpa using hl) hargs).mono fun e w' ⟨u, h1, h2, h3⟩ => ⟨u, ρ, h1, ?_, ?_⟩
  · exact hst.goes_grow (s' := []) (fun id R e => by simp [sget] at e) (fun g hg => .inl hg) h2
  · refine .pure _ _ (h3.mono fun b hb => ⟨⟨hb.1, fun ⟨π, y, base, e1, _⟩ => by simp [pcontent, sget] at e1, fun hf => ?_⟩, rfl⟩)
    simp only [if_true] at hb
    exact hb.2 (hst.apart b hf).1
end Go.AM

/- A row that takes another one bit by bit, in a table. -/
namespace Go.AM
theorem set_same {α : Type} (l : List α) (i : Nat) (d : α) : l.set i (l.getD i d) = l := by
  refine List.ext_getElem? fun k => ?_
  rw [List.getElem?_set]
  split
  · rename_i h; subst h
    split
    · rename_i h2; simp [List.getD_eq_getElem?_getD, h2]
    · rename_i h2; rw [List.getElem?_eq_none (by omega)]
  · rfl
section
variable {n : Nat} {U : List (List Bool)} (h : Sq n U) {i k : Nat} (hi : i < n) (hk : k < n)
include h hi hk
end
end Go.AM

namespace Go.Proofs.X
open Go.AM Go
set_option maxRecDepth 100000
set_option maxHeartbeats 2000000
theorem rless_r (n : Nat) (t : List (List Bool)) (hs : Sq n t) (hn : n ≤ 512) (i j : Nat) (hi : i < n) (hj : j < n) : Reads Tryd.prog 44 false [relB t, .int .i64 i, .int .i64 j] (.bool (atT t i j)) := by
  have hrl := hs.rowLen hi
  have hgt := tabR_get (t := t) (i := i) (by rw [hs.len]; exact hi)
  have htl := tabR_len t
  have hlen := hs.len
  have hat : atT t i j = (rowT t i).getD j false := rfl
  generalize hb : rowT t i = b at *
  have hwl := setW_len' b
  have hd := div64_rng (i := (j : Int)) (n := b.length) (by omega) (by omega)
  have hwn := wordsN_rng (n := (b.length : Int)) (by omega)
  have hgw := words_getD (l := setW b b.length) (i := ((j : Int).tdiv 64).toNat) (by omega)
  have hbt := bit_hasW (setW_ok b) (i := (j : Int)) (by omega)
  have hwr := wrap64 (i := (j : Int)) (by omega)
  rw [hasW_row (by omega), ← hat] at hbt
  unfold relB
  refine Reads.body (rs := [.tmp 6]) Tryd.func44 rfl Tryd.ntmps44 rfl (by simp) ?_
  generalize hQr : retQ _ _ _ = Qr
  refine AW.seq fun K1 hK1 => ?_
  refine AW.regionK 0 (fun _ => none) [1, 2, 3] [3] ?_
  simp only [go_sem, reduceIte, reduceCtorEq, zA, zM, zE, zL, zD, zS, zP, zB, zI, zR]
  repeat with_reducible refine cj ?_ ?_
  all_goals try first | omega
  refine hK1 _ _ _ ?_; clear hK1
  refine AW.seq fun K2 hK2 => ?_
  refine AW.regionK 0 (fun _ => none) [6] [] ?_
  simp only [go_sem, reduceIte, reduceCtorEq, zA, zM, zE, zL, zD, zS, zP, zB, zI, zR, hgt, rowB, hgw, hwr]
  repeat with_reducible refine cj ?_ ?_
  all_goals try first | omega
  refine hK2 _ _ _ ?_; clear hK2
  refine AW.ret ?_
  rw [← hQr]
  simp only [go_sem, reduceIte, reduceCtorEq, zA, zM, zE, zL, zD, zS, zP, zB, zI, zR]
  exact Wk.of_eq (by rw [hbt])
theorem rformed_r (rs : List USet) (hl : longR rs) (hok : ∀ x ∈ rs, okW x.W) : Reads Tryd.prog 43 false [relV rs] (.bool (validR rs)) := by
  have hl1 := hl.1
  have hvx := fun x hx => rvalid2_r (USet.N x) x.W (hok x hx) (hl.2 x hx)
  have hva := validR_any rs
  unfold relV
  refine Reads.body (rs := [.tmp 2]) Tryd.func43 rfl Tryd.ntmps43 rfl (by simp) ?_
  generalize hQr : retQ _ _ _ = Qr
  refine AW.seq fun K1 hK1 => ?_
  refine AW.regionK 0 (fun _ => none) [1] [1] ?_
  simp only [go_sem, reduceIte, reduceCtorEq, zA, zM, zE, zL, zD, zS, zP, zB, zI, zR]
  repeat with_reducible refine cj ?_ ?_
  all_goals try first | omega
  refine hK1 _ _ _ ?_; clear hK1
  refine AW.seq fun K2 hK2 => ?_
  refine AW.regionK 0 (fun _ => none) [1, 3] [1] ?_
  simp only [go_sem, reduceIte, reduceCtorEq, zA, zM, zE, zL, zD, zS, zP, zB, zI, zR]
  repeat with_reducible refine cj ?_ ?_
  all_goals try first | omega
  refine hK2 _ _ _ ?_; clear hK2
  refine AW.seq fun K3 hK3 => ?_
  refine AW.seq fun K4 hK4 => ?_
  refine AW.regionK 0 (fun _ => none) [1, 3, 9] [1] ?_
  simp only [go_sem, reduceIte, reduceCtorEq, zA, zM, zE, zL, zD, zS, zP, zB, zI, zR]
  repeat with_reducible refine cj ?_ ?_
  all_goals try first | omega
  refine hK4 _ _ _ ?_; clear hK4
  refine AW.cond rfl (by simp only [go_sem, reduceIte, reduceCtorEq, zA, zM, zE, zL, zD, zS, zP, zB, zI, zR]) ?_ ?_
  · intro hb
    try simp only [hB, decide_eq_true_eq, decide_eq_false_iff_not] at hb
    refine AW.seq fun K5 hK5 => ?_
    refine AW.regionK 0 (fun _ => none) [2] [] ?_
    simp only [go_sem, reduceIte, reduceCtorEq, zA, zM, zE, zL, zD, zS, zP, zB, zI, zR]
    repeat with_reducible refine cj ?_ ?_
    all_goals try first | omega
    refine hK5 _ _ _ ?_; clear hK5
    refine AW.ret ?_
    rw [← hQr]
    simp only [go_sem, reduceIte, reduceCtorEq, zA, zM, zE, zL, zD, zS, zP, zB, zI, zR]
    exact Wk.of_eq (by rw [hva, decide_eq_false (by omega)]; simp)
  · intro hb
    try simp only [hB, decide_eq_true_eq, decide_eq_false_iff_not] at hb
    have h512 : rs.length ≤ 512 := by omega
    refine AW.skip ?_
    refine hK3 _ _ _ ?_; clear hK3
    refine AW.seq fun K6 hK6 => ?_
    refine AW.seq fun K7 hK7 => ?_
    refine AW.regionK 0 (fun _ => none) [1, 3, 4] [1] ?_
    simp only [go_sem, reduceIte, reduceCtorEq, zA, zM, zE, zL, zD, zS, zP, zB, zI, zR]
    repeat with_reducible refine cj ?_ ?_
    all_goals try first | omega
    refine hK7 _ _ _ ?_; clear hK7
    refine AW.block ?_
    refine AW.loopE (fun mm ee ss kk => ∃ (i g1 v1 : Nat), rs.length - i = mm ∧ ee = [(1, .ptr ⟨1, g1, none⟩ 0 0), (3, .int .i64 rs.length), (4, .int .i64 (i : Nat))] ∧ ss = [(1, some ⟨g1, v1, 1, [[.rsl 2 (rs.map rowV)]]⟩)] ∧ (i ≤ rs.length ∧ (rs.take i).any (badRow rs.length) = false)) ?_ ?_
    · refine ⟨_, 0, ?_, ?_, rfl, ?henv, ?hstore, ?hst⟩
      case henv =>
        repeat' (first | rfl | refine env_cons ?_ ?_ | refine st_cons ?_ ?_ ?_ ?_ | refine int_eq ?_ | refine bool_eq ?_ | refine rsl_eq ?_ | refine osl_eq ?_ | refine sl_eq ?_ ?_ ?_ | refine ptr_eq ?_ ?_ ?_ | refine agg_eq ?_ | refine es_cons ?_ ?_ | refine row_cons ?_ ?_)
        all_goals (first | (simp; done) | omega | (simp; omega))
      case hstore =>
        repeat' (first | rfl | refine env_cons ?_ ?_ | refine st_cons ?_ ?_ ?_ ?_ | refine int_eq ?_ | refine bool_eq ?_ | refine rsl_eq ?_ | refine osl_eq ?_ | refine sl_eq ?_ ?_ ?_ | refine ptr_eq ?_ ?_ ?_ | refine agg_eq ?_ | refine es_cons ?_ ?_ | refine row_cons ?_ ?_)
        all_goals (first | (simp; done) | omega | (simp; omega))
      case hst =>
        exact ⟨Nat.zero_le _, rfl⟩
    rintro mm ee ss kk ⟨i, g1, v1, rfl, rfl, rfl, hI⟩
    generalize hQl1 : thenQ _ _ = Ql1
    obtain ⟨hi, hall⟩ := hI
    refine AW.seq fun K8 hK8 => ?_
    refine AW.seq fun K9 hK9 => ?_
    refine AW.regionK 0 (fun _ => none) [1, 3, 4, 12] [1] ?_
    simp only [go_sem, reduceIte, reduceCtorEq, zA, zM, zE, zL, zD, zS, zP, zB, zI, zR]
    repeat with_reducible refine cj ?_ ?_
    all_goals try first | omega
    refine hK9 _ _ _ ?_; clear hK9
    refine AW.cond rfl (by simp only [go_sem, reduceIte, reduceCtorEq, zA, zM, zE, zL, zD, zS, zP, zB, zI, zR]) ?_ ?_
    · intro hb
      try simp only [hB, decide_eq_true_eq, decide_eq_false_iff_not] at hb
      obtain ⟨x, hx⟩ := getI (l := rs) (j := i) (by omega)
      have hgx := getV (f := rowV) hx
      have hats := any_take_succ (p := badRow rs.length) hx
      have hbx := hvx x (List.mem_of_getElem? hx)
      have hbd : badRow rs.length x = !(decide (x.N = rs.length) && validS x.N x.W) := rfl
      refine AW.skip ?_
      refine hK8 _ _ _ ?_; clear hK8
      refine AW.seq fun K10 hK10 => ?_
      refine AW.block ?_
      refine AW.seq fun K11 hK11 => ?_
      refine AW.regionK 0 (fun ii => if ii = 14 then some (.reads false (.bool (validS x.N x.W))) else none) [1, 3, 4, 31] [1] ?_
      simp only [go_sem, reduceIte, reduceCtorEq, zA, zM, zE, zL, zD, zS, zP, zB, zI, zR, hgx, rowV]
      repeat with_reducible refine cj ?_ ?_
      all_goals try first | ((intro hh; exact ⟨hh, hbx⟩)) | (intros; (repeat' apply And.intro) <;> first | assumption | ((intro hh; exact ⟨hh, hbx⟩))) | omega | exact ent (by kernel_rfl) | (intro hgd; exact absurd hgd (by decide)) | rfl | (simp only [go_sem, reduceIte, reduceCtorEq, zA, zM, zE, zL, zD, zS, zP, zB, zI, zR, hgx, rowV]; done) | (intro _hgd; simp_all [go_sem]; done)
      refine hK11 _ _ _ ?_; clear hK11
      refine AW.cond rfl (by simp only [go_sem, reduceIte, reduceCtorEq, zA, zM, zE, zL, zD, zS, zP, zB, zI, zR]) ?_ ?_
      · intro hb
        try simp only [hB, decide_eq_true_eq, decide_eq_false_iff_not] at hb
        refine AW.seq fun K12 hK12 => ?_
        refine AW.regionK 0 (fun _ => none) [2] [] ?_
        simp only [go_sem, reduceIte, reduceCtorEq, zA, zM, zE, zL, zD, zS, zP, zB, zI, zR]
        repeat with_reducible refine cj ?_ ?_
        all_goals try first | omega
        refine hK12 _ _ _ ?_; clear hK12
        refine AW.ret ?_
        rw [← hQl1]
        rw [← hQr]
        simp only [go_sem, reduceIte, reduceCtorEq, zA, zM, zE, zL, zD, zS, zP, zB, zI, zR]
        exact Wk.of_eq (by rw [hva, List.any_eq_true.2 ⟨x, List.mem_of_getElem? hx, by rw [hbd]; rcases hb with hb | hb; simp [hb]; rw [hb]; simp⟩]; simp)
      · intro hb
        try simp only [hB, decide_eq_true_eq, decide_eq_false_iff_not] at hb
        refine AW.skip ?_
        refine hK10 _ _ _ ?_; clear hK10
        refine AW.regionK 0 (fun _ => none) [1, 3, 4] [1] ?_
        simp only [go_sem, reduceIte, reduceCtorEq, zA, zM, zE, zL, zD, zS, zP, zB, zI, zR]
        repeat with_reducible refine cj ?_ ?_
        all_goals try first | omega
        rw [← hQl1]
        change Exists _
        refine ⟨_, ?hm, i + 1, ?_, ?_, rfl, ?henv, ?hstore, ?hst⟩
        case henv =>
          repeat' (first | rfl | refine env_cons ?_ ?_ | refine st_cons ?_ ?_ ?_ ?_ | refine int_eq ?_ | refine bool_eq ?_ | refine rsl_eq ?_ | refine osl_eq ?_ | refine sl_eq ?_ ?_ ?_ | refine ptr_eq ?_ ?_ ?_ | refine agg_eq ?_ | refine es_cons ?_ ?_ | refine row_cons ?_ ?_)
          all_goals (first | (simp; done) | omega | (simp; omega))
        case hstore =>
          repeat' (first | rfl | refine env_cons ?_ ?_ | refine st_cons ?_ ?_ ?_ ?_ | refine int_eq ?_ | refine bool_eq ?_ | refine rsl_eq ?_ | refine osl_eq ?_ | refine sl_eq ?_ ?_ ?_ | refine ptr_eq ?_ ?_ ?_ | refine agg_eq ?_ | refine es_cons ?_ ?_ | refine row_cons ?_ ?_)
          all_goals (first | (simp; done) | omega | (simp; omega))
        case hst =>
          exact ⟨by omega, by rw [hats, hall, hbd]; simp [hb.2]; omega⟩
        case hm => omega
    · intro hb
      try simp only [hB, decide_eq_true_eq, decide_eq_false_iff_not] at hb
      refine AW.keep [] [] ?_
      try simp only [go_sem, reduceIte, reduceCtorEq, zA, zM, zE, zL, zD, zS, zP, zB, zI, zR]
      refine AW.exit ?_
      rw [← hQl1]
      refine hK6 _ _ _ ?_; clear hK6
      refine AW.seq fun K13 hK13 => ?_
      refine AW.regionK 0 (fun _ => none) [2] [] ?_
      simp only [go_sem, reduceIte, reduceCtorEq, zA, zM, zE, zL, zD, zS, zP, zB, zI, zR]
      repeat with_reducible refine cj ?_ ?_
      all_goals try first | omega
      refine hK13 _ _ _ ?_; clear hK13
      refine AW.ret ?_
      rw [← hQr]
      simp only [go_sem, reduceIte, reduceCtorEq, zA, zM, zE, zL, zD, zS, zP, zB, zI, zR]
      exact Wk.of_eq (by rw [List.take_of_length_le (by omega)] at hall; rw [hva, hall, decide_eq_true h512]; rfl)
theorem rpvalid_g (n : Nat) (t : List (List Bool)) (hs : Sq n t) (hn : n ≤ 512) : Reads Tryd.prog 14 false [relB t] (.bool (poB n t)) := by
  have hfm := rformed_r (t.map SB) ⟨by simp [hs.len]; omega, fun x hx => by
    obtain ⟨b, hb, rfl⟩ := List.mem_map.1 hx
    have := setB_len (b := b) (by rw [hs.row b hb]; exact hn)
    show (setW b b.length).length ≤ _; omega⟩ (fun x hx => by obtain ⟨b, hb, rfl⟩ := List.mem_map.1 hx; exact setW_ok b)
  rw [valid_tab hs hn, ← relB_SB] at hfm
  have hlt : (tabR t).length = n := by rw [tabR_len, hs.len]
  have hls := rless_r n t hs hn
  have hgr := fun i hi => tabR_get (t := t) (i := i) hi
  have hsu := fun i j hi hj => rsub_r (rowT t j) (rowT t i) (by rw [hs.rowLen (i := j) hj]; exact hn) (by rw [hs.rowLen (i := i) hi, hs.rowLen (i := j) hj])
  have hlen := hs.len
  have hno : ∀ i, i < n → atT t i i = true → poB n t = false := fun i hi h => by
    cases e : poB n t
    · rfl
    · have := ((poB_iff hs).1 e).irr i hi; rw [h] at this; cases this
  have hno2 : ∀ i j, i < n → j < n → atT t i j = true → subB (rowT t j) (rowT t i) = false → poB n t = false := fun i j hi hj h h2 => poB_false i j hi (memB_mem.2 ⟨by rw [hs.rowLen hi]; exact hj, h⟩) (.inr h2)
  have hyes : (∀ a, a < n → atT t a a = false ∧ ∀ b, b < n → atT t a b = true → subB (rowT t b) (rowT t a) = true) → poB n t = true := fun h => (poB_iff hs).2 ⟨fun i hi => (h i hi).1, fun i j k hi hj hk h1 h2 => subB_iff.1 ((h i hi).2 j hj h1) k (by rw [hs.rowLen hj]; exact hk) h2⟩
  unfold relB rowB at *
  refine Reads.body (rs := [.tmp 2]) Tryd.func14 rfl Tryd.ntmps14 rfl (by simp) ?_
  generalize hQr : retQ _ _ _ = Qr
  refine AW.seq fun K1 hK1 => ?_
  refine AW.regionK 0 (fun _ => none) [1] [1] ?_
  simp only [go_sem, reduceIte, reduceCtorEq, zA, zM, zE, zL, zD, zS, zP, zB, zI, zR, hlt]
  repeat with_reducible refine cj ?_ ?_
  all_goals try first | omega
  refine hK1 _ _ _ ?_; clear hK1
  refine AW.seq fun K2 hK2 => ?_
  refine AW.regionK 0 (fun _ => none) [1, 3] [1] ?_
  simp only [go_sem, reduceIte, reduceCtorEq, zA, zM, zE, zL, zD, zS, zP, zB, zI, zR, hlt]
  repeat with_reducible refine cj ?_ ?_
  all_goals try first | omega
  refine hK2 _ _ _ ?_; clear hK2
  refine AW.seq fun K3 hK3 => ?_
  refine AW.seq fun K4 hK4 => ?_
  refine AW.regionK 0 (fun ii => if ii = 1 then some (.reads false (.bool true)) else none) [1, 3, 11] [1] ?_
  simp only [go_sem, reduceIte, reduceCtorEq, zA, zM, zE, zL, zD, zS, zP, zB, zI, zR, hlt]
  repeat with_reducible refine cj ?_ ?_
  all_goals try first | (exact hfm) | omega | exact ent (by kernel_rfl)
  refine hK4 _ _ _ ?_; clear hK4
  refine AW.cond rfl (by simp only [go_sem, reduceIte, reduceCtorEq, zA, zM, zE, zL, zD, zS, zP, zB, zI, zR]) ?_ ?_
  · intro hb
    try simp only [hB, decide_eq_true_eq, decide_eq_false_iff_not] at hb
    simp at hb
  · intro hb
    try simp only [hB, decide_eq_true_eq, decide_eq_false_iff_not] at hb
    refine AW.skip ?_
    refine hK3 _ _ _ ?_; clear hK3
    refine AW.seq fun K5 hK5 => ?_
    refine AW.seq fun K6 hK6 => ?_
    refine AW.regionK 0 (fun _ => none) [1, 3, 4] [1] ?_
    simp only [go_sem, reduceIte, reduceCtorEq, zA, zM, zE, zL, zD, zS, zP, zB, zI, zR, hlt]
    repeat with_reducible refine cj ?_ ?_
    all_goals try first | omega
    refine hK6 _ _ _ ?_; clear hK6
    refine AW.block ?_
    refine AW.loopE (fun mm ee ss kk => ∃ (i g1 v1 : Nat), n - i = mm ∧ ee = [(1, .ptr ⟨1, g1, none⟩ 0 0), (3, .int .i64 n), (4, .int .i64 (i : Nat))] ∧ ss = [(1, some ⟨g1, v1, 1, [[.rsl 2 (tabR t)]]⟩)] ∧ (i ≤ n ∧ ∀ a, a < i → atT t a a = false ∧ ∀ b, b < n → atT t a b = true → subB (rowT t b) (rowT t a) = true)) ?_ ?_
    · refine ⟨_, 0, ?_, ?_, rfl, ?henv, ?hstore, ?hst⟩
      case henv =>
        repeat' (first | rfl | refine env_cons ?_ ?_ | refine st_cons ?_ ?_ ?_ ?_ | refine int_eq ?_ | refine bool_eq ?_ | refine rsl_eq ?_ | refine osl_eq ?_ | refine sl_eq ?_ ?_ ?_ | refine ptr_eq ?_ ?_ ?_ | refine agg_eq ?_ | refine es_cons ?_ ?_ | refine row_cons ?_ ?_)
        all_goals (first | (simp; done) | omega | (simp; omega))
      case hstore =>
        repeat' (first | rfl | refine env_cons ?_ ?_ | refine st_cons ?_ ?_ ?_ ?_ | refine int_eq ?_ | refine bool_eq ?_ | refine rsl_eq ?_ | refine osl_eq ?_ | refine sl_eq ?_ ?_ ?_ | refine ptr_eq ?_ ?_ ?_ | refine agg_eq ?_ | refine es_cons ?_ ?_ | refine row_cons ?_ ?_)
        all_goals (first | (simp; done) | omega | (simp; omega))
      case hst =>
        exact ⟨Nat.zero_le _, fun a ha => absurd ha (Nat.not_lt_zero _)⟩
    rintro mm ee ss kk ⟨i, g1, v1, rfl, rfl, rfl, hI⟩
    generalize hQl1 : thenQ _ _ = Ql1
    obtain ⟨hi, hall⟩ := hI
    refine AW.seq fun K7 hK7 => ?_
    refine AW.seq fun K8 hK8 => ?_
    refine AW.regionK 0 (fun _ => none) [1, 3, 4, 14] [1] ?_
    simp only [go_sem, reduceIte, reduceCtorEq, zA, zM, zE, zL, zD, zS, zP, zB, zI, zR, hlt]
    repeat with_reducible refine cj ?_ ?_
    all_goals try first | omega
    refine hK8 _ _ _ ?_; clear hK8
    refine AW.cond rfl (by simp only [go_sem, reduceIte, reduceCtorEq, zA, zM, zE, zL, zD, zS, zP, zB, zI, zR]) ?_ ?_
    · intro hb
      try simp only [hB, decide_eq_true_eq, decide_eq_false_iff_not] at hb
      have hl1 := hls i i (by omega) (by omega)
      have hgi := hgr i (by omega)
      refine AW.skip ?_
      refine hK7 _ _ _ ?_; clear hK7
      refine AW.seq fun K9 hK9 => ?_
      refine AW.block ?_
      refine AW.seq fun K10 hK10 => ?_
      refine AW.seq fun K11 hK11 => ?_
      refine AW.regionK 0 (fun ii => if ii = 3 then some (.reads false (.bool (atT t i i))) else none) [1, 3, 4, 20] [1] ?_
      simp only [go_sem, reduceIte, reduceCtorEq, zA, zM, zE, zL, zD, zS, zP, zB, zI, zR, hlt]
      repeat with_reducible refine cj ?_ ?_
      all_goals try first | (exact hl1) | omega | exact ent (by kernel_rfl)
      refine hK11 _ _ _ ?_; clear hK11
      refine AW.cond rfl (by simp only [go_sem, reduceIte, reduceCtorEq, zA, zM, zE, zL, zD, zS, zP, zB, zI, zR]) ?_ ?_
      · intro hb
        try simp only [hB, decide_eq_true_eq, decide_eq_false_iff_not] at hb
        refine AW.seq fun K12 hK12 => ?_
        refine AW.regionK 0 (fun _ => none) [2] [] ?_
        simp only [go_sem, reduceIte, reduceCtorEq, zA, zM, zE, zL, zD, zS, zP, zB, zI, zR, hlt]
        repeat with_reducible refine cj ?_ ?_
        all_goals try first | omega
        refine hK12 _ _ _ ?_; clear hK12
        refine AW.ret ?_
        rw [← hQl1]
        rw [← hQr]
        simp only [go_sem, reduceIte, reduceCtorEq, zA, zM, zE, zL, zD, zS, zP, zB, zI, zR, hlt]
        exact Wk.of_eq (by rw [hno i (by omega) hb])
      · intro hb
        try simp only [hB, decide_eq_true_eq, decide_eq_false_iff_not] at hb
        have hir := hb
        refine AW.skip ?_
        refine hK10 _ _ _ ?_; clear hK10
        refine AW.seq fun K13 hK13 => ?_
        refine AW.regionK 0 (fun _ => none) [1, 3, 4, 5] [1] ?_
        simp only [go_sem, reduceIte, reduceCtorEq, zA, zM, zE, zL, zD, zS, zP, zB, zI, zR, hlt]
        repeat with_reducible refine cj ?_ ?_
        all_goals try first | omega
        refine hK13 _ _ _ ?_; clear hK13
        refine AW.block ?_
        refine AW.loopE (fun mm ee ss kk => ∃ (j g1 v1 : Nat), n - j = mm ∧ ee = [(1, .ptr ⟨1, g1, none⟩ 0 0), (3, .int .i64 n), (4, .int .i64 (i : Nat)), (5, .int .i64 (j : Nat))] ∧ ss = [(1, some ⟨g1, v1, 1, [[.rsl 2 (tabR t)]]⟩)] ∧ (j ≤ n ∧ ∀ b, b < j → atT t i b = true → subB (rowT t b) (rowT t i) = true)) ?_ ?_
        · refine ⟨_, 0, ?_, ?_, rfl, ?henv, ?hstore, ?hst⟩
          case henv =>
            repeat' (first | rfl | refine env_cons ?_ ?_ | refine st_cons ?_ ?_ ?_ ?_ | refine int_eq ?_ | refine bool_eq ?_ | refine rsl_eq ?_ | refine osl_eq ?_ | refine sl_eq ?_ ?_ ?_ | refine ptr_eq ?_ ?_ ?_ | refine agg_eq ?_ | refine es_cons ?_ ?_ | refine row_cons ?_ ?_)
            all_goals (first | (simp; done) | omega | (simp; omega))
          case hstore =>
            repeat' (first | rfl | refine env_cons ?_ ?_ | refine st_cons ?_ ?_ ?_ ?_ | refine int_eq ?_ | refine bool_eq ?_ | refine rsl_eq ?_ | refine osl_eq ?_ | refine sl_eq ?_ ?_ ?_ | refine ptr_eq ?_ ?_ ?_ | refine agg_eq ?_ | refine es_cons ?_ ?_ | refine row_cons ?_ ?_)
            all_goals (first | (simp; done) | omega | (simp; omega))
          case hst =>
            exact ⟨Nat.zero_le _, fun a ha => absurd ha (Nat.not_lt_zero _)⟩
        rintro mm ee ss kk ⟨j, g1, v1, rfl, rfl, rfl, hI⟩
        generalize hQl2 : thenQ _ _ = Ql2
        obtain ⟨hj, hallj⟩ := hI
        refine AW.seq fun K14 hK14 => ?_
        refine AW.seq fun K15 hK15 => ?_
        refine AW.regionK 0 (fun _ => none) [1, 3, 4, 5, 23] [1] ?_
        simp only [go_sem, reduceIte, reduceCtorEq, zA, zM, zE, zL, zD, zS, zP, zB, zI, zR, hlt]
        repeat with_reducible refine cj ?_ ?_
        all_goals try first | omega
        refine hK15 _ _ _ ?_; clear hK15
        refine AW.cond rfl (by simp only [go_sem, reduceIte, reduceCtorEq, zA, zM, zE, zL, zD, zS, zP, zB, zI, zR]) ?_ ?_
        · intro hb
          try simp only [hB, decide_eq_true_eq, decide_eq_false_iff_not] at hb
          have hl2 := hls i j (by omega) (by omega)
          have hgj := hgr j (by omega)
          have hsj := hsu i j (by omega) (by omega)
          refine AW.skip ?_
          refine hK14 _ _ _ ?_; clear hK14
          refine AW.seq fun K16 hK16 => ?_
          refine AW.block ?_
          refine AW.seq fun K17 hK17 => ?_
          refine AW.regionD mixed 0 (fun ii => if ii = 3 then some (.reads false (.bool (atT t i j))) else if ii = 15 then some (.reads false (.bool (subB (rowT t j) (rowT t i)))) else none) [1, 3, 4, 5, 43] [1] ?_
          simp only [go_sem, reduceIte, reduceCtorEq, zA, zM, zE, zL, zD, zS, zP, zB, zI, zR, hlt, hgi, hgj]
          repeat with_reducible refine cj ?_ ?_
          all_goals try first | (first | exact hl2 | (intro hh; exact hsj) | (intro hh; exact ⟨hh, rfl, hsj⟩) | (intro hh; exact ⟨hh, hsj⟩)) | (intros; (repeat' apply And.intro) <;> first | assumption | (first | exact hl2 | (intro hh; exact hsj) | (intro hh; exact ⟨hh, rfl, hsj⟩) | (intro hh; exact ⟨hh, hsj⟩))) | omega | exact chk (by kernel_rfl) | exact ent (by kernel_rfl) | (intro hgd; exact absurd hgd (by decide)) | rfl | (simp only [go_sem, reduceIte, reduceCtorEq, zA, zM, zE, zL, zD, zS, zP, zB, zI, zR, hlt, hgi, hgj]; done) | (intro _hgd; simp_all [go_sem]; done)
          refine hK17 _ _ _ ?_; clear hK17
          refine AW.cond rfl (by simp only [go_sem, reduceIte, reduceCtorEq, zA, zM, zE, zL, zD, zS, zP, zB, zI, zR]) ?_ ?_
          · intro hb
            try simp only [hB, decide_eq_true_eq, decide_eq_false_iff_not] at hb
            refine AW.seq fun K18 hK18 => ?_
            refine AW.regionK 0 (fun _ => none) [2] [] ?_
            simp only [go_sem, reduceIte, reduceCtorEq, zA, zM, zE, zL, zD, zS, zP, zB, zI, zR, hlt]
            repeat with_reducible refine cj ?_ ?_
            all_goals try first | omega
            refine hK18 _ _ _ ?_; clear hK18
            refine AW.ret ?_
            rw [← hQl2]
            rw [← hQl1]
            rw [← hQr]
            simp only [go_sem, reduceIte, reduceCtorEq, zA, zM, zE, zL, zD, zS, zP, zB, zI, zR, hlt]
            exact Wk.of_eq (by rw [hno2 i j (by omega) (by omega) hb.1 hb.2])
          · intro hb
            try simp only [hB, decide_eq_true_eq, decide_eq_false_iff_not] at hb
            refine AW.skip ?_
            refine hK16 _ _ _ ?_; clear hK16
            refine AW.regionK 0 (fun _ => none) [1, 3, 4, 5] [1] ?_
            simp only [go_sem, reduceIte, reduceCtorEq, zA, zM, zE, zL, zD, zS, zP, zB, zI, zR, hlt]
            repeat with_reducible refine cj ?_ ?_
            all_goals try first | omega
            rw [← hQl2]
            change Exists _
            refine ⟨_, ?hm, j + 1, ?_, ?_, rfl, ?henv, ?hstore, ?hst⟩
            case henv =>
              repeat' (first | rfl | refine env_cons ?_ ?_ | refine st_cons ?_ ?_ ?_ ?_ | refine int_eq ?_ | refine bool_eq ?_ | refine rsl_eq ?_ | refine osl_eq ?_ | refine sl_eq ?_ ?_ ?_ | refine ptr_eq ?_ ?_ ?_ | refine agg_eq ?_ | refine es_cons ?_ ?_ | refine row_cons ?_ ?_)
              all_goals (first | (simp; done) | omega | (simp; omega))
            case hstore =>
              repeat' (first | rfl | refine env_cons ?_ ?_ | refine st_cons ?_ ?_ ?_ ?_ | refine int_eq ?_ | refine bool_eq ?_ | refine rsl_eq ?_ | refine osl_eq ?_ | refine sl_eq ?_ ?_ ?_ | refine ptr_eq ?_ ?_ ?_ | refine agg_eq ?_ | refine es_cons ?_ ?_ | refine row_cons ?_ ?_)
              all_goals (first | (simp; done) | omega | (simp; omega))
            case hst =>
              refine ⟨by omega, fun b hbj hab => ?_⟩
              by_cases e : b = j
              · subst e; rcases hb with hb | hb
                · rw [hb] at hab; cases hab
                · exact hb
              · exact hallj b (by omega) hab
            case hm => omega
        · intro hb
          try simp only [hB, decide_eq_true_eq, decide_eq_false_iff_not] at hb
          refine AW.keep [1, 3, 4] [1] ?_
          try simp only [go_sem, reduceIte, reduceCtorEq, zA, zM, zE, zL, zD, zS, zP, zB, zI, zR]
          refine AW.exit ?_
          rw [← hQl2]
          refine hK9 _ _ _ ?_; clear hK9
          refine AW.regionK 0 (fun _ => none) [1, 3, 4] [1] ?_
          simp only [go_sem, reduceIte, reduceCtorEq, zA, zM, zE, zL, zD, zS, zP, zB, zI, zR, hlt]
          repeat with_reducible refine cj ?_ ?_
          all_goals try first | omega
          rw [← hQl1]
          change Exists _
          refine ⟨_, ?hm, i + 1, ?_, ?_, rfl, ?henv, ?hstore, ?hst⟩
          case henv =>
            repeat' (first | rfl | refine env_cons ?_ ?_ | refine st_cons ?_ ?_ ?_ ?_ | refine int_eq ?_ | refine bool_eq ?_ | refine rsl_eq ?_ | refine osl_eq ?_ | refine sl_eq ?_ ?_ ?_ | refine ptr_eq ?_ ?_ ?_ | refine agg_eq ?_ | refine es_cons ?_ ?_ | refine row_cons ?_ ?_)
            all_goals (first | (simp; done) | omega | (simp; omega))
          case hstore =>
            repeat' (first | rfl | refine env_cons ?_ ?_ | refine st_cons ?_ ?_ ?_ ?_ | refine int_eq ?_ | refine bool_eq ?_ | refine rsl_eq ?_ | refine osl_eq ?_ | refine sl_eq ?_ ?_ ?_ | refine ptr_eq ?_ ?_ ?_ | refine agg_eq ?_ | refine es_cons ?_ ?_ | refine row_cons ?_ ?_)
            all_goals (first | (simp; done) | omega | (simp; omega))
          case hst =>
            refine ⟨by omega, fun a ha => ?_⟩
            by_cases e : a = i
            · subst e; exact ⟨hir, fun b hb2 => hallj b (by omega)⟩
            · exact hall a (by omega)
          case hm => omega
    · intro hb
      try simp only [hB, decide_eq_true_eq, decide_eq_false_iff_not] at hb
      refine AW.keep [] [] ?_
      try simp only [go_sem, reduceIte, reduceCtorEq, zA, zM, zE, zL, zD, zS, zP, zB, zI, zR]
      refine AW.exit ?_
      rw [← hQl1]
      refine hK5 _ _ _ ?_; clear hK5
      refine AW.seq fun K19 hK19 => ?_
      refine AW.regionK 0 (fun _ => none) [2] [] ?_
      simp only [go_sem, reduceIte, reduceCtorEq, zA, zM, zE, zL, zD, zS, zP, zB, zI, zR, hlt]
      repeat with_reducible refine cj ?_ ?_
      all_goals try first | omega
      refine hK19 _ _ _ ?_; clear hK19
      refine AW.ret ?_
      rw [← hQr]
      simp only [go_sem, reduceIte, reduceCtorEq, zA, zM, zE, zL, zD, zS, zP, zB, zI, zR, hlt]
      exact Wk.of_eq (by rw [hyes fun a ha => hall a (by omega)])
theorem rpvalid_e (rs : List USet) (hl : longR rs) (hok : ∀ x ∈ rs, okW x.W) (hv : validR rs = false) : Reads Tryd.prog 14 false [relV rs] (.bool false) := by
  have h := rformed_r rs hl hok
  have hl1 := hl.1
  rw [hv] at h
  unfold relV at *
  refine Reads.body (rs := [.tmp 2]) Tryd.func14 rfl Tryd.ntmps14 rfl (by simp) ?_
  generalize hQr : retQ _ _ _ = Qr
  refine AW.seq fun K1 hK1 => ?_
  refine AW.regionK 0 (fun _ => none) [1] [1] ?_
  simp only [go_sem, reduceIte, reduceCtorEq, zA, zM, zE, zL, zD, zS, zP, zB, zI, zR]
  repeat with_reducible refine cj ?_ ?_
  all_goals try first | omega
  refine hK1 _ _ _ ?_; clear hK1
  refine AW.seq fun K2 hK2 => ?_
  refine AW.regionK 0 (fun _ => none) [1, 3] [1] ?_
  simp only [go_sem, reduceIte, reduceCtorEq, zA, zM, zE, zL, zD, zS, zP, zB, zI, zR]
  repeat with_reducible refine cj ?_ ?_
  all_goals try first | omega
  refine hK2 _ _ _ ?_; clear hK2
  refine AW.seq fun K3 hK3 => ?_
  refine AW.seq fun K4 hK4 => ?_
  refine AW.regionK 0 (fun ii => if ii = 1 then some (.reads false (.bool false)) else none) [1, 3, 11] [1] ?_
  simp only [go_sem, reduceIte, reduceCtorEq, zA, zM, zE, zL, zD, zS, zP, zB, zI, zR]
  repeat with_reducible refine cj ?_ ?_
  all_goals try first | (exact h) | omega | exact ent (by kernel_rfl)
  refine hK4 _ _ _ ?_; clear hK4
  refine AW.cond rfl (by simp only [go_sem, reduceIte, reduceCtorEq, zA, zM, zE, zL, zD, zS, zP, zB, zI, zR]) ?_ ?_
  · intro hb
    try simp only [hB, decide_eq_true_eq, decide_eq_false_iff_not] at hb
    refine AW.seq fun K5 hK5 => ?_
    refine AW.regionK 0 (fun _ => none) [2] [] ?_
    simp only [go_sem, reduceIte, reduceCtorEq, zA, zM, zE, zL, zD, zS, zP, zB, zI, zR]
    repeat with_reducible refine cj ?_ ?_
    all_goals try first | omega
    refine hK5 _ _ _ ?_; clear hK5
    refine AW.ret ?_
    rw [← hQr]
    simp only [go_sem, reduceIte, reduceCtorEq, zA, zM, zE, zL, zD, zS, zP, zB, zI, zR]
    exact Wk.refl _
  · intro hb
    try simp only [hB, decide_eq_true_eq, decide_eq_false_iff_not] at hb
    simp at hb
end Go.Proofs.X

namespace Go.Proofs.X
open Go.AM Go
set_option maxRecDepth 100000
set_option maxHeartbeats 2000000
end Go.Proofs.X

namespace Go.Proofs.X
open Go.AM Go
set_option maxRecDepth 100000
set_option maxHeartbeats 1000000
theorem wrap_small {z : Int} (h0 : 0 ≤ z) (h1 : z < 18446744073709551616) : IntKind.u64.wrap z = z := by simp [IntKind.wrap, IntKind.signed, IntKind.bits]; omega
end Go.Proofs.X

namespace Go.Proofs.X
open Go.AM Go
set_option maxRecDepth 100000
set_option maxHeartbeats 2000000
theorem eqi_refl (l : List Int) (hl : l.length ≤ 9223372036854775807) : Reads Tryd.prog 19 false [.rsl 1 (ints l), .rsl 1 (ints l)] (.bool true) := by
  refine Reads.body (rs := [.tmp 4]) Tryd.func19 rfl Tryd.ntmps19 rfl (by simp) ?_
  generalize hQr : retQ _ _ _ = Qr
  refine AW.seq fun K1 hK1 => ?_
  refine AW.regionK 0 (fun _ => none) [0, 1] [] ?_
  simp only [go_sem, reduceIte, reduceCtorEq, zA, zM, zE, zL, zD, zS, zP, zB, zI, zR]
  repeat with_reducible refine cj ?_ ?_
  all_goals try first | omega
  refine hK1 _ _ _ ?_; clear hK1
  refine AW.seq fun K2 hK2 => ?_
  refine AW.seq fun K3 hK3 => ?_
  refine AW.regionK 0 (fun _ => none) [0, 1, 10] [] ?_
  simp only [go_sem, reduceIte, reduceCtorEq, zA, zM, zE, zL, zD, zS, zP, zB, zI, zR]
  repeat with_reducible refine cj ?_ ?_
  all_goals try first | omega
  refine hK3 _ _ _ ?_; clear hK3
  refine AW.cond rfl (by simp only [go_sem, reduceIte, reduceCtorEq, zA, zM, zE, zL, zD, zS, zP, zB, zI, zR]) ?_ ?_
  · intro hb
    try simp only [hB, decide_eq_true_eq, decide_eq_false_iff_not] at hb
    exfalso; simp at hb
  · intro hb
    try simp only [hB, decide_eq_true_eq, decide_eq_false_iff_not] at hb
    refine AW.skip ?_
    refine hK2 _ _ _ ?_; clear hK2
    refine AW.seq fun K4 hK4 => ?_
    refine AW.seq fun K5 hK5 => ?_
    refine AW.regionK 0 (fun _ => none) [0, 1, 12, 13] [] ?_
    simp only [go_sem, reduceIte, reduceCtorEq, zA, zM, zE, zL, zD, zS, zP, zB, zI, zR]
    repeat with_reducible refine cj ?_ ?_
    all_goals try first | omega
    refine hK5 _ _ _ ?_; clear hK5
    refine AW.block ?_
    refine AW.loopE (fun mm ee ss kk => ∃ (j : Nat), l.length - j = mm ∧ ee = [(0, .rsl 1 (ints l)), (1, .rsl 1 (ints l)), (12, .int .i64 l.length), (13, .int .i64 (j : Nat))] ∧ ss = [] ∧ (j ≤ l.length)) ?_ ?_
    · refine ⟨_, 0, rfl, ?henv, ?hstore, ?hst⟩
      case henv =>
        repeat' (first | rfl | refine env_cons ?_ ?_ | refine st_cons ?_ ?_ ?_ ?_ | refine int_eq ?_ | refine bool_eq ?_ | refine rsl_eq ?_ | refine osl_eq ?_ | refine sl_eq ?_ ?_ ?_ | refine ptr_eq ?_ ?_ ?_ | refine agg_eq ?_ | refine es_cons ?_ ?_ | refine row_cons ?_ ?_)
        all_goals (first | (simp; done) | omega | (simp; omega))
      case hstore =>
        repeat' (first | rfl | refine env_cons ?_ ?_ | refine st_cons ?_ ?_ ?_ ?_ | refine int_eq ?_ | refine bool_eq ?_ | refine rsl_eq ?_ | refine osl_eq ?_ | refine sl_eq ?_ ?_ ?_ | refine ptr_eq ?_ ?_ ?_ | refine agg_eq ?_ | refine es_cons ?_ ?_ | refine row_cons ?_ ?_)
        all_goals (first | (simp; done) | omega | (simp; omega))
      case hst =>
        first | trivial | omega | (simp; done) | (simp; omega)
    rintro mm ee ss kk ⟨j, rfl, rfl, rfl, hI⟩
    generalize hQl1 : thenQ _ _ = Ql1
    refine AW.seq fun K6 hK6 => ?_
    refine AW.regionK 0 (fun _ => none) [0, 1, 12, 13, 14] [] ?_
    simp only [go_sem, reduceIte, reduceCtorEq, zA, zM, zE, zL, zD, zS, zP, zB, zI, zR]
    repeat with_reducible refine cj ?_ ?_
    all_goals try first | omega
    refine hK6 _ _ _ ?_; clear hK6
    refine AW.seq fun K7 hK7 => ?_
    refine AW.cond rfl (by simp only [go_sem, reduceIte, reduceCtorEq, zA, zM, zE, zL, zD, zS, zP, zB, zI, zR]) ?_ ?_
    · intro hb
      try simp only [hB, decide_eq_true_eq, decide_eq_false_iff_not] at hb
      have hgl := ints_getD (l := l) (i := j) (by omega)
      refine AW.skip ?_
      refine hK7 _ _ _ ?_; clear hK7
      refine AW.seq fun K8 hK8 => ?_
      refine AW.block ?_
      refine AW.seq fun K9 hK9 => ?_
      refine AW.regionK 0 (fun _ => none) [0, 1, 5, 12, 13] [] ?_
      simp only [go_sem, reduceIte, reduceCtorEq, zA, zM, zE, zL, zD, zS, zP, zB, zI, zR]
      repeat with_reducible refine cj ?_ ?_
      all_goals try first | omega
      refine hK9 _ _ _ ?_; clear hK9
      refine AW.seq fun K10 hK10 => ?_
      refine AW.regionD mixed 0 (fun _ => none) [0, 1, 12, 13, 24] [] ?_
      simp only [go_sem, reduceIte, reduceCtorEq, zA, zM, zE, zL, zD, zS, zP, zB, zI, zR, hgl]
      repeat with_reducible refine cj ?_ ?_
      all_goals try first | omega | exact chk (by kernel_rfl)
      refine hK10 _ _ _ ?_; clear hK10
      refine AW.cond rfl (by simp only [go_sem, reduceIte, reduceCtorEq, zA, zM, zE, zL, zD, zS, zP, zB, zI, zR]) ?_ ?_
      · intro hb
        try simp only [hB, decide_eq_true_eq, decide_eq_false_iff_not] at hb
        exfalso; simp at hb
      · intro hb
        try simp only [hB, decide_eq_true_eq, decide_eq_false_iff_not] at hb
        refine AW.skip ?_
        refine hK8 _ _ _ ?_; clear hK8
        refine AW.regionK 0 (fun _ => none) [0, 1, 12, 13] [] ?_
        simp only [go_sem, reduceIte, reduceCtorEq, zA, zM, zE, zL, zD, zS, zP, zB, zI, zR]
        repeat with_reducible refine cj ?_ ?_
        all_goals try first | omega
        rw [← hQl1]
        change Exists _
        refine ⟨_, ?hm, j + 1, rfl, ?henv, ?hstore, ?hst⟩
        case henv =>
          repeat' (first | rfl | refine env_cons ?_ ?_ | refine st_cons ?_ ?_ ?_ ?_ | refine int_eq ?_ | refine bool_eq ?_ | refine rsl_eq ?_ | refine osl_eq ?_ | refine sl_eq ?_ ?_ ?_ | refine ptr_eq ?_ ?_ ?_ | refine agg_eq ?_ | refine es_cons ?_ ?_ | refine row_cons ?_ ?_)
          all_goals (first | (simp; done) | omega | (simp; omega))
        case hstore =>
          repeat' (first | rfl | refine env_cons ?_ ?_ | refine st_cons ?_ ?_ ?_ ?_ | refine int_eq ?_ | refine bool_eq ?_ | refine rsl_eq ?_ | refine osl_eq ?_ | refine sl_eq ?_ ?_ ?_ | refine ptr_eq ?_ ?_ ?_ | refine agg_eq ?_ | refine es_cons ?_ ?_ | refine row_cons ?_ ?_)
          all_goals (first | (simp; done) | omega | (simp; omega))
        case hst =>
          first | trivial | omega | (simp; done) | (simp; omega)
        case hm => omega
    · intro hb
      try simp only [hB, decide_eq_true_eq, decide_eq_false_iff_not] at hb
      refine AW.keep [] [] ?_
      try simp only [go_sem, reduceIte, reduceCtorEq, zA, zM, zE, zL, zD, zS, zP, zB, zI, zR]
      refine AW.exit ?_
      rw [← hQl1]
      refine hK4 _ _ _ ?_; clear hK4
      refine AW.seq fun K11 hK11 => ?_
      refine AW.regionK 0 (fun _ => none) [4] [] ?_
      simp only [go_sem, reduceIte, reduceCtorEq, zA, zM, zE, zL, zD, zS, zP, zB, zI, zR]
      repeat with_reducible refine cj ?_ ?_
      all_goals try first | omega
      refine hK11 _ _ _ ?_; clear hK11
      refine AW.ret ?_
      rw [← hQr]
      simp only [go_sem, reduceIte, reduceCtorEq, zA, zM, zE, zL, zD, zS, zP, zB, zI, zR]
      exact Wk.refl _
end Go.Proofs.X

/- Plain facts on the reference's functions over orders. -/
namespace Go.AM
end Go.AM

/- Laws of orders. -/
namespace Go.AM
/-! ### Levels. -/
/-! ### Closed sets. -/
end Go.AM

namespace Go.Proofs.X
open Go.AM Go
set_option maxRecDepth 100000
set_option maxHeartbeats 2000000
/-- No order. -/
def BadP (rs : List USet) : Prop := validR rs = false ∨ ∃ t, rs = t.map SB ∧ Sq rs.length t ∧ rs.length ≤ 512 ∧ poB rs.length t = false
theorem bad_valid (rs : List USet) (hl : longR rs) (hok : ∀ x ∈ rs, okW x.W) (hp : BadP rs) : Reads Tryd.prog 37 false [relV rs] (.bool false) ∧ Reads Tryd.prog 14 false [relV rs] (.bool false) := by
  rcases hp with hv | ⟨t, ht, hs, hn, h⟩
  · exact ⟨pvalid_e rs hl hv, rpvalid_e rs hl hok hv⟩
  · have h1 := pvalid_g _ t hs hn
    have h2 := rpvalid_g _ t hs hn
    rw [h] at h1 h2
    rw [ht, ← relB_SB]
    exact ⟨h1, h2⟩
/-- A relation is an order, or it is none. -/
theorem rel_cases (rs : List USet) (hok : ∀ x ∈ rs, okW x.W) : (∃ t, rs = t.map SB ∧ Sq rs.length t ∧ rs.length ≤ 512 ∧ poB rs.length t = true) ∨ BadP rs := by
  cases hv : validR rs
  · exact .inr (.inl hv)
  · obtain ⟨t, h1, hs, hn⟩ := rel_of hok hv
    cases hp : poB rs.length t
    · exact .inr (.inr ⟨t, h1, hs, hn, hp⟩)
    · exact .inl ⟨t, h1, hs, hn, hp⟩
end Go.Proofs.X

namespace Go.Proofs.X
open Go.AM Go
set_option maxRecDepth 100000
set_option maxHeartbeats 2000000
end Go.Proofs.X

/- Linear extensions: what the program's state says. -/
namespace Go.AM
def lisR (cs : List (List Int)) : List (List AV) := cs.map fun c => [.rsl 1 (ints c)]
theorem lisR_len (cs : List (List Int)) : (lisR cs).length = cs.length := by simp [lisR]
theorem lisR_get {cs : List (List Int)} {i : Nat} (hi : i < cs.length) : (lisR cs).getD i [] = [.rsl 1 (ints (cs.getD i []))] := by
  simp [lisR, List.getD_eq_getElem?_getD, List.getElem?_eq_getElem hi]
@[go_sem] theorem vw_boolsL (s : Store) (d : Nat) (l : List Bool) : (bools l).map (fun cs => cs.map (vw s d)) = bools l := by
  simp [bools, vw_bool]
/-- A state, as it is read. -/
def stV (n : Nat) (bel : List (List Int)) (d : List Bool) : List AV := [.int .i64 n, .rsl 1 (lisR bel), .rsl 1 (bools d)]
def stO (n : Nat) (bel : List (List Int)) (d : List Bool) : List AV := [.int .i64 n, .rsl 1 (lisR bel), .osl 1 (bools d)]
def openB (d : List Bool) (j : Int) : Bool := !d.getD j.toNat false
def freeL (bel : List (List Int)) (d : List Bool) (i : Nat) : Bool := !d.getD i false && !(bel.getD i []).any (openB d)
/-- The first number from i on that meets p. -/
def nxt (p : Nat → Bool) (n i : Nat) : Int := match (List.range' i (n - i)).find? p with
  | some j => (j : Nat)
  | none => -1
theorem nxt_end {p : Nat → Bool} {n i : Nat} (h : n ≤ i) : nxt p n i = -1 := by
  unfold nxt; rw [show n - i = 0 by omega]; rfl
theorem nxt_hit {p : Nat → Bool} {n i : Nat} (h : i < n) (hp : p i = true) : nxt p n i = (i : Nat) := by
  unfold nxt; obtain ⟨m, hm⟩ : ∃ m, n - i = m + 1 := ⟨n - i - 1, by omega⟩
  rw [hm, List.range'_succ, List.find?_cons, hp]
theorem nxt_miss {p : Nat → Bool} {n i : Nat} (h : i < n) (hp : p i = false) : nxt p n i = nxt p n (i + 1) := by
  unfold nxt; obtain ⟨m, hm⟩ : ∃ m, n - i = m + 1 := ⟨n - i - 1, by omega⟩
  rw [hm, List.range'_succ, List.find?_cons, hp, show n - (i + 1) = m by omega]
theorem nxt_spec {p : Nat → Bool} {n : Nat} : ∀ (m i : Nat), n - i = m → (nxt p n i = -1 ∧ ∀ j, i ≤ j → j < n → p j = false) ∨ ∃ k : Nat, nxt p n i = (k : Nat) ∧ i ≤ k ∧ k < n ∧ p k = true ∧ ∀ j, i ≤ j → j < k → p j = false := by
  intro m
  induction m with
  | zero => intro i h; exact .inl ⟨nxt_end (by omega), fun j _ _ => by omega⟩
  | succ m ih =>
    intro i h
    cases hp : p i with
    | true => exact .inr ⟨i, nxt_hit (by omega) hp, Nat.le_refl _, by omega, hp, fun j _ _ => by omega⟩
    | false =>
      rw [nxt_miss (by omega) hp]
      rcases ih (i + 1) (by omega) with ⟨h1, h2⟩ | ⟨k, h1, h2, h3, h4, h5⟩
      · exact .inl ⟨h1, fun j h3 h4 => by
          rcases Nat.eq_or_lt_of_le h3 with e | e
          · exact e ▸ hp
          · exact h2 j e h4⟩
      · exact .inr ⟨k, h1, by omega, h3, h4, fun j h6 h7 => by
          rcases Nat.eq_or_lt_of_le h6 with e | e
          · exact e ▸ hp
          · exact h5 j e h7⟩
/-! ### Keys. -/
def byB (d : List Bool) : List (List AV) := d.map fun b => [.int .u8 (if b then 1 else 0)]
def keyS (d : List Bool) : ByteArray := strOf (byB d)
@[go_sem] theorem vwc_map_byB (s : Store) (n : Nat) (d : List Bool) : (byB d).map (fun cs => cs.map (vwc s n)) = byB d := by
  simp [byB, vwc_int]
theorem byB_ok (d : List Bool) : bytesOk (byB d) := by
  intro row h
  obtain ⟨b, _, rfl⟩ := List.mem_map.1 h
  exact ⟨_, rfl⟩
theorem byB_len (d : List Bool) : (byB d).length = d.length := by simp [byB]
theorem byB_zero (n : Nat) : List.replicate n [AV.int .u8 0] = byB (List.replicate n false) := by simp [byB]
theorem byB_set (d : List Bool) (i : Nat) : (byB d).set i [.int .u8 1] = byB (d.set i true) := by simp [byB, List.map_set]
theorem byB_get {d : List Bool} {i : Nat} (hi : i < d.length) : (byB d).getD i [] = [.int .u8 (if d.getD i false then 1 else 0)] := by
  simp [byB, List.getD_eq_getElem?_getD, List.getElem?_eq_getElem hi]
theorem foldl_push_data : ∀ (l : List Int) (b : ByteArray), (l.foldl (fun r n => r.push (UInt8.ofNat n.toNat)) b).data.toList = b.data.toList ++ l.map fun n => UInt8.ofNat n.toNat
  | [], b => by simp
  | n :: l, b => by
    rw [List.foldl_cons, foldl_push_data l]
    simp [ByteArray.push]
theorem keyS_data (d : List Bool) : (keyS d).data.toList = d.map fun b => if b then 1 else 0 := by
  unfold keyS strOf
  rw [foldl_push_data]
  simp only [byB, List.map_map]
  show [] ++ _ = _
  rw [List.nil_append]
  apply List.map_congr_left
  intro b _
  cases b <;> rfl
theorem keyS_inj {d d' : List Bool} (h : (keyS d).data.toList = (keyS d').data.toList) : d = d' := by
  rw [keyS_data, keyS_data] at h
  refine (List.map_inj_right fun a b h => ?_).1 h
  cases a <;> cases b <;> first | rfl | (exact absurd h (by decide))
theorem keyS_size (d : List Bool) : (keyS d).size = d.length := by
  show (keyS d).data.size = _
  rw [← Array.length_toList, keyS_data, List.length_map]
theorem keyS_at {d : List Bool} {i : Nat} (hi : i < d.length) : ((((keyS d).data[i]?).getD 0).toNat : Int) = if d.getD i false then 1 else 0 := by
  have h : (keyS d).data[i]? = some (if d.getD i false then 1 else 0) := by
    rw [← Array.getElem?_toList, keyS_data]
    simp [List.getElem?_eq_getElem hi, List.getD_eq_getElem?_getD]
  rw [h]
  cases d.getD i false <;> rfl
def lisO (cs : List (List Int)) : List (List AV) := cs.map fun c => [.osl 1 (ints c)]
theorem lisO_len (cs : List (List Int)) : (lisO cs).length = cs.length := by simp [lisO]
theorem lisO_get {cs : List (List Int)} {i : Nat} (hi : i < cs.length) : (lisO cs).getD i [] = [.osl 1 (ints (cs.getD i []))] := by
  simp [lisO, List.getD_eq_getElem?_getD, List.getElem?_eq_getElem hi]
theorem lisO_set (l : List (List Int)) (i : Nat) (row : List Int) : (lisO l).set i [.osl 1 (ints row)] = lisO (l.set i row) := by
  unfold lisO; rw [List.map_set]
@[go_sem] theorem vwc_lisO (s : Store) (d : Nat) (nb : List (List Int)) : (lisO nb).map (fun cs => cs.map (vwc s d)) = lisR nb := by
  simp [lisO, lisR, vwc_osl, vw_ints]
@[go_sem] theorem vwc_lisR (s : Store) (d : Nat) (nb : List (List Int)) : (lisR nb).map (fun cs => cs.map (vwc s d)) = lisR nb := by
  simp [lisR, vwc_rsl]
/-! ### The elements below. -/
def belAt (t : List (List Bool)) (n i : Nat) : List (List Int) := (List.range n).map fun x => ((List.range i).filter fun j => atT t j x).map fun j : Nat => (j : Int)
def belL (n : Nat) (t : List (List Bool)) : List (List Int) := belAt t n n
def addB (i : Nat) (bel : List (List Int)) (x : Nat) : List (List Int) := bel.set x (bel.getD x [] ++ [(i : Int)])
theorem belAt_len (t : List (List Bool)) (n i : Nat) : (belAt t n i).length = n := by simp [belAt]
theorem belAt_get {t : List (List Bool)} {n i x : Nat} (hx : x < n) : (belAt t n i).getD x [] = ((List.range i).filter fun j => atT t j x).map fun j : Nat => (j : Int) := by
  simp [belAt, List.getD_eq_getElem?_getD, hx]
theorem belAt_zero (t : List (List Bool)) (n : Nat) : belAt t n 0 = List.replicate n [] := by
  apply List.ext_getElem?
  intro x
  by_cases hx : x < n <;> simp [belAt, hx]
theorem addB_len (i : Nat) (bel : List (List Int)) (x : Nat) : (addB i bel x).length = bel.length := by simp [addB]
theorem addsB_len (i : Nat) : ∀ (L : List Nat) (bel : List (List Int)), (L.foldl (addB i) bel).length = bel.length
  | [], _ => rfl
  | x :: L, bel => by rw [List.foldl_cons, addsB_len i L, addB_len]
theorem addsB_get (i : Nat) : ∀ (L : List Nat) (bel : List (List Int)) (x : Nat), L.Nodup → x < bel.length → (L.foldl (addB i) bel).getD x [] = bel.getD x [] ++ if x ∈ L then [(i : Int)] else []
  | [], _, _, _, _ => by simp
  | y :: L, bel, x, hn, hx => by
    obtain ⟨h1, h2⟩ := List.nodup_cons.1 hn
    rw [List.foldl_cons, addsB_get i L _ x h2 (by rw [addB_len]; exact hx)]
    by_cases e : x = y
    · subst e
      simp [addB, List.getD_eq_getElem?_getD, hx, h1]
    · have : (addB i bel y).getD x [] = bel.getD x [] := by
        simp [addB, List.getD_eq_getElem?_getD, List.getElem?_set_ne (Ne.symm e)]
      rw [this]
      simp [e]
theorem memB_nd (b : List Bool) : (memB b).Nodup := List.Pairwise.filter _ List.nodup_range
theorem belAt_succ {n : Nat} {t : List (List Bool)} (hs : Sq n t) {i : Nat} (hi : i < n) : (memB (rowT t i)).foldl (addB i) (belAt t n i) = belAt t n (i + 1) := by
  apply List.ext_getElem?
  intro x
  by_cases hx : x < n
  · have h := addsB_get i (memB (rowT t i)) (belAt t n i) x (memB_nd _) (by rw [belAt_len]; exact hx)
    rw [belAt_get hx] at h
    have h2 := belAt_get (t := t) (n := n) (i := i + 1) hx
    have hl1 : x < ((memB (rowT t i)).foldl (addB i) (belAt t n i)).length := by rw [addsB_len, belAt_len]; exact hx
    have hl2 : x < (belAt t n (i + 1)).length := by rw [belAt_len]; exact hx
    rw [List.getD_eq_getElem?_getD, List.getElem?_eq_getElem hl1, Option.getD_some] at h
    rw [List.getD_eq_getElem?_getD, List.getElem?_eq_getElem hl2, Option.getD_some] at h2
    rw [List.getElem?_eq_getElem hl1, List.getElem?_eq_getElem hl2, h, h2, List.range_succ, List.filter_append, List.map_append]
    congr 2
    have hm : x ∈ memB (rowT t i) ↔ atT t i x = true := by
      rw [memB_mem, hs.rowLen hi]; exact ⟨fun h => h.2, fun h => ⟨hx, h⟩⟩
    by_cases ha : atT t i x = true
    · simp [hm, ha]
    · simp [hm, ha]
  · rw [List.getElem?_eq_none (by rw [addsB_len, belAt_len]; omega), List.getElem?_eq_none (by rw [belAt_len]; omega)]
theorem belAt_row {t : List (List Bool)} {n i x : Nat} (hx : x < n) : ((belAt t n i).getD x []).length ≤ i := by
  rw [belAt_get hx, List.length_map]
  have := List.length_filter_le (fun j => atT t j x) (List.range i)
  simpa using this
theorem mix_set {d d2 : List Bool} {j : Nat} (h : d.length = d2.length) (hj : j < d2.length) : (d2.take j ++ d.drop j).set j (d2.getD j false) = d2.take (j + 1) ++ d.drop (j + 1) := by
  apply List.ext_getElem?
  intro x
  rw [List.getElem?_set]
  have hl : (d2.take j).length = j := by simp; omega
  have hl1 : (d2.take (j + 1)).length = j + 1 := by simp; omega
  by_cases e : j = x
  · subst e
    rw [if_pos rfl, if_pos (by simp; omega), List.getElem?_append_left (by omega), List.getElem?_take_of_lt (by omega)]
    simp [List.getD_eq_getElem?_getD, List.getElem?_eq_getElem hj]
  · rw [if_neg e]
    by_cases hx : x < j
    · rw [List.getElem?_append_left (by omega), List.getElem?_append_left (by omega), List.getElem?_take_of_lt hx, List.getElem?_take_of_lt (by omega)]
    · rw [List.getElem?_append_right (by omega), List.getElem?_append_right (by omega), List.getElem?_drop, List.getElem?_drop, hl, hl1]
      congr 1; omega
structure BOk (n : Nat) (bel : List (List Int)) : Prop where
  small : n ≤ 512
  len : bel.length = n
  inb : ∀ i, i < n → (bel.getD i []).length ≤ 512 ∧ ∀ j ∈ bel.getD i [], 0 ≤ j ∧ j < (n : Int)
/-! ### Placing the rest. -/
def finStep (bel : List (List Int)) (n : Nat) (x : List Bool × List Int) : List Bool × List Int := (x.1.set (nxt (freeL bel x.1) n 0).toNat true, x.2 ++ [nxt (freeL bel x.1) n 0])
def finI (bel : List (List Int)) (n : Nat) (x : List Bool × List Int) : Nat → List Bool × List Int
  | 0 => x
  | j + 1 => finStep bel n (finI bel n x j)
theorem finI_d (bel : List (List Int)) (n : Nat) (x : List Bool × List Int) : ∀ j, (finI bel n x j).1.length = x.1.length
  | 0 => rfl
  | j + 1 => by simp [finI, finStep, finI_d bel n x j]
theorem finI_l (bel : List (List Int)) (n : Nat) (x : List Bool × List Int) : ∀ j, (finI bel n x j).2.length = x.2.length + j
  | 0 => rfl
  | j + 1 => by simp [finI, finStep, finI_l bel n x j]; omega
theorem nxt_lt (p : Nat → Bool) (n i : Nat) (h : i < n) : nxt p n i < (n : Int) := by
  rcases nxt_spec (p := p) (n := n) (n - i) i rfl with ⟨h1, _⟩ | ⟨k, h1, _, h2, _⟩ <;> rw [h1] <;> omega
/-! ### Extensions. -/
def exD (d : List Bool) (l : List Int) : List Bool := l.foldl (fun d i => d.set i.toNat true) d
theorem exD_len : ∀ (l : List Int) (d : List Bool), (exD d l).length = d.length
  | [], _ => rfl
  | i :: l, d => by
    show (exD (d.set i.toNat true) l).length = _
    rw [exD_len l]; simp
theorem exD_snoc (d : List Bool) (l : List Int) (i : Int) : exD d (l ++ [i]) = (exD d l).set i.toNat true := by simp [exD]
def exOk (n : Nat) (bel : List (List Int)) (d : List Bool) (i : Int) : Bool := decide (0 ≤ i) && decide (i < n) && freeL bel d i.toNat
def extGo (n : Nat) (bel : List (List Int)) : List Bool → List Int → Bool
  | _, [] => true
  | d, i :: l => exOk n bel d i && extGo n bel (d.set i.toNat true) l
theorem extGo_app (n : Nat) (bel : List (List Int)) : ∀ (l m : List Int) (d : List Bool), extGo n bel d (l ++ m) = (extGo n bel d l && extGo n bel (exD d l) m)
  | [], m, d => by simp [extGo, exD]
  | i :: l, m, d => by
    show (exOk n bel d i && extGo n bel (d.set i.toNat true) (l ++ m)) = ((exOk n bel d i && extGo n bel (d.set i.toNat true) l) && extGo n bel (exD (d.set i.toNat true) l) m)
    rw [extGo_app n bel l m, Bool.and_assoc]
def extB (n : Nat) (bel : List (List Int)) (l : List Int) : Bool := decide (l.length = n) && extGo n bel (List.replicate n false) l
theorem belL_ok {n : Nat} (t : List (List Bool)) (hn : n ≤ 512) : BOk n (belL n t) := by
  refine ⟨hn, belAt_len _ _ _, fun i hi => ⟨Nat.le_trans (belAt_row hi) hn, fun j hj => ?_⟩⟩
  unfold belL at hj
  rw [belAt_get hi] at hj
  obtain ⟨k, hk, rfl⟩ := List.mem_map.1 hj
  have := List.mem_range.1 (List.mem_filter.1 hk).1
  omega
end Go.AM

namespace Go.Proofs.X
open Go.AM Go
set_option maxRecDepth 100000
set_option maxHeartbeats 2000000
theorem open1_r (n : Nat) (bel : List (List Int)) (d : List Bool) (j : Int) (h0 : 0 ≤ j) (h1 : j < d.length) : Reads Tryd.prog 84 false [.int .i64 j, .rptr [.rptr (stV n bel d)]] (.bool (openB d j)) := by
  have hg := bools_getD (l := d) (i := j.toNat) (by omega)
  have hl := bools_len d
  unfold stV
  refine Reads.body (rs := [.tmp 3]) Tryd.func84 rfl Tryd.ntmps84 rfl (by simp) ?_
  generalize hQr : retQ _ _ _ = Qr
  refine AW.seq fun K1 hK1 => ?_
  refine AW.regionK 0 (fun _ => none) [0, 1] [] ?_
  simp only [go_sem, reduceIte, reduceCtorEq, zA, zM, zE, zL, zD, zS, zP, zB, zI, zR, hg, hl]
  repeat with_reducible refine cj ?_ ?_
  all_goals try first | omega
  refine hK1 _ _ _ ?_; clear hK1
  refine AW.seq fun K2 hK2 => ?_
  refine AW.regionK 0 (fun _ => none) [3] [] ?_
  simp only [go_sem, reduceIte, reduceCtorEq, zA, zM, zE, zL, zD, zS, zP, zB, zI, zR, hg, hl]
  repeat with_reducible refine cj ?_ ?_
  all_goals try first | omega
  refine hK2 _ _ _ ?_; clear hK2
  refine AW.ret ?_
  rw [← hQr]
  simp only [go_sem, reduceIte, reduceCtorEq, zA, zM, zE, zL, zD, zS, zP, zB, zI, zR, hg, hl]
  exact Wk.of_eq (by simp [openB])
theorem ixopen_r (n : Nat) (bel : List (List Int)) (d : List Bool) (l : List Int) (hl : l.length ≤ 9223372036854775807) (hin : ∀ j ∈ l, 0 ≤ j ∧ j < d.length) : Reads Tryd.prog 88 false [.rsl 1 (ints l), .fn 84 [.rptr [.rptr (stV n bel d)]]] (.int .i64 (ixf (openB d) l)) := by
  have hbp := fun j h => open1_r n bel d j (hin j h).1 (hin j h).2
  refine Reads.body (rs := [.tmp 4]) Tryd.func88 rfl Tryd.ntmps88 rfl (by simp) ?_
  generalize hQr : retQ _ _ _ = Qr
  refine AW.seq fun K1 hK1 => ?_
  refine AW.regionK 0 (fun _ => none) [0, 1] [] ?_
  simp only [go_sem, reduceIte, reduceCtorEq, zA, zM, zE, zL, zD, zS, zP, zB, zI, zR, ints_len]
  repeat with_reducible refine cj ?_ ?_
  all_goals try first | omega
  refine hK1 _ _ _ ?_; clear hK1
  refine AW.seq fun K2 hK2 => ?_
  refine AW.seq fun K3 hK3 => ?_
  refine AW.regionK 0 (fun _ => none) [0, 1, 7, 8] [] ?_
  simp only [go_sem, reduceIte, reduceCtorEq, zA, zM, zE, zL, zD, zS, zP, zB, zI, zR, ints_len]
  repeat with_reducible refine cj ?_ ?_
  all_goals try first | omega
  refine hK3 _ _ _ ?_; clear hK3
  refine AW.block ?_
  refine AW.loopE (fun mm ee ss kk => ∃ (j : Nat), l.length - j = mm ∧ ee = [(0, .rsl 1 (ints l)), (1, .fn 84 [.rptr [.rptr (stV n bel d)]]), (7, .int .i64 l.length), (8, .int .i64 (j : Nat))] ∧ ss = [] ∧ (j ≤ l.length ∧ (l.take j).any (openB d) = false)) ?_ ?_
  · refine ⟨_, 0, rfl, ?henv, ?hstore, ?hst⟩
    case henv =>
      repeat' (first | rfl | refine env_cons ?_ ?_ | refine st_cons ?_ ?_ ?_ ?_ | refine int_eq ?_ | refine bool_eq ?_ | refine rsl_eq ?_ | refine osl_eq ?_ | refine sl_eq ?_ ?_ ?_ | refine ptr_eq ?_ ?_ ?_ | refine agg_eq ?_ | refine es_cons ?_ ?_ | refine row_cons ?_ ?_)
      all_goals (first | (simp; done) | omega | (simp; omega))
    case hstore =>
      repeat' (first | rfl | refine env_cons ?_ ?_ | refine st_cons ?_ ?_ ?_ ?_ | refine int_eq ?_ | refine bool_eq ?_ | refine rsl_eq ?_ | refine osl_eq ?_ | refine sl_eq ?_ ?_ ?_ | refine ptr_eq ?_ ?_ ?_ | refine agg_eq ?_ | refine es_cons ?_ ?_ | refine row_cons ?_ ?_)
      all_goals (first | (simp; done) | omega | (simp; omega))
    case hst =>
      first | trivial | omega | (simp; done) | (simp; omega)
  rintro mm ee ss kk ⟨j, rfl, rfl, rfl, hI⟩
  generalize hQl1 : thenQ _ _ = Ql1
  obtain ⟨hj, hall⟩ := hI
  refine AW.seq fun K4 hK4 => ?_
  refine AW.regionK 0 (fun _ => none) [0, 1, 7, 8, 9] [] ?_
  simp only [go_sem, reduceIte, reduceCtorEq, zA, zM, zE, zL, zD, zS, zP, zB, zI, zR, ints_len]
  repeat with_reducible refine cj ?_ ?_
  all_goals try first | omega
  refine hK4 _ _ _ ?_; clear hK4
  refine AW.seq fun K5 hK5 => ?_
  refine AW.cond rfl (by simp only [go_sem, reduceIte, reduceCtorEq, zA, zM, zE, zL, zD, zS, zP, zB, zI, zR]) ?_ ?_
  · intro hb
    try simp only [hB, decide_eq_true_eq, decide_eq_false_iff_not] at hb
    obtain ⟨x, hx⟩ := getI (l := l) (j := j) (by omega)
    have hgx := ints_get hx
    have hats := any_take_succ (p := openB d) hx
    have hbx := hbp x (List.mem_of_getElem? hx)
    refine AW.skip ?_
    refine hK5 _ _ _ ?_; clear hK5
    refine AW.seq fun K6 hK6 => ?_
    refine AW.block ?_
    refine AW.seq fun K7 hK7 => ?_
    refine AW.regionK 0 (fun _ => none) [0, 1, 5, 7, 8] [] ?_
    simp only [go_sem, reduceIte, reduceCtorEq, zA, zM, zE, zL, zD, zS, zP, zB, zI, zR, ints_len]
    repeat with_reducible refine cj ?_ ?_
    all_goals try first | omega
    refine hK7 _ _ _ ?_; clear hK7
    refine AW.seq fun K8 hK8 => ?_
    refine AW.regionK 0 (fun ii => if ii = 5 then some (.reads false (.bool (openB d x))) else none) [0, 1, 5, 7, 8, 16] [] ?_
    simp only [go_sem, reduceIte, reduceCtorEq, zA, zM, zE, zL, zD, zS, zP, zB, zI, zR, ints_len, hgx]
    repeat with_reducible refine cj ?_ ?_
    all_goals try first | (exact hbx) | omega | exact ent (by kernel_rfl)
    refine hK8 _ _ _ ?_; clear hK8
    refine AW.cond rfl (by simp only [go_sem, reduceIte, reduceCtorEq, zA, zM, zE, zL, zD, zS, zP, zB, zI, zR]) ?_ ?_
    · intro hb
      try simp only [hB, decide_eq_true_eq, decide_eq_false_iff_not] at hb
      refine AW.seq fun K9 hK9 => ?_
      refine AW.regionK 0 (fun _ => none) [4] [] ?_
      simp only [go_sem, reduceIte, reduceCtorEq, zA, zM, zE, zL, zD, zS, zP, zB, zI, zR, ints_len]
      repeat with_reducible refine cj ?_ ?_
      all_goals try first | omega
      refine hK9 _ _ _ ?_; clear hK9
      refine AW.ret ?_
      rw [← hQl1]
      rw [← hQr]
      simp only [go_sem, reduceIte, reduceCtorEq, zA, zM, zE, zL, zD, zS, zP, zB, zI, zR, ints_len]
      exact Wk.of_eq (by rw [ixf_at hx hb hall])
    · intro hb
      try simp only [hB, decide_eq_true_eq, decide_eq_false_iff_not] at hb
      refine AW.skip ?_
      refine hK6 _ _ _ ?_; clear hK6
      refine AW.regionK 0 (fun _ => none) [0, 1, 7, 8] [] ?_
      simp only [go_sem, reduceIte, reduceCtorEq, zA, zM, zE, zL, zD, zS, zP, zB, zI, zR, ints_len]
      repeat with_reducible refine cj ?_ ?_
      all_goals try first | omega
      rw [← hQl1]
      change Exists _
      refine ⟨_, ?hm, j + 1, rfl, ?henv, ?hstore, ?hst⟩
      case henv =>
        repeat' (first | rfl | refine env_cons ?_ ?_ | refine st_cons ?_ ?_ ?_ ?_ | refine int_eq ?_ | refine bool_eq ?_ | refine rsl_eq ?_ | refine osl_eq ?_ | refine sl_eq ?_ ?_ ?_ | refine ptr_eq ?_ ?_ ?_ | refine agg_eq ?_ | refine es_cons ?_ ?_ | refine row_cons ?_ ?_)
        all_goals (first | (simp; done) | omega | (simp; omega))
      case hstore =>
        repeat' (first | rfl | refine env_cons ?_ ?_ | refine st_cons ?_ ?_ ?_ ?_ | refine int_eq ?_ | refine bool_eq ?_ | refine rsl_eq ?_ | refine osl_eq ?_ | refine sl_eq ?_ ?_ ?_ | refine ptr_eq ?_ ?_ ?_ | refine agg_eq ?_ | refine es_cons ?_ ?_ | refine row_cons ?_ ?_)
        all_goals (first | (simp; done) | omega | (simp; omega))
      case hst =>
        exact ⟨by omega, by rw [hats, hall, hb]; rfl⟩
      case hm => omega
  · intro hb
    try simp only [hB, decide_eq_true_eq, decide_eq_false_iff_not] at hb
    refine AW.keep [] [] ?_
    try simp only [go_sem, reduceIte, reduceCtorEq, zA, zM, zE, zL, zD, zS, zP, zB, zI, zR]
    refine AW.exit ?_
    rw [← hQl1]
    refine hK2 _ _ _ ?_; clear hK2
    refine AW.seq fun K10 hK10 => ?_
    refine AW.regionK 0 (fun _ => none) [4] [] ?_
    simp only [go_sem, reduceIte, reduceCtorEq, zA, zM, zE, zL, zD, zS, zP, zB, zI, zR, ints_len]
    repeat with_reducible refine cj ?_ ?_
    all_goals try first | omega
    refine hK10 _ _ _ ?_; clear hK10
    refine AW.ret ?_
    rw [← hQr]
    simp only [go_sem, reduceIte, reduceCtorEq, zA, zM, zE, zL, zD, zS, zP, zB, zI, zR, ints_len]
    exact Wk.of_eq (by rw [List.take_of_length_le (by omega)] at hall; rw [ixf_none hall])
end Go.Proofs.X

namespace Go.Proofs.X
open Go.AM Go
set_option maxRecDepth 100000
set_option maxHeartbeats 2000000
theorem ctopen_r (n : Nat) (bel : List (List Int)) (d : List Bool) (l : List Int) (hl : l.length ≤ 9223372036854775807) (hin : ∀ j ∈ l, 0 ≤ j ∧ j < d.length) : Reads Tryd.prog 83 false [.rsl 1 (ints l), .fn 84 [.rptr [.rptr (stV n bel d)]]] (.bool (l.any (openB d))) := by
  have h := ixopen_r n bel d l hl hin
  have hge := ixf_ge (openB d) l
  refine Reads.body (rs := [.tmp 4]) Tryd.func83 rfl Tryd.ntmps83 rfl (by simp) ?_
  generalize hQr : retQ _ _ _ = Qr
  refine AW.seq fun K1 hK1 => ?_
  refine AW.regionK 0 (fun _ => none) [0, 1] [] ?_
  simp only [go_sem, reduceIte, reduceCtorEq, zA, zM, zE, zL, zD, zS, zP, zB, zI, zR]
  repeat with_reducible refine cj ?_ ?_
  all_goals try first | omega
  refine hK1 _ _ _ ?_; clear hK1
  refine AW.seq fun K2 hK2 => ?_
  refine AW.regionK 0 (fun ii => if ii = 2 then some (.reads false (.int .i64 (ixf (openB d) l))) else none) [4] [] ?_
  simp only [go_sem, reduceIte, reduceCtorEq, zA, zM, zE, zL, zD, zS, zP, zB, zI, zR]
  repeat with_reducible refine cj ?_ ?_
  all_goals try first | (exact h) | omega | exact ent (by kernel_rfl)
  refine hK2 _ _ _ ?_; clear hK2
  refine AW.ret ?_
  rw [← hQr]
  simp only [go_sem, reduceIte, reduceCtorEq, zA, zM, zE, zL, zD, zS, zP, zB, zI, zR]
  exact Wk.of_eq (by rw [hge])
theorem free_r {n : Nat} {bel : List (List Int)} (hb0 : BOk n bel) (d : List Bool) (hd : d.length = n) (i : Nat) (hi : i < n) : Reads Tryd.prog 72 false [.rptr (stV n bel d), .int .i64 i] (.bool (freeL bel d i)) := by
  obtain ⟨hs, hlen, hin⟩ := hb0
  obtain ⟨hil, hij⟩ := hin i hi
  have h := Reads.flat (ctopen_r n bel d (bel.getD i []) (by omega) (fun j hj => by rw [hd]; exact hij j hj)) rfl
  have hg := bools_getD (l := d) (i := i) (by omega)
  have hl := bools_len d
  have hg2 := lisR_get (cs := bel) (i := i) (by omega)
  have hl2 := lisR_len bel
  unfold stV at *
  refine Reads.body (rs := [.tmp 4]) Tryd.func72 rfl Tryd.ntmps72 rfl (by simp) ?_
  generalize hQr : retQ _ _ _ = Qr
  refine AW.seq fun K1 hK1 => ?_
  refine AW.regionK 0 (fun _ => none) [1, 2] [2] ?_
  simp only [go_sem, reduceIte, reduceCtorEq, zA, zM, zE, zL, zD, zS, zP, zB, zI, zR, hg, hl, hg2, hl2, Int.toNat_natCast]
  repeat with_reducible refine cj ?_ ?_
  all_goals try first | omega
  refine hK1 _ _ _ ?_; clear hK1
  refine AW.seq fun K2 hK2 => ?_
  refine AW.regionK 0 (fun ii => if ii = 17 then some (.reads true (.bool ((bel.getD i []).any (openB d)))) else none) [4] [] ?_
  simp only [go_sem, reduceIte, reduceCtorEq, zA, zM, zE, zL, zD, zS, zP, zB, zI, zR, hg, hl, hg2, hl2, Int.toNat_natCast]
  repeat with_reducible refine cj ?_ ?_
  all_goals try first | (exact h) | (intros; (repeat' apply And.intro) <;> first | assumption | (exact h)) | omega | exact ent (by kernel_rfl) | (intro hgd; exact absurd hgd (by decide)) | rfl | (simp only [go_sem, reduceIte, reduceCtorEq, zA, zM, zE, zL, zD, zS, zP, zB, zI, zR, hg, hl, hg2, hl2, Int.toNat_natCast]; done) | (intro _hgd; simp_all [go_sem]; done)
  refine hK2 _ _ _ ?_; clear hK2
  refine AW.ret ?_
  rw [← hQr]
  simp only [go_sem, reduceIte, reduceCtorEq, zA, zM, zE, zL, zD, zS, zP, zB, zI, zR, hg, hl, hg2, hl2, Int.toNat_natCast]
  exact Wk.of_eq (by simp [freeL])
theorem next_r {n : Nat} {bel : List (List Int)} (hb0 : BOk n bel) (d : List Bool) (hd : d.length = n) (i0 : Nat) (hi0 : i0 ≤ 512) : Reads Tryd.prog 49 false [.rptr (stV n bel d), .int .i64 i0] (.int .i64 (nxt (freeL bel d) n i0)) := by
  have hf := fun i hi => free_r hb0 d hd i hi
  obtain ⟨hs, hlen, hin⟩ := hb0
  unfold stV at *
  refine Reads.body (rs := [.tmp 4]) Tryd.func49 rfl Tryd.ntmps49 rfl (by simp) ?_
  generalize hQr : retQ _ _ _ = Qr
  refine AW.seq fun K1 hK1 => ?_
  refine AW.regionK 0 (fun _ => none) [0, 1] [] ?_
  simp only [go_sem, reduceIte, reduceCtorEq, zA, zM, zE, zL, zD, zS, zP, zB, zI, zR]
  repeat with_reducible refine cj ?_ ?_
  all_goals try first | omega
  refine hK1 _ _ _ ?_; clear hK1
  refine AW.seq fun K2 hK2 => ?_
  refine AW.seq fun K3 hK3 => ?_
  refine AW.regionK 0 (fun _ => none) [0, 5] [] ?_
  simp only [go_sem, reduceIte, reduceCtorEq, zA, zM, zE, zL, zD, zS, zP, zB, zI, zR]
  repeat with_reducible refine cj ?_ ?_
  all_goals try first | omega
  refine hK3 _ _ _ ?_; clear hK3
  refine AW.block ?_
  refine AW.loopE (fun mm ee ss kk => ∃ (j : Nat), n - j = mm ∧ ee = [(0, .rptr [.int .i64 n, .rsl 1 (lisR bel), .rsl 1 (bools d)]), (5, .int .i64 (j : Nat))] ∧ ss = [] ∧ (j ≤ 512 ∧ nxt (freeL bel d) n i0 = nxt (freeL bel d) n j)) ?_ ?_
  · refine ⟨_, i0, rfl, ?henv, ?hstore, ?hst⟩
    case henv =>
      repeat' (first | rfl | refine env_cons ?_ ?_ | refine st_cons ?_ ?_ ?_ ?_ | refine int_eq ?_ | refine bool_eq ?_ | refine rsl_eq ?_ | refine osl_eq ?_ | refine sl_eq ?_ ?_ ?_ | refine ptr_eq ?_ ?_ ?_ | refine agg_eq ?_ | refine es_cons ?_ ?_ | refine row_cons ?_ ?_)
      all_goals (first | (simp; done) | omega | (simp; omega))
    case hstore =>
      repeat' (first | rfl | refine env_cons ?_ ?_ | refine st_cons ?_ ?_ ?_ ?_ | refine int_eq ?_ | refine bool_eq ?_ | refine rsl_eq ?_ | refine osl_eq ?_ | refine sl_eq ?_ ?_ ?_ | refine ptr_eq ?_ ?_ ?_ | refine agg_eq ?_ | refine es_cons ?_ ?_ | refine row_cons ?_ ?_)
      all_goals (first | (simp; done) | omega | (simp; omega))
    case hst =>
      first | trivial | omega | (simp; done) | (simp; omega)
  rintro mm ee ss kk ⟨j, rfl, rfl, rfl, hI⟩
  generalize hQl1 : thenQ _ _ = Ql1
  obtain ⟨hj, hnx⟩ := hI
  refine AW.seq fun K4 hK4 => ?_
  refine AW.seq fun K5 hK5 => ?_
  refine AW.regionK 0 (fun _ => none) [0, 5, 12] [] ?_
  simp only [go_sem, reduceIte, reduceCtorEq, zA, zM, zE, zL, zD, zS, zP, zB, zI, zR]
  repeat with_reducible refine cj ?_ ?_
  all_goals try first | omega
  refine hK5 _ _ _ ?_; clear hK5
  refine AW.cond rfl (by simp only [go_sem, reduceIte, reduceCtorEq, zA, zM, zE, zL, zD, zS, zP, zB, zI, zR]) ?_ ?_
  · intro hb
    try simp only [hB, decide_eq_true_eq, decide_eq_false_iff_not] at hb
    have hj2 : j < n := by omega
    have hfj := hf j hj2
    refine AW.skip ?_
    refine hK4 _ _ _ ?_; clear hK4
    refine AW.seq fun K6 hK6 => ?_
    refine AW.block ?_
    refine AW.seq fun K7 hK7 => ?_
    refine AW.regionK 0 (fun ii => if ii = 2 then some (.reads false (.bool (freeL bel d j))) else none) [0, 5, 17] [] ?_
    simp only [go_sem, reduceIte, reduceCtorEq, zA, zM, zE, zL, zD, zS, zP, zB, zI, zR]
    repeat with_reducible refine cj ?_ ?_
    all_goals try first | (exact hfj) | omega | exact ent (by kernel_rfl)
    refine hK7 _ _ _ ?_; clear hK7
    refine AW.cond rfl (by simp only [go_sem, reduceIte, reduceCtorEq, zA, zM, zE, zL, zD, zS, zP, zB, zI, zR]) ?_ ?_
    · intro hb
      try simp only [hB, decide_eq_true_eq, decide_eq_false_iff_not] at hb
      refine AW.seq fun K8 hK8 => ?_
      refine AW.regionK 0 (fun _ => none) [4] [] ?_
      simp only [go_sem, reduceIte, reduceCtorEq, zA, zM, zE, zL, zD, zS, zP, zB, zI, zR]
      repeat with_reducible refine cj ?_ ?_
      all_goals try first | omega
      refine hK8 _ _ _ ?_; clear hK8
      refine AW.ret ?_
      rw [← hQl1]
      rw [← hQr]
      simp only [go_sem, reduceIte, reduceCtorEq, zA, zM, zE, zL, zD, zS, zP, zB, zI, zR]
      exact Wk.of_eq (by rw [hnx, nxt_hit hj2 hb])
    · intro hb
      try simp only [hB, decide_eq_true_eq, decide_eq_false_iff_not] at hb
      refine AW.skip ?_
      refine hK6 _ _ _ ?_; clear hK6
      refine AW.regionK 0 (fun _ => none) [0, 5] [] ?_
      simp only [go_sem, reduceIte, reduceCtorEq, zA, zM, zE, zL, zD, zS, zP, zB, zI, zR]
      repeat with_reducible refine cj ?_ ?_
      all_goals try first | omega
      rw [← hQl1]
      change Exists _
      refine ⟨_, ?hm, j + 1, rfl, ?henv, ?hstore, ?hst⟩
      case henv =>
        repeat' (first | rfl | refine env_cons ?_ ?_ | refine st_cons ?_ ?_ ?_ ?_ | refine int_eq ?_ | refine bool_eq ?_ | refine rsl_eq ?_ | refine osl_eq ?_ | refine sl_eq ?_ ?_ ?_ | refine ptr_eq ?_ ?_ ?_ | refine agg_eq ?_ | refine es_cons ?_ ?_ | refine row_cons ?_ ?_)
        all_goals (first | (simp; done) | omega | (simp; omega))
      case hstore =>
        repeat' (first | rfl | refine env_cons ?_ ?_ | refine st_cons ?_ ?_ ?_ ?_ | refine int_eq ?_ | refine bool_eq ?_ | refine rsl_eq ?_ | refine osl_eq ?_ | refine sl_eq ?_ ?_ ?_ | refine ptr_eq ?_ ?_ ?_ | refine agg_eq ?_ | refine es_cons ?_ ?_ | refine row_cons ?_ ?_)
        all_goals (first | (simp; done) | omega | (simp; omega))
      case hst =>
        exact ⟨by omega, by rw [hnx, nxt_miss hj2 hb]⟩
      case hm => omega
  · intro hb
    try simp only [hB, decide_eq_true_eq, decide_eq_false_iff_not] at hb
    refine AW.keep [] [] ?_
    try simp only [go_sem, reduceIte, reduceCtorEq, zA, zM, zE, zL, zD, zS, zP, zB, zI, zR]
    refine AW.exit ?_
    rw [← hQl1]
    refine hK2 _ _ _ ?_; clear hK2
    refine AW.seq fun K9 hK9 => ?_
    refine AW.regionK 0 (fun _ => none) [4] [] ?_
    simp only [go_sem, reduceIte, reduceCtorEq, zA, zM, zE, zL, zD, zS, zP, zB, zI, zR]
    repeat with_reducible refine cj ?_ ?_
    all_goals try first | omega
    refine hK9 _ _ _ ?_; clear hK9
    refine AW.ret ?_
    rw [← hQr]
    simp only [go_sem, reduceIte, reduceCtorEq, zA, zM, zE, zL, zD, zS, zP, zB, zI, zR]
    exact Wk.of_eq (by rw [hnx, nxt_end (by omega)])
theorem key_r (n : Nat) (bel : List (List Int)) (d : List Bool) (hd : d.length = n) (hn : n ≤ 512) : Reads Tryd.prog 57 false [.rptr (stV n bel d)] (.str (keyS d)) := by
  have hl := bools_len d
  have hz : List.replicate n [AV.int .u8 0] = byB (fillB d n 0) := by rw [fillB_zero, byB_zero]
  unfold stV
  refine Reads.body (rs := [.tmp 2]) Tryd.func57 rfl Tryd.ntmps57 rfl (by simp) ?_
  generalize hQr : retQ _ _ _ = Qr
  refine AW.seq fun K1 hK1 => ?_
  refine AW.regionK 0 (fun _ => none) [0] [] ?_
  simp only [go_sem, reduceIte, reduceCtorEq, zA, zM, zE, zL, zD, zS, zP, zB, zI, zR]
  repeat with_reducible refine cj ?_ ?_
  all_goals try first | omega
  refine hK1 _ _ _ ?_; clear hK1
  refine AW.seq fun K2 hK2 => ?_
  refine AW.regionK 0 (fun _ => none) [0, 3] [10] ?_
  simp only [go_sem, reduceIte, reduceCtorEq, zA, zM, zE, zL, zD, zS, zP, zB, zI, zR]
  repeat with_reducible refine cj ?_ ?_
  all_goals try first | omega
  refine hK2 _ _ _ ?_; clear hK2
  refine AW.seq fun K3 hK3 => ?_
  refine AW.seq fun K4 hK4 => ?_
  refine AW.regionK 0 (fun _ => none) [3, 14, 15, 16] [10] ?_
  simp only [go_sem, reduceIte, reduceCtorEq, zA, zM, zE, zL, zD, zS, zP, zB, zI, zR]
  repeat with_reducible refine cj ?_ ?_
  all_goals try first | omega
  refine hK4 _ _ _ ?_; clear hK4
  refine AW.block ?_
  refine AW.loopE (fun mm ee ss kk => ∃ (j g v : Nat), n - j = mm ∧ ee = [(3, .sl ⟨10, g, none⟩ 0 n none), (14, .rsl 1 (bools d)), (15, .int .i64 d.length), (16, .int .i64 (j : Nat))] ∧ ss = [(10, some ⟨g, v, 1, byB (fillB d n j)⟩)] ∧ (j ≤ n)) ?_ ?_
  · refine ⟨_, 0, ?_, ?_, rfl, ?henv, ?hstore, ?hst⟩
    case henv =>
      repeat' (first | rfl | refine env_cons ?_ ?_ | refine st_cons ?_ ?_ ?_ ?_ | refine int_eq ?_ | refine bool_eq ?_ | refine rsl_eq ?_ | refine osl_eq ?_ | refine sl_eq ?_ ?_ ?_ | refine ptr_eq ?_ ?_ ?_ | refine agg_eq ?_ | refine es_cons ?_ ?_ | refine row_cons ?_ ?_)
      all_goals (first | (simp; done) | omega | (simp; omega))
    case hstore =>
      repeat' (first | rfl | refine env_cons ?_ ?_ | refine st_cons ?_ ?_ ?_ ?_ | refine int_eq ?_ | refine bool_eq ?_ | refine rsl_eq ?_ | refine osl_eq ?_ | refine sl_eq ?_ ?_ ?_ | refine ptr_eq ?_ ?_ ?_ | refine agg_eq ?_ | refine es_cons ?_ ?_ | refine row_cons ?_ ?_)
      rw [hz]
    case hst =>
      first | trivial | omega | (simp; done) | (simp; omega)
  rintro mm ee ss kk ⟨j, g, v, rfl, rfl, rfl, hI⟩
  generalize hQl1 : thenQ _ _ = Ql1
  have hfl := fillB_len hd hI
  have hbl := byB_len (fillB d n j)
  rw [hfl] at hbl
  refine AW.seq fun K5 hK5 => ?_
  refine AW.regionK 0 (fun _ => none) [3, 14, 15, 16, 17] [10] ?_
  simp only [go_sem, reduceIte, reduceCtorEq, zA, zM, zE, zL, zD, zS, zP, zB, zI, zR]
  repeat with_reducible refine cj ?_ ?_
  all_goals try first | omega
  refine hK5 _ _ _ ?_; clear hK5
  refine AW.seq fun K6 hK6 => ?_
  refine AW.cond rfl (by simp only [go_sem, reduceIte, reduceCtorEq, zA, zM, zE, zL, zD, zS, zP, zB, zI, zR]) ?_ ?_
  · intro hb
    try simp only [hB, decide_eq_true_eq, decide_eq_false_iff_not] at hb
    have hj : j < n := by omega
    have hg := bools_getD (l := d) (i := j) (by omega)
    have hst := byB_set (fillB d n j) j
    have hs := fillB_succ (n := n) (i := j) hd hj
    have hs1 : d.getD j false = true → (fillB d n j).set j true = fillB d n (j + 1) := fun e => by rw [← hs, e]
    have hs0 : d.getD j false = false → fillB d n j = fillB d n (j + 1) := fun e => by rw [← hs, e, ← fillB_get (b := d) hd hj]; exact (set_same _ _ _).symm
    have hgb := byB_get (d := fillB d n j) (i := j) (by omega)
    refine AW.skip ?_
    refine hK6 _ _ _ ?_; clear hK6
    refine AW.seq fun K7 hK7 => ?_
    refine AW.block ?_
    refine AW.seq fun K8 hK8 => ?_
    refine AW.regionK 0 (fun _ => none) [3, 4, 5, 14, 15, 16] [10] ?_
    simp only [go_sem, reduceIte, reduceCtorEq, zA, zM, zE, zL, zD, zS, zP, zB, zI, zR, hg]
    repeat with_reducible refine cj ?_ ?_
    all_goals try first | omega
    refine hK8 _ _ _ ?_; clear hK8
    refine AW.seq fun K9 hK9 => ?_
    refine AW.regionK 0 (fun _ => none) [3, 4, 14, 15, 16, 21] [10] ?_
    simp only [go_sem, reduceIte, reduceCtorEq, zA, zM, zE, zL, zD, zS, zP, zB, zI, zR]
    repeat with_reducible refine cj ?_ ?_
    all_goals try first | omega
    refine hK9 _ _ _ ?_; clear hK9
    have hJ2 : ∀ (v1 : Nat) (kk : Nat), K7 [(3, .sl ⟨10, g, none⟩ 0 n none), (14, .rsl 1 (bools d)), (15, .int .i64 d.length), (16, .int .i64 (j : Nat))] [(10, some ⟨g, v1, 1, byB (fillB d n (j + 1))⟩)] kk := by
      intro v1 kk
      refine hK7 _ _ _ ?_; clear hK7
      refine AW.regionK 0 (fun _ => none) [3, 14, 15, 16] [10] ?_
      simp only [go_sem, reduceIte, reduceCtorEq, zA, zM, zE, zL, zD, zS, zP, zB, zI, zR]
      repeat with_reducible refine cj ?_ ?_
      all_goals try first | omega
      rw [← hQl1]
      change Exists _
      refine ⟨_, ?hm, j + 1, ?_, ?_, rfl, ?henv, ?hstore, ?hst⟩
      case henv =>
        repeat' (first | rfl | refine env_cons ?_ ?_ | refine st_cons ?_ ?_ ?_ ?_ | refine int_eq ?_ | refine bool_eq ?_ | refine rsl_eq ?_ | refine osl_eq ?_ | refine sl_eq ?_ ?_ ?_ | refine ptr_eq ?_ ?_ ?_ | refine agg_eq ?_ | refine es_cons ?_ ?_ | refine row_cons ?_ ?_)
        all_goals (first | (simp; done) | omega | (simp; omega))
      case hstore =>
        repeat' (first | rfl | refine env_cons ?_ ?_ | refine st_cons ?_ ?_ ?_ ?_ | refine int_eq ?_ | refine bool_eq ?_ | refine rsl_eq ?_ | refine osl_eq ?_ | refine sl_eq ?_ ?_ ?_ | refine ptr_eq ?_ ?_ ?_ | refine agg_eq ?_ | refine es_cons ?_ ?_ | refine row_cons ?_ ?_)
        all_goals (first | (simp; done) | omega | (simp; omega))
      case hst =>
        omega
      case hm => omega
    refine AW.cond rfl (by simp only [go_sem, reduceIte, reduceCtorEq, zA, zM, zE, zL, zD, zS, zP, zB, zI, zR]) ?_ ?_
    · intro hb
      try simp only [hB, decide_eq_true_eq, decide_eq_false_iff_not] at hb
      refine AW.regionK 0 (fun _ => none) [3, 14, 15, 16] [10] ?_
      simp only [go_sem, reduceIte, reduceCtorEq, zA, zM, zE, zL, zD, zS, zP, zB, zI, zR, hbl, hgb, hst]
      repeat with_reducible refine cj ?_ ?_
      all_goals try first | omega
      first | (rw [hs1 hb]; exact hJ2 _ _) | (rw [hs0 hb]; exact hJ2 _ _)
    · intro hb
      try simp only [hB, decide_eq_true_eq, decide_eq_false_iff_not] at hb
      refine AW.keep [3, 14, 15, 16] [10] ?_
      try simp only [go_sem, reduceIte, reduceCtorEq, zA, zM, zE, zL, zD, zS, zP, zB, zI, zR]
      refine AW.skip ?_
      first | (rw [hs1 hb]; exact hJ2 _ _) | (rw [hs0 hb]; exact hJ2 _ _)
  · intro hb
    try simp only [hB, decide_eq_true_eq, decide_eq_false_iff_not] at hb
    refine AW.keep [3] [10] ?_
    try simp only [go_sem, reduceIte, reduceCtorEq, zA, zM, zE, zL, zD, zS, zP, zB, zI, zR]
    refine AW.exit ?_
    rw [← hQl1]
    refine hK3 _ _ _ ?_; clear hK3
    refine AW.seq fun K10 hK10 => ?_
    rw [show j = n by omega, fillB_all hd]
    have hbl2 := byB_len d
    rw [hd] at hbl2
    have htk : (byB d).take n = byB d := List.take_of_length_le (by omega)
    refine AW.freezeK [10] [3] [] [] ?_
    simp only [go_sem, reduceIte, zE]
    refine AW.regionK 0 (fun _ => none) [2] [] ?_
    simp only [go_sem, reduceIte, reduceCtorEq, zA, zM, zE, zL, zD, zS, zP, zB, zI, zR, htk, Tryd.underlying97]
    repeat with_reducible refine cj ?_ ?_
    all_goals try first | (exact byB_ok d) | omega
    refine hK10 _ _ _ ?_; clear hK10
    refine AW.ret ?_
    rw [← hQr]
    simp only [go_sem, reduceIte, reduceCtorEq, zA, zM, zE, zL, zD, zS, zP, zB, zI, zR]
    exact Wk.refl _
end Go.Proofs.X

namespace Go.Proofs.X
open Go.AM Go
set_option maxRecDepth 100000
set_option maxHeartbeats 2000000
theorem load_u {n : Nat} {bel : List (List Int)} (hn : n ≤ 512) (d d2 : List Bool) (hd : d.length = n) (hd2 : d2.length = n) (g0 v0 : Nat) :
    Upd Tryd.prog 82 [(0, some ⟨g0, v0, 3, [stO n bel d]⟩)] [.ptr ⟨0, g0, none⟩ 0 0, .str (keyS d2)] (fun _ => .tup []) (fun k => [(0, some ⟨g0, k, 3, [stO n bel d2]⟩)]) := by
  unfold stO
  have hsz := keyS_size d2
  refine Upd.of_body (rs := []) Tryd.func82 rfl Tryd.ntmps82 rfl (by simp) ?_
  intro k0 k hk0 hk1
  generalize hQr : retQ _ _ _ = Qr
  refine AW.seq fun K1 hK1 => ?_
  refine AW.regionK 100 (fun _ => none) [0, 1, 9, 10] [0] ?_
  simp only [go_sem, reduceIte, reduceCtorEq, zA, zM, zE, zL, zD, zS, zP, zB, zI, zR, bools_len]
  repeat with_reducible refine cj ?_ ?_
  all_goals try first | omega
  refine hK1 _ _ _ ?_; clear hK1
  refine AW.block ?_
  refine AW.loopE (fun mm ee ss kk => ∃ (j v : Nat), n - j = mm ∧ ee = [(0, .ptr ⟨0, g0, none⟩ 0 0), (1, .str (keyS d2)), (9, .int .i64 d.length), (10, .int .i64 (j : Nat))] ∧ ss = [(0, some ⟨g0, v, 3, [[.int .i64 n, .rsl 1 (lisR bel), .osl 1 (bools (d2.take j ++ d.drop j))]]⟩)] ∧ (j ≤ n)) ?_ ?_
  · refine ⟨_, 0, ?_, rfl, ?henv, ?hstore, ?hst⟩
    case henv =>
      repeat' (first | rfl | refine env_cons ?_ ?_ | refine st_cons ?_ ?_ ?_ ?_ | refine int_eq ?_ | refine bool_eq ?_ | refine rsl_eq ?_ | refine osl_eq ?_ | refine sl_eq ?_ ?_ ?_ | refine ptr_eq ?_ ?_ ?_ | refine agg_eq ?_ | refine es_cons ?_ ?_ | refine row_cons ?_ ?_)
      all_goals (first | (simp; done) | omega | (simp; omega))
    case hstore =>
      repeat' (first | rfl | refine env_cons ?_ ?_ | refine st_cons ?_ ?_ ?_ ?_ | refine int_eq ?_ | refine bool_eq ?_ | refine rsl_eq ?_ | refine osl_eq ?_ | refine sl_eq ?_ ?_ ?_ | refine ptr_eq ?_ ?_ ?_ | refine agg_eq ?_ | refine es_cons ?_ ?_ | refine row_cons ?_ ?_)
      all_goals (first | (simp; done) | omega | (simp; omega))
    case hst =>
      first | trivial | omega | (simp; done) | (simp; omega)
  rintro mm ee ss kk ⟨j, v, rfl, rfl, rfl, hI⟩
  generalize hQl1 : thenQ _ _ = Ql1
  have hml : (d2.take j ++ d.drop j).length = n := by simp; omega
  refine AW.seq fun K2 hK2 => ?_
  refine AW.regionK 100 (fun _ => none) [0, 1, 9, 10, 11] [0] ?_
  simp only [go_sem, reduceIte, reduceCtorEq, zA, zM, zE, zL, zD, zS, zP, zB, zI, zR, bools_len]
  repeat with_reducible refine cj ?_ ?_
  all_goals try first | omega
  refine hK2 _ _ _ ?_; clear hK2
  refine AW.seq fun K3 hK3 => ?_
  refine AW.cond rfl (by simp only [go_sem, reduceIte, reduceCtorEq, zA, zM, zE, zL, zD, zS, zP, zB, zI, zR]) ?_ ?_
  · intro hb
    try simp only [hB, decide_eq_true_eq, decide_eq_false_iff_not] at hb
    have hj : j < n := by omega
    have hka := keyS_at (d := d2) (i := j) (by omega)
    have hbu := bools_upd (d2.take j ++ d.drop j) j (d2.getD j false)
    have hms := mix_set (d := d) (d2 := d2) (j := j) (by omega) (by omega)
    have hdk : decide (((((keyS d2).data[j]?).getD 0).toNat : Int) = 1) = d2.getD j false := by
      rw [hka]; cases d2.getD j false <;> rfl
    refine AW.skip ?_
    refine hK3 _ _ _ ?_; clear hK3
    refine AW.seq fun K4 hK4 => ?_
    refine AW.block ?_
    refine AW.seq fun K5 hK5 => ?_
    refine AW.regionK 100 (fun _ => none) [0, 1, 4, 9, 10] [0] ?_
    simp only [go_sem, reduceIte, reduceCtorEq, zA, zM, zE, zL, zD, zS, zP, zB, zI, zR, bools_len]
    repeat with_reducible refine cj ?_ ?_
    all_goals try first | omega
    refine hK5 _ _ _ ?_; clear hK5
    refine AW.regionD mixed 100 (fun _ => none) [0, 1, 9, 10] [0] ?_
    simp only [go_sem, reduceIte, reduceCtorEq, zA, zM, zE, zL, zD, zS, zP, zB, zI, zR, bools_len, hdk, hms]
    repeat with_reducible refine cj ?_ ?_
    all_goals try first | omega | exact chk (by kernel_rfl)
    refine hK4 _ _ _ ?_; clear hK4
    refine AW.regionK 100 (fun _ => none) [0, 1, 9, 10] [0] ?_
    simp only [go_sem, reduceIte, reduceCtorEq, zA, zM, zE, zL, zD, zS, zP, zB, zI, zR, bools_len]
    repeat with_reducible refine cj ?_ ?_
    all_goals try first | omega
    rw [← hQl1]
    change Exists _
    refine ⟨_, ?hm, j + 1, ?_, rfl, ?henv, ?hstore, ?hst⟩
    case henv =>
      repeat' (first | rfl | refine env_cons ?_ ?_ | refine st_cons ?_ ?_ ?_ ?_ | refine int_eq ?_ | refine bool_eq ?_ | refine rsl_eq ?_ | refine osl_eq ?_ | refine sl_eq ?_ ?_ ?_ | refine ptr_eq ?_ ?_ ?_ | refine agg_eq ?_ | refine es_cons ?_ ?_ | refine row_cons ?_ ?_)
      all_goals (first | (simp; done) | omega | (simp; omega))
    case hstore =>
      repeat' (first | rfl | refine env_cons ?_ ?_ | refine st_cons ?_ ?_ ?_ ?_ | refine int_eq ?_ | refine bool_eq ?_ | refine rsl_eq ?_ | refine osl_eq ?_ | refine sl_eq ?_ ?_ ?_ | refine ptr_eq ?_ ?_ ?_ | refine agg_eq ?_ | refine es_cons ?_ ?_ | refine row_cons ?_ ?_)
      all_goals (first | (simp; done) | omega | (simp; omega))
    case hst =>
      omega
    case hm => omega
  · intro hb
    try simp only [hB, decide_eq_true_eq, decide_eq_false_iff_not] at hb
    refine AW.keep [] [0] ?_
    try simp only [go_sem, reduceIte, reduceCtorEq, zA, zM, zE, zL, zD, zS, zP, zB, zI, zR]
    refine AW.exit ?_
    rw [← hQl1]
    rw [← hQr]
    simp only [go_sem, reduceIte, reduceCtorEq, zA, zM, zE, zL, zD, zS, zP, zB, zI, zR, bools_len]
    refine ⟨[(0, 0, false)], ?_⟩
    have e1 : d2.take j ++ d.drop j = d2 := by
      have e2 : j = n := by omega
      rw [List.take_of_length_le (by omega), List.drop_eq_nil_of_le (by omega), List.append_nil]
    rw [e1]
    simp only [go_sem, reduceIte, zE]
end Go.Proofs.X

namespace Go.Proofs.X
open Go.AM Go
set_option maxRecDepth 100000
set_option maxHeartbeats 2000000
theorem finish_u {n : Nat} {bel : List (List Int)} (hb0 : BOk n bel) (d : List Bool) (l : List Int) (hd : d.length = n) (hl : l.length ≤ n) (hnx : ∀ j, j < n - l.length → 0 ≤ nxt (freeL bel (finI bel n (d, l) j).1) n 0) (g0 v0 g1 v1 : Nat) :
    Upd Tryd.prog 50 [(0, some ⟨g0, v0, 3, [stO n bel d]⟩), (1, some ⟨g1, v1, 1, ints l⟩)] [.ptr ⟨0, g0, none⟩ 0 0, .sl ⟨1, g1, none⟩ 0 l.length none] (fun k => .sl ⟨1, k, none⟩ 0 n none)
      (fun k => [(0, some ⟨g0, k, 3, [stO n bel (finI bel n (d, l) (n - l.length)).1]⟩), (1, some ⟨k, k, 1, ints (finI bel n (d, l) (n - l.length)).2⟩)]) := by
  have hn := hb0.small
  have hnr := fun d hd => next_r hb0 d hd 0 (by omega)
  have hdl := fun j => (finI_d bel n (d, l) j).trans hd
  have hll := finI_l bel n (d, l)
  simp only [Prod.snd] at hll
  have hF0 : finI bel n (d, l) 0 = (d, l) := rfl
  have hFs : ∀ j, finI bel n (d, l) (j + 1) = finStep bel n (finI bel n (d, l) j) := fun _ => rfl
  unfold finStep at hFs
  generalize finI bel n (d, l) = F at *
  unfold stO stV at *
  refine Upd.of_body (rs := [.tmp 4]) Tryd.func50 rfl Tryd.ntmps50 rfl (by simp) ?_
  intro k0 k hk0 hk1
  generalize hQr : retQ _ _ _ = Qr
  refine AW.seq fun K1 hK1 => ?_
  refine AW.regionK 100 (fun _ => none) [0, 1] [0, 1] ?_
  simp only [go_sem, reduceIte, reduceCtorEq, zA, zM, zE, zL, zD, zS, zP, zB, zI, zR, bools_len, ints_len]
  repeat with_reducible refine cj ?_ ?_
  all_goals try first | omega
  refine hK1 _ _ _ ?_; clear hK1
  refine AW.seq fun K2 hK2 => ?_
  refine AW.block ?_
  refine AW.loopE (fun mm ee ss kk => ∃ (j v g1 v1 : Nat), n - j = mm ∧ ee = [(0, .ptr ⟨0, g0, none⟩ 0 0), (1, .sl ⟨1, g1, none⟩ 0 (l.length + j) none)] ∧ ss = [(0, some ⟨g0, v, 3, [[.int .i64 n, .rsl 1 (lisR bel), .osl 1 (bools (F j).1)]]⟩), (1, some ⟨g1, v1, 1, ints (F j).2⟩)] ∧ (l.length + j ≤ n)) ?_ ?_
  · refine ⟨_, 0, ?_, ?_, ?_, rfl, ?henv, ?hstore, ?hst⟩
    case henv =>
      repeat' (first | rfl | refine env_cons ?_ ?_ | refine st_cons ?_ ?_ ?_ ?_ | refine int_eq ?_ | refine bool_eq ?_ | refine rsl_eq ?_ | refine osl_eq ?_ | refine sl_eq ?_ ?_ ?_ | refine ptr_eq ?_ ?_ ?_ | refine agg_eq ?_ | refine es_cons ?_ ?_ | refine row_cons ?_ ?_)
      all_goals (first | (simp; done) | omega | (simp; omega))
    case hstore =>
      repeat' (first | rfl | refine env_cons ?_ ?_ | refine st_cons ?_ ?_ ?_ ?_ | refine int_eq ?_ | refine bool_eq ?_ | refine rsl_eq ?_ | refine osl_eq ?_ | refine sl_eq ?_ ?_ ?_ | refine ptr_eq ?_ ?_ ?_ | refine agg_eq ?_ | refine es_cons ?_ ?_ | refine row_cons ?_ ?_)
      all_goals (rw [hF0])
    case hst =>
      first | trivial | omega | (simp; done) | (simp; omega)
  rintro mm ee ss kk ⟨j, v, g1, v1, rfl, rfl, rfl, hI⟩
  generalize hQl1 : thenQ _ _ = Ql1
  refine AW.seq fun K3 hK3 => ?_
  refine AW.seq fun K4 hK4 => ?_
  refine AW.regionK 100 (fun _ => none) [0, 1, 12] [0, 1] ?_
  simp only [go_sem, reduceIte, reduceCtorEq, zA, zM, zE, zL, zD, zS, zP, zB, zI, zR, bools_len, ints_len]
  repeat with_reducible refine cj ?_ ?_
  all_goals try first | omega
  refine hK4 _ _ _ ?_; clear hK4
  refine AW.cond rfl (by simp only [go_sem, reduceIte, reduceCtorEq, zA, zM, zE, zL, zD, zS, zP, zB, zI, zR]) ?_ ?_
  · intro hb
    try simp only [hB, decide_eq_true_eq, decide_eq_false_iff_not] at hb
    have hj : l.length + j < n := by omega
    have hr := hnr _ (hdl j)
    have hx := hnx j (by omega)
    have hxl := nxt_lt (freeL bel (F j).1) n 0 (by omega)
    have hs := hFs j
    have h1 := hdl j
    have h2 := hll j
    generalize hi : nxt (freeL bel (F j).1) n 0 = i at *
    have htk : (ints (F j).2).take (l.length + j) = ints (F j).2 := List.take_of_length_le (by rw [ints_len]; omega)
    refine AW.skip ?_
    refine hK3 _ _ _ ?_; clear hK3
    refine AW.block ?_
    refine AW.seq fun K5 hK5 => ?_
    refine AW.regionK 100 (fun ii => if ii = 1 then some (.reads true (.int .i64 i)) else none) [0, 1, 5] [0, 1] ?_
    simp only [go_sem, reduceIte, reduceCtorEq, zA, zM, zE, zL, zD, zS, zP, zB, zI, zR, bools_len, ints_len]
    repeat with_reducible refine cj ?_ ?_
    all_goals try first | (exact Reads.flat hr rfl) | omega | exact ent (by kernel_rfl)
    refine hK5 _ _ _ ?_; clear hK5
    refine AW.seq fun K6 hK6 => ?_
    refine AW.regionK 100 (fun _ => none) [0, 1, 5] [0, 1] ?_
    simp only [go_sem, reduceIte, reduceCtorEq, zA, zM, zE, zL, zD, zS, zP, zB, zI, zR, bools_len, ints_len]
    repeat with_reducible refine cj ?_ ?_
    all_goals try first | omega
    refine hK6 _ _ _ ?_; clear hK6
    refine AW.regionK 100 (fun _ => none) [0, 1] [0, 1] ?_
    simp only [go_sem, reduceIte, reduceCtorEq, zA, zM, zE, zL, zD, zS, zP, zB, zI, zR, bools_len, ints_len, htk, ints_app]
    repeat with_reducible refine cj ?_ ?_
    all_goals try first | omega | (simp [scP, scalar]; done) | exact scP_words _ | exact scP_ints _ | exact scP_bools _
    rw [← hQl1]
    change Exists _
    refine ⟨_, ?hm, j + 1, ?_, ?_, ?_, rfl, ?henv, ?hstore, ?hst⟩
    case henv =>
      repeat' (first | rfl | refine env_cons ?_ ?_ | refine st_cons ?_ ?_ ?_ ?_ | refine int_eq ?_ | refine bool_eq ?_ | refine rsl_eq ?_ | refine osl_eq ?_ | refine sl_eq ?_ ?_ ?_ | refine ptr_eq ?_ ?_ ?_ | refine agg_eq ?_ | refine es_cons ?_ ?_ | refine row_cons ?_ ?_)
      all_goals (first | (simp; done) | omega | (simp; omega))
    case hstore =>
      repeat' (first | rfl | refine env_cons ?_ ?_ | refine st_cons ?_ ?_ ?_ ?_ | refine int_eq ?_ | refine bool_eq ?_ | refine rsl_eq ?_ | refine osl_eq ?_ | refine sl_eq ?_ ?_ ?_ | refine ptr_eq ?_ ?_ ?_ | refine agg_eq ?_ | refine es_cons ?_ ?_ | refine row_cons ?_ ?_)
      all_goals (rw [hs])
    case hst =>
      omega
    case hm => omega
  · intro hb
    try simp only [hB, decide_eq_true_eq, decide_eq_false_iff_not] at hb
    have hj : j = n - l.length := by omega
    subst hj
    refine AW.keep [1] [0, 1] ?_
    try simp only [go_sem, reduceIte, reduceCtorEq, zA, zM, zE, zL, zD, zS, zP, zB, zI, zR]
    refine AW.exit ?_
    rw [← hQl1]
    refine hK2 _ _ _ ?_; clear hK2
    refine AW.seq fun K7 hK7 => ?_
    refine AW.regionK 100 (fun _ => none) [4] [0, 1] ?_
    simp only [go_sem, reduceIte, reduceCtorEq, zA, zM, zE, zL, zD, zS, zP, zB, zI, zR, bools_len, ints_len]
    repeat with_reducible refine cj ?_ ?_
    all_goals try first | omega
    refine hK7 _ _ _ ?_; clear hK7
    refine AW.ret ?_
    rw [← hQr]
    simp only [go_sem, reduceIte, reduceCtorEq, zA, zM, zE, zL, zD, zS, zP, zB, zI, zR, bools_len, ints_len]
    refine ⟨[(0, 0, false), (1, 1, true)], ?_⟩
    simp only [go_sem, reduceIte, zE, renC_ints]
    rw [show l.length + (n - l.length) = n by omega]
    simp
theorem finish_nil {n : Nat} {bel : List (List Int)} (hb0 : BOk n bel) (d : List Bool) (hd : d.length = n) (hnx : ∀ j, j < n → 0 ≤ nxt (freeL bel (finI bel n (d, []) j).1) n 0) (g0 v0 : Nat) :
    Upd Tryd.prog 50 [(0, some ⟨g0, v0, 3, [stO n bel d]⟩)] [.ptr ⟨0, g0, none⟩ 0 0, .nilsl] (fun k => .sl ⟨1, k, none⟩ 0 n none)
      (fun k => [(0, some ⟨g0, k, 3, [stO n bel (finI bel n (d, []) n).1]⟩), (1, some ⟨k, k, 1, ints (finI bel n (d, []) n).2⟩)]) := by
  have hn := hb0.small
  have hnr := fun d hd => next_r hb0 d hd 0 (by omega)
  have hdl := fun j => (finI_d bel n (d, []) j).trans hd
  have hll := finI_l bel n (d, [])
  simp only [Prod.snd, List.length_nil] at hll
  have hF0 : finI bel n (d, []) 0 = (d, []) := rfl
  have hFs : ∀ j, finI bel n (d, []) (j + 1) = finStep bel n (finI bel n (d, []) j) := fun _ => rfl
  unfold finStep at hFs
  generalize finI bel n (d, []) = F at *
  unfold stO stV at *
  refine Upd.of_body (rs := [.tmp 4]) Tryd.func50 rfl Tryd.ntmps50 rfl (by simp) ?_
  intro k0 k hk0 hk1
  generalize hQr : retQ _ _ _ = Qr
  refine AW.seq fun K1 hK1 => ?_
  refine AW.regionK 100 (fun _ => none) [0, 1] [0, 200] ?_
  simp only [go_sem, reduceIte, reduceCtorEq, zA, zM, zE, zL, zD, zS, zP, zB, zI, zR, bools_len, ints_len]
  repeat with_reducible refine cj ?_ ?_
  all_goals try first | omega
  refine hK1 _ _ _ ?_; clear hK1
  refine AW.nilOwn 1 200 1 rfl ?_
  simp only [go_sem, reduceIte, zE]
  refine AW.keep [0, 1] [0, 200] ?_
  simp only [go_sem, reduceIte, zE]
  refine AW.seq fun K2 hK2 => ?_
  refine AW.block ?_
  refine AW.loopE (fun mm ee ss kk => ∃ (j v g1 v1 : Nat), n - j = mm ∧ ee = [(0, .ptr ⟨0, g0, none⟩ 0 0), (1, .sl ⟨200, g1, none⟩ 0 j none)] ∧ ss = [(0, some ⟨g0, v, 3, [[.int .i64 n, .rsl 1 (lisR bel), .osl 1 (bools (F j).1)]]⟩), (200, some ⟨g1, v1, 1, ints (F j).2⟩)] ∧ (j ≤ n)) ?_ ?_
  · refine ⟨_, 0, ?_, ?_, ?_, rfl, ?henv, ?hstore, ?hst⟩
    case henv =>
      repeat' (first | rfl | refine env_cons ?_ ?_ | refine st_cons ?_ ?_ ?_ ?_ | refine int_eq ?_ | refine bool_eq ?_ | refine rsl_eq ?_ | refine osl_eq ?_ | refine sl_eq ?_ ?_ ?_ | refine ptr_eq ?_ ?_ ?_ | refine agg_eq ?_ | refine es_cons ?_ ?_ | refine row_cons ?_ ?_)
      all_goals (first | (simp; done) | omega | (simp; omega))
    case hstore =>
      repeat' (first | rfl | refine env_cons ?_ ?_ | refine st_cons ?_ ?_ ?_ ?_ | refine int_eq ?_ | refine bool_eq ?_ | refine rsl_eq ?_ | refine osl_eq ?_ | refine sl_eq ?_ ?_ ?_ | refine ptr_eq ?_ ?_ ?_ | refine agg_eq ?_ | refine es_cons ?_ ?_ | refine row_cons ?_ ?_)
      all_goals (rw [hF0]; try rfl)
    case hst =>
      first | trivial | omega | (simp; done) | (simp; omega)
  rintro mm ee ss kk ⟨j, v, g1, v1, rfl, rfl, rfl, hI⟩
  generalize hQl1 : thenQ _ _ = Ql1
  refine AW.seq fun K3 hK3 => ?_
  refine AW.seq fun K4 hK4 => ?_
  refine AW.regionK 100 (fun _ => none) [0, 1, 12] [0, 124, 200] ?_
  simp only [go_sem, reduceIte, reduceCtorEq, zA, zM, zE, zL, zD, zS, zP, zB, zI, zR, bools_len, ints_len]
  repeat with_reducible refine cj ?_ ?_
  all_goals try first | omega
  refine hK4 _ _ _ ?_; clear hK4
  refine AW.cond rfl (by simp only [go_sem, reduceIte, reduceCtorEq, zA, zM, zE, zL, zD, zS, zP, zB, zI, zR]) ?_ ?_
  · intro hb
    try simp only [hB, decide_eq_true_eq, decide_eq_false_iff_not] at hb
    have hj : j < n := by omega
    have hr := hnr _ (hdl j)
    have hx := hnx j (by omega)
    have hxl := nxt_lt (freeL bel (F j).1) n 0 (by omega)
    have hs := hFs j
    have h1 := hdl j
    have h2 := hll j
    generalize hi : nxt (freeL bel (F j).1) n 0 = i at *
    have htk : (ints (F j).2).take j = ints (F j).2 := List.take_of_length_le (by rw [ints_len]; omega)
    refine AW.skip ?_
    refine hK3 _ _ _ ?_; clear hK3
    refine AW.block ?_
    refine AW.seq fun K5 hK5 => ?_
    refine AW.regionK 100 (fun ii => if ii = 1 then some (.reads true (.int .i64 i)) else none) [0, 1, 5] [0, 124, 200] ?_
    simp only [go_sem, reduceIte, reduceCtorEq, zA, zM, zE, zL, zD, zS, zP, zB, zI, zR, bools_len, ints_len]
    repeat with_reducible refine cj ?_ ?_
    all_goals try first | (exact Reads.flat hr rfl) | omega | exact ent (by kernel_rfl)
    refine hK5 _ _ _ ?_; clear hK5
    refine AW.seq fun K6 hK6 => ?_
    refine AW.regionK 100 (fun _ => none) [0, 1, 5] [0, 124, 200] ?_
    simp only [go_sem, reduceIte, reduceCtorEq, zA, zM, zE, zL, zD, zS, zP, zB, zI, zR, bools_len, ints_len]
    repeat with_reducible refine cj ?_ ?_
    all_goals try first | omega
    refine hK6 _ _ _ ?_; clear hK6
    refine AW.regionK 100 (fun _ => none) [0, 1] [0, 200] ?_
    simp only [go_sem, reduceIte, reduceCtorEq, zA, zM, zE, zL, zD, zS, zP, zB, zI, zR, bools_len, ints_len, htk, ints_app]
    repeat with_reducible refine cj ?_ ?_
    all_goals try first | omega | (simp [scP, scalar]; done) | exact scP_words _ | exact scP_ints _ | exact scP_bools _
    rw [← hQl1]
    change Exists _
    refine ⟨_, ?hm, j + 1, ?_, ?_, ?_, rfl, ?henv, ?hstore, ?hst⟩
    case henv =>
      repeat' (first | rfl | refine env_cons ?_ ?_ | refine st_cons ?_ ?_ ?_ ?_ | refine int_eq ?_ | refine bool_eq ?_ | refine rsl_eq ?_ | refine osl_eq ?_ | refine sl_eq ?_ ?_ ?_ | refine ptr_eq ?_ ?_ ?_ | refine agg_eq ?_ | refine es_cons ?_ ?_ | refine row_cons ?_ ?_)
      all_goals (first | (simp; done) | omega | (simp; omega))
    case hstore =>
      repeat' (first | rfl | refine env_cons ?_ ?_ | refine st_cons ?_ ?_ ?_ ?_ | refine int_eq ?_ | refine bool_eq ?_ | refine rsl_eq ?_ | refine osl_eq ?_ | refine sl_eq ?_ ?_ ?_ | refine ptr_eq ?_ ?_ ?_ | refine agg_eq ?_ | refine es_cons ?_ ?_ | refine row_cons ?_ ?_)
      all_goals (rw [hs])
    case hst =>
      omega
    case hm => omega
  · intro hb
    try simp only [hB, decide_eq_true_eq, decide_eq_false_iff_not] at hb
    have hj : n = j := by omega
    subst hj
    refine AW.keep [1] [0, 124, 200] ?_
    try simp only [go_sem, reduceIte, reduceCtorEq, zA, zM, zE, zL, zD, zS, zP, zB, zI, zR]
    refine AW.exit ?_
    rw [← hQl1]
    refine hK2 _ _ _ ?_; clear hK2
    refine AW.seq fun K7 hK7 => ?_
    refine AW.regionK 100 (fun _ => none) [4] [0, 124, 200] ?_
    simp only [go_sem, reduceIte, reduceCtorEq, zA, zM, zE, zL, zD, zS, zP, zB, zI, zR, bools_len, ints_len]
    repeat with_reducible refine cj ?_ ?_
    all_goals try first | omega
    refine hK7 _ _ _ ?_; clear hK7
    refine AW.ret ?_
    rw [← hQr]
    simp only [go_sem, reduceIte, reduceCtorEq, zA, zM, zE, zL, zD, zS, zP, zB, zI, zR, bools_len, ints_len]
    refine ⟨[(0, 0, false), (200, 1, true)], ?_⟩
    simp only [go_sem, reduceIte, zE, renC_ints]
    exact ⟨rfl, rfl⟩
end Go.Proofs.X

namespace Go.Proofs.X
open Go.AM Go
set_option maxRecDepth 100000
set_option maxHeartbeats 2000000
theorem open_u (n : Nat) (t : List (List Bool)) (hs : Sq n t) (hn : n ≤ 512) :
    Upd Tryd.prog 48 [] [relB t] (fun k => .ptr ⟨0, k, none⟩ 0 0) (fun k => [(0, some ⟨k, k, 3, [stO n (belL n t) (List.replicate n false)]⟩)]) := by
  have hlt : (tabR t).length = n := by rw [tabR_len, hs.len]
  have hgr := fun i hi => tabR_get (t := t) (i := i) hi
  have hmb := fun b hb => members_b b hb
  have hlen := hs.len
  have hba := belAt_len t n
  have hbz := belAt_zero t n
  have hbs := fun i hi => belAt_succ hs (i := i) hi
  have hbr := fun i x hx => belAt_row (t := t) (n := n) (i := i) (x := x) hx
  unfold relB rowB stO at *
  have hbn : belL n t = belAt t n n := rfl
  rw [hbn]
  refine Upd.of_body (rs := [.tmp 2]) Tryd.func48 rfl Tryd.ntmps48 rfl (by simp) ?_
  intro k0 k hk0 hk1
  generalize hQr : retQ _ _ _ = Qr
  refine AW.seq fun K1 hK1 => ?_
  refine AW.regionK 100 (fun _ => none) [1] [101, 116, 122] ?_
  simp only [go_sem, reduceIte, reduceCtorEq, zA, zM, zE, zL, zD, zS, zP, zB, zI, zR, hlt]
  repeat with_reducible refine cj ?_ ?_
  all_goals try first | omega
  refine hK1 _ _ _ ?_; clear hK1
  refine AW.seq fun K2 hK2 => ?_
  refine AW.regionD mixed 100 (fun _ => none) [1, 3] [101, 116, 120, 122] ?_
  simp only [go_sem, reduceIte, reduceCtorEq, zA, zM, zE, zL, zD, zS, zP, zB, zI, zR, hlt]
  repeat with_reducible refine cj ?_ ?_
  all_goals try first | omega | exact chk (by kernel_rfl)
  refine hK2 _ _ _ ?_; clear hK2
  refine AW.nils_own (pid := 116) 1 (lisO (List.replicate n [])) (by simp only [go_sem, reduceIte, zE]; rfl) (show (1 : Nat) ≠ mapSz by decide) (by simp [lisO]) ?_ ?_
  · intro i hi
    simp only [List.length_replicate] at hi
    have h1 : (List.replicate n [AV.nilsl]).getD i [] = [.nilsl] := by simp [List.getD_eq_getElem?_getD, hi]
    rw [h1, lisO_get (by simpa using hi)]
    refine ⟨rfl, fun j => ?_⟩
    cases j with
    | zero => exact .inr ⟨rfl, by simp [List.getD_eq_getElem?_getD, hi, ints]⟩
    | succ j => exact .inl rfl
  refine AW.adoptK 122 0 2 120 ?_
  simp only [go_sem, reduceIte, zE]
  refine ⟨by rw [show List.replicate n [AV.bool false] = bools (List.replicate n false) by simp [bools]]; exact noOsl_bools _, ?_⟩
  rw [show List.replicate n [AV.bool false] = bools (List.replicate n false) by simp [bools]]
  refine AW.keep [1, 3] [101, 116, 122] ?_
  simp only [go_sem, reduceIte, zE]
  refine AW.seq fun K3 hK3 => ?_
  refine AW.seq fun K4 hK4 => ?_
  refine AW.regionK 100 (fun _ => none) [3, 24, 25, 26] [116, 122] ?_
  simp only [go_sem, reduceIte, reduceCtorEq, zA, zM, zE, zL, zD, zS, zP, zB, zI, zR, hlt]
  repeat with_reducible refine cj ?_ ?_
  all_goals try first | omega
  refine hK4 _ _ _ ?_; clear hK4
  refine AW.block ?_
  refine AW.loopE (fun mm ee ss kk => ∃ (i g16 v16 g22 v22 : Nat), n - i = mm ∧ ee = [(3, .ptr ⟨122, g22, none⟩ 0 0), (24, .rsl 2 (tabR t)), (25, .int .i64 n), (26, .int .i64 (i : Nat))] ∧ ss = [(116, some ⟨g16, v16, 1, lisO (belAt t n i)⟩), (122, some ⟨g22, v22, 3, [[.int .i64 n, .sl ⟨116, g16, none⟩ 0 n none, .osl 1 (bools (List.replicate n false))]]⟩)] ∧ (i ≤ n)) ?_ ?_
  · refine ⟨_, 0, ?_, ?_, ?_, ?_, rfl, ?henv, ?hstore, ?hst⟩
    case henv =>
      repeat' (first | rfl | refine env_cons ?_ ?_ | refine st_cons ?_ ?_ ?_ ?_ | refine int_eq ?_ | refine bool_eq ?_ | refine rsl_eq ?_ | refine osl_eq ?_ | refine sl_eq ?_ ?_ ?_ | refine ptr_eq ?_ ?_ ?_ | refine agg_eq ?_ | refine es_cons ?_ ?_ | refine row_cons ?_ ?_)
      all_goals (first | (simp; done) | omega | (simp; omega))
    case hstore =>
      repeat' (first | rfl | refine env_cons ?_ ?_ | refine st_cons ?_ ?_ ?_ ?_ | refine int_eq ?_ | refine bool_eq ?_ | refine rsl_eq ?_ | refine osl_eq ?_ | refine sl_eq ?_ ?_ ?_ | refine ptr_eq ?_ ?_ ?_ | refine agg_eq ?_ | refine es_cons ?_ ?_ | refine row_cons ?_ ?_)
      all_goals (rw [hbz])
    case hst =>
      first | trivial | omega | (simp; done) | (simp; omega)
  rintro mm ee ss kk ⟨i, g16, v16, g22, v22, rfl, rfl, rfl, hI⟩
  generalize hQl1 : thenQ _ _ = Ql1
  refine AW.seq fun K5 hK5 => ?_
  refine AW.regionK 100 (fun _ => none) [3, 24, 25, 26, 27] [116, 120, 122, 156] ?_
  simp only [go_sem, reduceIte, reduceCtorEq, zA, zM, zE, zL, zD, zS, zP, zB, zI, zR, hlt]
  repeat with_reducible refine cj ?_ ?_
  all_goals try first | omega
  refine hK5 _ _ _ ?_; clear hK5
  refine AW.seq fun K6 hK6 => ?_
  refine AW.cond rfl (by simp only [go_sem, reduceIte, reduceCtorEq, zA, zM, zE, zL, zD, zS, zP, zB, zI, zR]) ?_ ?_
  · intro hb
    try simp only [hB, decide_eq_true_eq, decide_eq_false_iff_not] at hb
    have hi : i < n := by omega
    have hgi := hgr i (by omega)
    have hri := hs.rowLen (i := i) (by omega)
    have hmi := hmb (rowT t i) (by omega)
    have hmm : ∀ j, j ∈ memB (rowT t i) → j < n := fun j hj => by have := (memB_mem.1 hj).1; omega
    have hml := memB_le (rowT t i)
    have hbsi := hbs i hi
    have hnd := memB_nd (rowT t i)
    have hbl := hba i
    have hbri := hbr i
    have hag := fun k x => addsB_get i ((memB (rowT t i)).take k) (belAt t n i) x (hnd.sublist (List.take_sublist _ _))
    have hal := fun k => addsB_len i ((memB (rowT t i)).take k) (belAt t n i)
    generalize hM : memB (rowT t i) = M at *
    generalize hB : belAt t n i = B at *
    refine AW.skip ?_
    refine hK6 _ _ _ ?_; clear hK6
    refine AW.seq fun K7 hK7 => ?_
    refine AW.block ?_
    refine AW.seq fun K8 hK8 => ?_
    refine AW.regionK 100 (fun _ => none) [3, 4, 5, 24, 25, 26] [105, 116, 122] ?_
    simp only [go_sem, reduceIte, reduceCtorEq, zA, zM, zE, zL, zD, zS, zP, zB, zI, zR, hlt, hgi]
    repeat with_reducible refine cj ?_ ?_
    all_goals try first | omega
    refine hK8 _ _ _ ?_; clear hK8
    refine AW.seq fun K9 hK9 => ?_
    refine AW.regionK 100 (fun ii => if ii = 1 then some (.reads false (.tup [.rsl 1 (ints (nats M)), .int .i64 ((0 : Nat) : Int)])) else none) [3, 4, 6, 24, 25, 26] [105, 116, 122] ?_
    simp only [go_sem, reduceIte, reduceCtorEq, zA, zM, zE, zL, zD, zS, zP, zB, zI, zR, hlt]
    repeat with_reducible refine cj ?_ ?_
    all_goals try first | (exact hmi) | omega | exact ent (by kernel_rfl)
    refine hK9 _ _ _ ?_; clear hK9
    refine AW.seq fun K10 hK10 => ?_
    refine AW.regionK 100 (fun _ => none) [3, 4, 24, 25, 26, 36, 37, 38] [116, 122] ?_
    simp only [go_sem, reduceIte, reduceCtorEq, zA, zM, zE, zL, zD, zS, zP, zB, zI, zR, hlt, ints_len, nats_len]
    repeat with_reducible refine cj ?_ ?_
    all_goals try first | omega
    refine hK10 _ _ _ ?_; clear hK10
    refine AW.block ?_
    refine AW.loopE (fun mm ee ss kk => ∃ (k g16 v16 g22 v22 : Nat), M.length - k = mm ∧ ee = [(3, .ptr ⟨122, g22, none⟩ 0 0), (4, .int .i64 (i : Nat)), (24, .rsl 2 (tabR t)), (25, .int .i64 n), (26, .int .i64 (i : Nat)), (36, .rsl 1 (ints (nats M))), (37, .int .i64 M.length), (38, .int .i64 (k : Nat))] ∧ ss = [(116, some ⟨g16, v16, 1, lisO ((M.take k).foldl (addB i) B)⟩), (122, some ⟨g22, v22, 3, [[.int .i64 n, .sl ⟨116, g16, none⟩ 0 n none, .osl 1 (bools (List.replicate n false))]]⟩)] ∧ (k ≤ M.length)) ?_ ?_
    · refine ⟨_, 0, ?_, ?_, ?_, ?_, rfl, ?henv, ?hstore, ?hst⟩
      case henv =>
        repeat' (first | rfl | refine env_cons ?_ ?_ | refine st_cons ?_ ?_ ?_ ?_ | refine int_eq ?_ | refine bool_eq ?_ | refine rsl_eq ?_ | refine osl_eq ?_ | refine sl_eq ?_ ?_ ?_ | refine ptr_eq ?_ ?_ ?_ | refine agg_eq ?_ | refine es_cons ?_ ?_ | refine row_cons ?_ ?_)
        all_goals (first | (simp; done) | omega | (simp; omega))
      case hstore =>
        repeat' (first | rfl | refine env_cons ?_ ?_ | refine st_cons ?_ ?_ ?_ ?_ | refine int_eq ?_ | refine bool_eq ?_ | refine rsl_eq ?_ | refine osl_eq ?_ | refine sl_eq ?_ ?_ ?_ | refine ptr_eq ?_ ?_ ?_ | refine agg_eq ?_ | refine es_cons ?_ ?_ | refine row_cons ?_ ?_)
        all_goals (first | (simp; done) | omega | (simp; omega))
      case hst =>
        first | trivial | omega | (simp; done) | (simp; omega)
    rintro mm ee ss kk ⟨k, g16, v16, g22, v22, rfl, rfl, rfl, hI⟩
    generalize hQl2 : thenQ _ _ = Ql2
    refine AW.seq fun K11 hK11 => ?_
    refine AW.regionK 100 (fun _ => none) [3, 4, 24, 25, 26, 36, 37, 38, 39] [116, 120, 122, 156] ?_
    simp only [go_sem, reduceIte, reduceCtorEq, zA, zM, zE, zL, zD, zS, zP, zB, zI, zR, hlt]
    repeat with_reducible refine cj ?_ ?_
    all_goals try first | omega
    refine hK11 _ _ _ ?_; clear hK11
    refine AW.seq fun K12 hK12 => ?_
    refine AW.cond rfl (by simp only [go_sem, reduceIte, reduceCtorEq, zA, zM, zE, zL, zD, zS, zP, zB, zI, zR]) ?_ ?_
    · intro hb
      try simp only [hB, decide_eq_true_eq, decide_eq_false_iff_not] at hb
      obtain ⟨q, hq⟩ := getI (l := M) (j := k) (by omega)
      have hgq : (ints (nats M)).getD k [] = [.int .i64 (q : Nat)] := ints_get (by simp [nats, hq])
      have hqn := hmm q (List.mem_of_getElem? hq)
      have hsu : (M.take (k + 1)).foldl (addB i) B = addB i ((M.take k).foldl (addB i) B) q := by rw [List.take_add_one, hq]; simp
      have hal1 := hal k
      have hag1 := hag k q (by omega)
      have hrl : (((M.take k).foldl (addB i) B).getD q []).length ≤ 600 := by
        rw [hag1, List.length_append]
        have := hbri q hqn
        split <;> simp only [List.length_cons, List.length_nil] <;> omega
      generalize hC : (M.take k).foldl (addB i) B = C at *
      have hgn := lisO_get (cs := C) (i := q) (by omega)
      have hs1 : ∀ v, ((lisO C).set q v).getD q [] = v := fun v => getD_set_eq (by rw [lisO_len]; omega) _ _
      refine AW.skip ?_
      refine hK12 _ _ _ ?_; clear hK12
      refine AW.seq fun K13 hK13 => ?_
      refine AW.block ?_
      refine AW.seq fun K14 hK14 => ?_
      refine AW.regionK 100 (fun _ => none) [3, 4, 9, 24, 25, 26, 36, 37, 38] [116, 122] ?_
      simp only [go_sem, reduceIte, reduceCtorEq, zA, zM, zE, zL, zD, zS, zP, zB, zI, zR, hlt, hgq]
      repeat with_reducible refine cj ?_ ?_
      all_goals try first | ((rw [nats_len]; omega)) | omega
      refine hK14 _ _ _ ?_; clear hK14
      refine AW.regionD mixed 100 (fun _ => none) [3, 4, 24, 25, 26, 36, 37, 38] [116, 120, 122, 156] ?_
      simp only [go_sem, reduceIte, reduceCtorEq, zA, zM, zE, zL, zD, zS, zP, zB, zI, zR, hlt, lisO_len, hal1, hbl, hgn, hs1, ints_len, List.set_set, List.take_length, ints_app, Int.toNat_natCast]
      repeat with_reducible refine cj ?_ ?_
      all_goals try first | omega | exact chk (by kernel_rfl) | (simp [scP, scalar]; done) | exact scP_words _ | exact scP_ints _ | exact scP_bools _
      refine hK13 _ _ _ ?_; clear hK13
      refine AW.adoptK 116 q 0 156 ?_
      simp only [go_sem, reduceIte, zE, hs1, List.set_set, lisO_set, lisO_len]
      repeat refine cj ?_ ?_
      any_goals first | exact noOsl_ints _ | (simp only [List.length_append, List.length_cons, List.length_nil]; done) | omega | decide
      refine AW.keep [3, 4, 24, 25, 26, 36, 37, 38] [116, 122] ?_
      simp only [go_sem, reduceIte, zE]
      refine AW.regionK 100 (fun _ => none) [3, 4, 24, 25, 26, 36, 37, 38] [116, 122] ?_
      simp only [go_sem, reduceIte, reduceCtorEq, zA, zM, zE, zL, zD, zS, zP, zB, zI, zR, hlt]
      repeat with_reducible refine cj ?_ ?_
      all_goals try first | omega
      rw [← hQl2]
      change Exists _
      refine ⟨_, ?hm, k + 1, ?_, ?_, ?_, ?_, rfl, ?henv, ?hstore, ?hst⟩
      case henv =>
        repeat' (first | rfl | refine env_cons ?_ ?_ | refine st_cons ?_ ?_ ?_ ?_ | refine int_eq ?_ | refine bool_eq ?_ | refine rsl_eq ?_ | refine osl_eq ?_ | refine sl_eq ?_ ?_ ?_ | refine ptr_eq ?_ ?_ ?_ | refine agg_eq ?_ | refine es_cons ?_ ?_ | refine row_cons ?_ ?_)
        all_goals (first | (simp; done) | omega | (simp; omega))
      case hstore =>
        repeat' (first | rfl | refine env_cons ?_ ?_ | refine st_cons ?_ ?_ ?_ ?_ | refine int_eq ?_ | refine bool_eq ?_ | refine rsl_eq ?_ | refine osl_eq ?_ | refine sl_eq ?_ ?_ ?_ | refine ptr_eq ?_ ?_ ?_ | refine agg_eq ?_ | refine es_cons ?_ ?_ | refine row_cons ?_ ?_)
        all_goals (rw [hsu]; rfl)
      case hst =>
        omega
      case hm => omega
    · intro hb
      try simp only [hB, decide_eq_true_eq, decide_eq_false_iff_not] at hb
      have hk : k = M.length := by omega
      subst hk
      rw [List.take_length, hbsi]
      refine AW.keep [3, 24, 25, 26] [116, 120, 122, 156] ?_
      try simp only [go_sem, reduceIte, reduceCtorEq, zA, zM, zE, zL, zD, zS, zP, zB, zI, zR]
      refine AW.exit ?_
      rw [← hQl2]
      refine hK7 _ _ _ ?_; clear hK7
      refine AW.regionK 100 (fun _ => none) [3, 24, 25, 26] [116, 122] ?_
      simp only [go_sem, reduceIte, reduceCtorEq, zA, zM, zE, zL, zD, zS, zP, zB, zI, zR, hlt]
      repeat with_reducible refine cj ?_ ?_
      all_goals try first | omega
      rw [← hQl1]
      change Exists _
      refine ⟨_, ?hm, i + 1, ?_, ?_, ?_, ?_, rfl, ?henv, ?hstore, ?hst⟩
      case henv =>
        repeat' (first | rfl | refine env_cons ?_ ?_ | refine st_cons ?_ ?_ ?_ ?_ | refine int_eq ?_ | refine bool_eq ?_ | refine rsl_eq ?_ | refine osl_eq ?_ | refine sl_eq ?_ ?_ ?_ | refine ptr_eq ?_ ?_ ?_ | refine agg_eq ?_ | refine es_cons ?_ ?_ | refine row_cons ?_ ?_)
        all_goals (first | (simp; done) | omega | (simp; omega))
      case hstore =>
        repeat' (first | rfl | refine env_cons ?_ ?_ | refine st_cons ?_ ?_ ?_ ?_ | refine int_eq ?_ | refine bool_eq ?_ | refine rsl_eq ?_ | refine osl_eq ?_ | refine sl_eq ?_ ?_ ?_ | refine ptr_eq ?_ ?_ ?_ | refine agg_eq ?_ | refine es_cons ?_ ?_ | refine row_cons ?_ ?_)
        all_goals (first | (simp; done) | omega | (simp; omega))
      case hst =>
        omega
      case hm => omega
  · intro hb
    try simp only [hB, decide_eq_true_eq, decide_eq_false_iff_not] at hb
    have hi : n = i := by omega
    subst hi
    have htl : (lisO (belAt t n n)).take n = lisO (belAt t n n) := List.take_of_length_le (by rw [lisO_len, hba]; omega)
    refine AW.keep [3] [116, 120, 122, 156] ?_
    try simp only [go_sem, reduceIte, reduceCtorEq, zA, zM, zE, zL, zD, zS, zP, zB, zI, zR]
    refine AW.exit ?_
    rw [← hQl1]
    refine hK3 _ _ _ ?_; clear hK3
    refine AW.seq fun K15 hK15 => ?_
    refine AW.regionK 100 (fun _ => none) [2] [116, 120, 122, 156] ?_
    simp only [go_sem, reduceIte, reduceCtorEq, zA, zM, zE, zL, zD, zS, zP, zB, zI, zR, hlt]
    repeat with_reducible refine cj ?_ ?_
    all_goals try first | omega
    refine hK15 _ _ _ ?_; clear hK15
    refine AW.frzCellK [116] 5 122 0 1 ?_
    simp only [go_sem, reduceIte, zE, htl]
    refine ⟨rfl, by decide, by decide, by decide, ?_⟩
    refine AW.keep [2] [122] ?_
    simp only [go_sem, reduceIte, zE]
    refine AW.ret ?_
    rw [← hQr]
    simp only [go_sem, reduceIte, reduceCtorEq, zA, zM, zE, zL, zD, zS, zP, zB, zI, zR, hlt]
    refine ⟨[(122, 0, true)], ?_⟩
    simp only [go_sem, reduceIte, zE, renC_ints]
end Go.Proofs.X

namespace Go.Proofs.X
open Go.AM Go
set_option maxRecDepth 100000
set_option maxHeartbeats 2000000
theorem extends_g (n : Nat) (t : List (List Bool)) (hs : Sq n t) (hn : n ≤ 512) (l : List Int) (hl : l.length ≤ 9223372036854775807) : Reads Tryd.prog 47 false [relB t, .rsl 1 (ints l)] (.bool (extB n (belL n t) l)) := by
  have ho := open_u n t hs hn
  have hok := belL_ok t hn
  have hfr := fun d hd i hi => free_r hok d hd i hi
  unfold stO stV relB at *
  generalize belL n t = bel at *
  have hex : extB n bel l = (decide (l.length = n) && extGo n bel (List.replicate n false) l) := rfl
  refine Reads.body (rs := [.tmp 4]) Tryd.func47 rfl Tryd.ntmps47 rfl (by simp) ?_
  generalize hQr : retQ _ _ _ = Qr
  refine AW.seq fun K1 hK1 => ?_
  refine AW.regionK 0 (fun _ => none) [1, 2] [2, 9] ?_
  simp only [go_sem, reduceIte, reduceCtorEq, zA, zM, zE, zL, zD, zS, zP, zB, zI, zR, ints_len, bools_len]
  repeat with_reducible refine cj ?_ ?_
  all_goals try first | omega
  refine hK1 _ _ _ ?_; clear hK1
  refine AW.seq fun K2 hK2 => ?_
  refine AW.regionK 0 (fun ii => if ii = 1 then some (.upd [] (fun k => [(0, some ⟨k, k, 3, [[.int .i64 n, .rsl 1 (lisR bel), .osl 1 (bools (List.replicate n false))]]⟩)]) (fun k => .ptr ⟨0, k, none⟩ 0 0)) else none) [1, 5] [9] ?_
  simp only [go_sem, reduceIte, reduceCtorEq, zA, zM, zE, zL, zD, zS, zP, zB, zI, zR, ints_len, bools_len]
  repeat with_reducible refine cj ?_ ?_
  all_goals try first | (exact ho) | omega | exact ent (by kernel_rfl)
  refine hK2 _ _ _ ?_; clear hK2
  refine AW.seq fun K3 hK3 => ?_
  refine AW.seq fun K4 hK4 => ?_
  refine AW.regionK 0 (fun _ => none) [1, 5, 16] [9] ?_
  simp only [go_sem, reduceIte, reduceCtorEq, zA, zM, zE, zL, zD, zS, zP, zB, zI, zR, ints_len, bools_len]
  repeat with_reducible refine cj ?_ ?_
  all_goals try first | omega
  refine hK4 _ _ _ ?_; clear hK4
  refine AW.cond rfl (by simp only [go_sem, reduceIte, reduceCtorEq, zA, zM, zE, zL, zD, zS, zP, zB, zI, zR]) ?_ ?_
  · intro hb
    try simp only [hB, decide_eq_true_eq, decide_eq_false_iff_not] at hb
    have hne : l.length ≠ n := by
      revert hb; simp; omega
    refine AW.seq fun K5 hK5 => ?_
    refine AW.regionK 0 (fun _ => none) [4] [9] ?_
    simp only [go_sem, reduceIte, reduceCtorEq, zA, zM, zE, zL, zD, zS, zP, zB, zI, zR, ints_len, bools_len]
    repeat with_reducible refine cj ?_ ?_
    all_goals try first | omega
    refine hK5 _ _ _ ?_; clear hK5
    refine AW.ret ?_
    rw [← hQr]
    simp only [go_sem, reduceIte, reduceCtorEq, zA, zM, zE, zL, zD, zS, zP, zB, zI, zR, ints_len, bools_len]
    exact Wk.of_eq (by rw [hex]; simp [hne])
  · intro hb
    try simp only [hB, decide_eq_true_eq, decide_eq_false_iff_not] at hb
    have hln : l.length = n := by omega
    refine AW.skip ?_
    refine hK3 _ _ _ ?_; clear hK3
    refine AW.seq fun K6 hK6 => ?_
    refine AW.seq fun K7 hK7 => ?_
    refine AW.regionK 0 (fun _ => none) [5, 17, 18, 19] [9] ?_
    simp only [go_sem, reduceIte, reduceCtorEq, zA, zM, zE, zL, zD, zS, zP, zB, zI, zR, ints_len, bools_len]
    repeat with_reducible refine cj ?_ ?_
    all_goals try first | omega
    refine hK7 _ _ _ ?_; clear hK7
    refine AW.block ?_
    refine AW.loopE (fun mm ee ss kk => ∃ (k g v : Nat), l.length - k = mm ∧ ee = [(5, .ptr ⟨9, g, none⟩ 0 0), (17, .rsl 1 (ints l)), (18, .int .i64 l.length), (19, .int .i64 (k : Nat))] ∧ ss = [(9, some ⟨g, v, 3, [[.int .i64 n, .rsl 1 (lisR bel), .osl 1 (bools (exD (List.replicate n false) (l.take k)))]]⟩)] ∧ (k ≤ l.length ∧ extGo n bel (List.replicate n false) (l.take k) = true)) ?_ ?_
    · refine ⟨_, 0, ?_, ?_, rfl, ?henv, ?hstore, ?hst⟩
      case henv =>
        repeat' (first | rfl | refine env_cons ?_ ?_ | refine st_cons ?_ ?_ ?_ ?_ | refine int_eq ?_ | refine bool_eq ?_ | refine rsl_eq ?_ | refine osl_eq ?_ | refine sl_eq ?_ ?_ ?_ | refine ptr_eq ?_ ?_ ?_ | refine agg_eq ?_ | refine es_cons ?_ ?_ | refine row_cons ?_ ?_)
        all_goals (first | (simp; done) | omega | (simp; omega))
      case hstore =>
        repeat' (first | rfl | refine env_cons ?_ ?_ | refine st_cons ?_ ?_ ?_ ?_ | refine int_eq ?_ | refine bool_eq ?_ | refine rsl_eq ?_ | refine osl_eq ?_ | refine sl_eq ?_ ?_ ?_ | refine ptr_eq ?_ ?_ ?_ | refine agg_eq ?_ | refine es_cons ?_ ?_ | refine row_cons ?_ ?_)
        all_goals (first | (simp; done) | omega | (simp; omega))
      case hst =>
        exact ⟨Nat.zero_le _, rfl⟩
    rintro mm ee ss kk ⟨k, g, v, rfl, rfl, rfl, hI⟩
    generalize hQl1 : thenQ _ _ = Ql1
    obtain ⟨hk, hall⟩ := hI
    have hdl := exD_len (l.take k) (List.replicate n false)
    rw [List.length_replicate] at hdl
    refine AW.seq fun K8 hK8 => ?_
    refine AW.regionK 0 (fun _ => none) [5, 17, 18, 19, 20] [9] ?_
    simp only [go_sem, reduceIte, reduceCtorEq, zA, zM, zE, zL, zD, zS, zP, zB, zI, zR, ints_len, bools_len]
    repeat with_reducible refine cj ?_ ?_
    all_goals try first | omega
    refine hK8 _ _ _ ?_; clear hK8
    refine AW.seq fun K9 hK9 => ?_
    refine AW.cond rfl (by simp only [go_sem, reduceIte, reduceCtorEq, zA, zM, zE, zL, zD, zS, zP, zB, zI, zR]) ?_ ?_
    · intro hb
      try simp only [hB, decide_eq_true_eq, decide_eq_false_iff_not] at hb
      obtain ⟨x, hx⟩ := getI (l := l) (j := k) (by omega)
      have hgx := ints_get hx
      have htk : l.take (k + 1) = l.take k ++ [x] := by rw [List.take_add_one, hx]; rfl
      have hfx := hfr _ hdl x.toNat
      have hsn := exD_snoc (List.replicate n false) (l.take k) x
      rw [← htk] at hsn
      have hap := extGo_app n bel (l.take k) [x] (List.replicate n false)
      rw [← htk, hall, Bool.true_and] at hap
      have hap2 := extGo_app n bel (l.take k) (l.drop k) (List.replicate n false)
      rw [List.take_append_drop, hall, Bool.true_and] at hap2
      have hdr : l.drop k = x :: l.drop (k + 1) := by
        have h0 := (List.getElem?_eq_some_iff.1 hx)
        obtain ⟨h1, h2⟩ := h0
        rw [← h2]; exact List.drop_eq_getElem_cons h1
      rw [hdr] at hap2
      generalize exD (List.replicate n false) (l.take k) = d at *
      have hfx2 : (decide (x < 0) || decide ((n : Int) ≤ x)) = false → Reads Tryd.prog 72 true [.rptr [.int .i64 n, .rsl 1 (lisR bel), .rsl 1 (bools d)], .int .i64 x] (.bool (freeL bel d x.toNat)) := fun hh => by
        simp only [Bool.or_eq_false_iff, decide_eq_false_iff_not] at hh
        have h4 := Reads.flat (hfx (by omega)) rfl
        rw [show ((x.toNat : Nat) : Int) = x by omega] at h4
        exact h4
      refine AW.skip ?_
      refine hK9 _ _ _ ?_; clear hK9
      refine AW.seq fun K10 hK10 => ?_
      refine AW.block ?_
      refine AW.seq fun K11 hK11 => ?_
      refine AW.regionK 0 (fun _ => none) [5, 7, 17, 18, 19] [9] ?_
      simp only [go_sem, reduceIte, reduceCtorEq, zA, zM, zE, zL, zD, zS, zP, zB, zI, zR, ints_len, bools_len, hgx]
      repeat with_reducible refine cj ?_ ?_
      all_goals try first | omega
      refine hK11 _ _ _ ?_; clear hK11
      refine AW.seq fun K12 hK12 => ?_
      refine AW.seq fun K13 hK13 => ?_
      refine AW.regionK 0 (fun ii => if ii = 13 then some (.reads true (.bool (freeL bel d x.toNat))) else none) [5, 7, 17, 18, 19, 38] [9] ?_
      simp only [go_sem, reduceIte, reduceCtorEq, zA, zM, zE, zL, zD, zS, zP, zB, zI, zR, ints_len, bools_len, hdl]
      repeat with_reducible refine cj ?_ ?_
      all_goals try first | (exact fun hh => ⟨hh, hfx2 hh⟩) | (intros; (repeat' apply And.intro) <;> first | assumption | (exact fun hh => ⟨hh, hfx2 hh⟩)) | omega | exact ent (by kernel_rfl) | (intro hgd; exact absurd hgd (by decide)) | rfl | (simp only [go_sem, reduceIte, reduceCtorEq, zA, zM, zE, zL, zD, zS, zP, zB, zI, zR, ints_len, bools_len, hdl]; done) | (intro _hgd; simp_all [go_sem]; done)
      refine hK13 _ _ _ ?_; clear hK13
      have hcc : (decide (x < 0) || decide ((n : Int) ≤ x) || !freeL bel d x.toNat) = !exOk n bel d x := by
        unfold exOk
        by_cases e1 : x < 0
        · simp [e1, show ¬ 0 ≤ x by omega]
        · by_cases e2 : (n : Int) ≤ x
          · simp [e2, show ¬ x < (n : Int) by omega]
          · simp [e1, e2, show 0 ≤ x by omega, show x < (n : Int) by omega]
      rw [hcc]
      refine AW.cond rfl (by simp only [go_sem, reduceIte, reduceCtorEq, zA, zM, zE, zL, zD, zS, zP, zB, zI, zR]) ?_ ?_
      · intro hb
        try simp only [hB, decide_eq_true_eq, decide_eq_false_iff_not] at hb
        have hf : exOk n bel d x = false := by revert hb; simp
        have hfin : extB n bel l = false := by rw [hex, hap2]; simp [extGo, hf]
        refine AW.seq fun K14 hK14 => ?_
        refine AW.regionK 0 (fun _ => none) [4] [9] ?_
        simp only [go_sem, reduceIte, reduceCtorEq, zA, zM, zE, zL, zD, zS, zP, zB, zI, zR, ints_len, bools_len]
        repeat with_reducible refine cj ?_ ?_
        all_goals try first | omega
        refine hK14 _ _ _ ?_; clear hK14
        refine AW.ret ?_
        rw [← hQl1]
        rw [← hQr]
        simp only [go_sem, reduceIte, reduceCtorEq, zA, zM, zE, zL, zD, zS, zP, zB, zI, zR, ints_len, bools_len]
        exact Wk.of_eq (by rw [hfin])
      · intro hb
        try simp only [hB, decide_eq_true_eq, decide_eq_false_iff_not] at hb
        have hf : exOk n bel d x = true := by revert hb; simp
        have hx3 : 0 ≤ x ∧ x < (n : Int) := by
          unfold exOk at hf
          revert hf; simp; intro a b _; exact ⟨a, b⟩
        refine AW.skip ?_
        refine hK12 _ _ _ ?_; clear hK12
        refine AW.regionK 0 (fun _ => none) [5, 17, 18, 19] [9] ?_
        simp only [go_sem, reduceIte, reduceCtorEq, zA, zM, zE, zL, zD, zS, zP, zB, zI, zR, ints_len, bools_len]
        repeat with_reducible refine cj ?_ ?_
        all_goals try first | omega
        refine hK10 _ _ _ ?_; clear hK10
        refine AW.regionK 0 (fun _ => none) [5, 17, 18, 19] [9] ?_
        simp only [go_sem, reduceIte, reduceCtorEq, zA, zM, zE, zL, zD, zS, zP, zB, zI, zR, ints_len, bools_len]
        repeat with_reducible refine cj ?_ ?_
        all_goals try first | omega
        rw [← hQl1]
        change Exists _
        refine ⟨_, ?hm, k + 1, ?_, ?_, rfl, ?henv, ?hstore, ?hst⟩
        case henv =>
          repeat' (first | rfl | refine env_cons ?_ ?_ | refine st_cons ?_ ?_ ?_ ?_ | refine int_eq ?_ | refine bool_eq ?_ | refine rsl_eq ?_ | refine osl_eq ?_ | refine sl_eq ?_ ?_ ?_ | refine ptr_eq ?_ ?_ ?_ | refine agg_eq ?_ | refine es_cons ?_ ?_ | refine row_cons ?_ ?_)
          all_goals (first | (simp; done) | omega | (simp; omega))
        case hstore =>
          repeat' (first | rfl | refine env_cons ?_ ?_ | refine st_cons ?_ ?_ ?_ ?_ | refine int_eq ?_ | refine bool_eq ?_ | refine rsl_eq ?_ | refine osl_eq ?_ | refine sl_eq ?_ ?_ ?_ | refine ptr_eq ?_ ?_ ?_ | refine agg_eq ?_ | refine es_cons ?_ ?_ | refine row_cons ?_ ?_)
          all_goals (rw [hsn])
        case hst =>
          exact ⟨by omega, by rw [hap]; simp [extGo, hf]⟩
        case hm => omega
    · intro hb
      try simp only [hB, decide_eq_true_eq, decide_eq_false_iff_not] at hb
      have hk2 : k = l.length := by omega
      subst hk2
      rw [List.take_length] at hall
      refine AW.keep [] [9] ?_
      try simp only [go_sem, reduceIte, reduceCtorEq, zA, zM, zE, zL, zD, zS, zP, zB, zI, zR]
      refine AW.exit ?_
      rw [← hQl1]
      refine hK6 _ _ _ ?_; clear hK6
      refine AW.seq fun K15 hK15 => ?_
      refine AW.regionK 0 (fun _ => none) [4] [9] ?_
      simp only [go_sem, reduceIte, reduceCtorEq, zA, zM, zE, zL, zD, zS, zP, zB, zI, zR, ints_len, bools_len]
      repeat with_reducible refine cj ?_ ?_
      all_goals try first | omega
      refine hK15 _ _ _ ?_; clear hK15
      refine AW.ret ?_
      rw [← hQr]
      simp only [go_sem, reduceIte, reduceCtorEq, zA, zM, zE, zL, zD, zS, zP, zB, zI, zR, ints_len, bools_len]
      exact Wk.of_eq (by rw [hex, hall]; simp [hln])
end Go.Proofs.X

/- Linear extensions of orders: something can always be placed. -/
namespace Go.AM
theorem freeL_iff {n : Nat} {t : List (List Bool)} {d : List Bool} {i : Nat} (hi : i < n) : freeL (belL n t) d i = true ↔ d.getD i false = false ∧ ∀ j, j < n → atT t j i = true → d.getD j false = true := by
  unfold freeL belL
  rw [belAt_get hi]
  simp only [Bool.and_eq_true, Bool.not_eq_true', List.any_eq_false, List.mem_map, List.mem_filter, List.mem_range, openB]
  constructor
  · rintro ⟨h1, h2⟩
    refine ⟨h1, fun j hj ha => ?_⟩
    have := h2 (j : Int) ⟨j, ⟨hj, ha⟩, rfl⟩
    simpa using this
  · rintro ⟨h1, h2⟩
    refine ⟨h1, ?_⟩
    rintro x ⟨j, ⟨hj, ha⟩, rfl⟩
    simpa using h2 j hj ha
theorem free_some {n : Nat} {t : List (List Bool)} (hp : IsPo n t) (d : List Bool) : ∀ (m i : Nat), i < n → d.getD i false = false → ((List.range n).filter fun j => atT t j i && !d.getD j false).length ≤ m → ∃ k, k < n ∧ freeL (belL n t) d k = true := by
  intro m
  induction m with
  | zero =>
    intro i hi hd hm
    refine ⟨i, hi, (freeL_iff hi).2 ⟨hd, fun j hj ha => ?_⟩⟩
    cases e : d.getD j false with
    | true => rfl
    | false =>
      have : j ∈ (List.range n).filter fun j => atT t j i && !d.getD j false := by
        rw [List.mem_filter, List.mem_range, ha, e]; exact ⟨hj, rfl⟩
      rw [List.length_eq_zero_iff.1 (Nat.le_zero.1 hm)] at this
      cases this
  | succ m ih =>
    intro i hi hd hm
    by_cases hf : freeL (belL n t) d i = true
    · exact ⟨i, hi, hf⟩
    · rw [freeL_iff hi] at hf
      have : ∃ j, j < n ∧ atT t j i = true ∧ d.getD j false = false := by
        apply Classical.byContradiction
        intro hc
        refine hf ⟨hd, fun j hj ha => ?_⟩
        cases e : d.getD j false with
        | true => rfl
        | false => exact absurd ⟨j, hj, ha, e⟩ hc
      obtain ⟨j, hj, ha, he⟩ := this
      refine ih j hj he ?_
      refine Nat.le_of_lt_succ (Nat.lt_of_lt_of_le ?_ hm)
      refine filter_lt (fun k hk h => ?_) ⟨j, List.mem_range.2 hj, ?_, ?_⟩
      · rw [List.mem_range] at hk
        simp only [Bool.and_eq_true] at h ⊢
        exact ⟨hp.trans k j i hk hj hi h.1 ha, h.2⟩
      · simp only [ha, he, Bool.not_false, Bool.and_self]
      · simp [hp.irr j hj]
theorem nxt_free {n : Nat} {t : List (List Bool)} (hp : IsPo n t) {d : List Bool} {i : Nat} (hi : i < n) (hd : d.getD i false = false) : 0 ≤ nxt (freeL (belL n t) d) n 0 := by
  obtain ⟨k, hk, hf⟩ := free_some hp d _ i hi hd (Nat.le_refl _)
  rcases nxt_spec (p := freeL (belL n t) d) (n := n) (n - 0) 0 rfl with ⟨_, h2⟩ | ⟨k, h1, _⟩
  · rw [h2 k (Nat.zero_le _) hk] at hf; cases hf
  · rw [h1]; omega
/-- How many are placed. -/
def cntT (d : List Bool) : Nat := d.countP id
theorem cntT_set {d : List Bool} {i : Nat} (hi : i < d.length) (h : d.getD i false = false) : cntT (d.set i true) = cntT d + 1 := by
  unfold cntT
  rw [List.countP_set hi]
  have : d[i] = false := by simpa [List.getD_eq_getElem?_getD, List.getElem?_eq_getElem hi] using h
  simp [this]
theorem cntT_lt {d : List Bool} (h : cntT d < d.length) : ∃ i, i < d.length ∧ d.getD i false = false := by
  apply Classical.byContradiction
  intro hc
  have : cntT d = d.length := by
    unfold cntT
    rw [List.countP_eq_length]
    intro b hb
    obtain ⟨i, hi, rfl⟩ := List.mem_iff_getElem.1 hb
    cases e : d[i] with
    | true => rfl
    | false => exact absurd ⟨i, hi, by simp [List.getD_eq_getElem?_getD, List.getElem?_eq_getElem hi, e]⟩ hc
  omega
theorem nxt_ge {n : Nat} {t : List (List Bool)} (hp : IsPo n t) {d : List Bool} (hd : d.length = n) (h : cntT d < n) : 0 ≤ nxt (freeL (belL n t) d) n 0 := by
  obtain ⟨i, hi, he⟩ := cntT_lt (d := d) (by omega)
  exact nxt_free hp (by omega) he
theorem nxt_is {p : Nat → Bool} {n i : Nat} (h : 0 ≤ nxt p n i) : ∃ k : Nat, nxt p n i = (k : Nat) ∧ i ≤ k ∧ k < n ∧ p k = true := by
  rcases nxt_spec (p := p) (n := n) (n - i) i rfl with ⟨h1, _⟩ | ⟨k, h1, h2, h3, h4, _⟩
  · omega
  · exact ⟨k, h1, h2, h3, h4⟩
theorem finI_cnt {n : Nat} {t : List (List Bool)} (hp : IsPo n t) (d : List Bool) (l : List Int) (hd : d.length = n) : ∀ j, cntT d + j ≤ n → cntT (finI (belL n t) n (d, l) j).1 = cntT d + j
  | 0, _ => rfl
  | j + 1, h => by
    have ih := finI_cnt hp d l hd j (by omega)
    have hl := (finI_d (belL n t) n (d, l) j).trans hd
    obtain ⟨k, h1, _, h3, h4⟩ := nxt_is (nxt_ge hp hl (by omega))
    show cntT ((finI (belL n t) n (d, l) j).1.set _ true) = _
    rw [h1, Int.toNat_natCast, cntT_set (by omega) ((freeL_iff h3).1 h4).1, ih]
    omega
theorem fin_nxt {n : Nat} {t : List (List Bool)} (hp : IsPo n t) (d : List Bool) (l : List Int) (hd : d.length = n) (hc : cntT d = l.length) (j : Nat) (hj : j < n - l.length) : 0 ≤ nxt (freeL (belL n t) (finI (belL n t) n (d, l) j).1) n 0 := by
  refine nxt_ge hp ((finI_d _ n (d, l) j).trans hd) ?_
  rw [finI_cnt hp d l hd j (by omega)]
  omega
theorem cntT_rep (n : Nat) : cntT (List.replicate n false) = 0 := by simp [cntT, List.countP_replicate]
end Go.AM

namespace Go.Proofs.X
open Go.AM Go
set_option maxRecDepth 100000
set_option maxHeartbeats 2000000
def leastL (n : Nat) (t : List (List Bool)) : List Int := (finI (belL n t) n (List.replicate n false, []) n).2
theorem least_g (n : Nat) (t : List (List Bool)) (hs : Sq n t) (hn : n ≤ 512) (hp : poB n t = true) : Reads Tryd.prog 20 false [relB t] (.tup [.rsl 1 (ints (leastL n t)), .int .i64 0]) := by
  have hv := pvalid_g n t hs hn
  have ho := open_u n t hs hn
  have hok := belL_ok t hn
  have hpo := (poB_iff hs).1 hp
  have hfin := fun g v => finish_nil hok (List.replicate n false) (by simp) (fun j hj => fin_nxt hpo (List.replicate n false) [] (by simp) (by rw [cntT_rep]; rfl) j (by simpa using hj)) g v
  have hlen := finI_l (belL n t) n (List.replicate n false, []) n
  rw [hp] at hv
  unfold leastL stO relB at *
  simp only [Prod.snd, List.length_nil, Nat.zero_add] at hlen
  generalize finI (belL n t) n (List.replicate n false, []) n = F at *
  have htk : F.2.take n = F.2 := List.take_of_length_le (by omega)
  generalize belL n t = bel at *
  refine Reads.body (rs := [.tmp 2, .tmp 3]) Tryd.func20 rfl Tryd.ntmps20 rfl (by simp) ?_
  generalize hQr : retQ _ _ _ = Qr
  refine AW.seq fun K1 hK1 => ?_
  refine AW.regionK 0 (fun _ => none) [1] [1] ?_
  simp only [go_sem, reduceIte, reduceCtorEq, zA, zM, zE, zL, zD, zS, zP, zB, zI, zR]
  repeat with_reducible refine cj ?_ ?_
  all_goals try first | omega
  refine hK1 _ _ _ ?_; clear hK1
  refine AW.seq fun K2 hK2 => ?_
  refine AW.seq fun K3 hK3 => ?_
  refine AW.regionK 0 (fun ii => if ii = 1 then some (.reads false (.bool true)) else none) [1, 6] [1] ?_
  simp only [go_sem, reduceIte, reduceCtorEq, zA, zM, zE, zL, zD, zS, zP, zB, zI, zR]
  repeat with_reducible refine cj ?_ ?_
  all_goals try first | (exact hv) | omega | exact ent (by kernel_rfl)
  refine hK3 _ _ _ ?_; clear hK3
  refine AW.cond rfl (by simp only [go_sem, reduceIte, reduceCtorEq, zA, zM, zE, zL, zD, zS, zP, zB, zI, zR]) ?_ ?_
  · intro hb
    try simp only [hB, decide_eq_true_eq, decide_eq_false_iff_not] at hb
    exfalso; simp at hb
  · intro hb
    try simp only [hB, decide_eq_true_eq, decide_eq_false_iff_not] at hb
    refine AW.skip ?_
    refine hK2 _ _ _ ?_; clear hK2
    refine AW.seq fun K4 hK4 => ?_
    refine AW.regionK 0 (fun ii => if ii = 1 then some (.upd [] (fun k => [(0, some ⟨k, k, 3, [[.int .i64 n, .rsl 1 (lisR bel), .osl 1 (bools (List.replicate n false))]]⟩)]) (fun k => .ptr ⟨0, k, none⟩ 0 0)) else if ii = 2 then some (.upd [8] (fun k => [(0, some ⟨14, k, 3, [[.int .i64 n, .rsl 1 (lisR bel), .osl 1 (bools F.1)]]⟩), (1, some ⟨k, k, 1, ints F.2⟩)]) (fun k => .sl ⟨1, k, none⟩ 0 n none)) else none) [2, 3] [9] ?_
    simp only [go_sem, reduceIte, reduceCtorEq, zA, zM, zE, zL, zD, zS, zP, zB, zI, zR]
    repeat with_reducible refine cj ?_ ?_
    all_goals try first | (first | exact ho | exact hfin _ _) | omega | exact ent (by kernel_rfl)
    refine hK4 _ _ _ ?_; clear hK4
    refine AW.ret ?_
    rw [← hQr]
    simp only [go_sem, reduceIte, reduceCtorEq, zA, zM, zE, zL, zD, zS, zP, zB, zI, zR]
    exact Wk.of_eq (by rw [htk])
end Go.Proofs.X

/- The ideals of an order, level by level, and the ways to complete them, as the program goes. -/
namespace Go.AM
/-- A fold over the numbers below m that meet p. -/
def fr {α : Type} (p : Nat → Bool) (f : α → Nat → α) (m : Nat) (a : α) : α := ((List.range m).filter p).foldl f a
theorem fr_zero {α : Type} (p : Nat → Bool) (f : α → Nat → α) (a : α) : fr p f 0 a = a := rfl
theorem fr_succ {α : Type} {p : Nat → Bool} (f : α → Nat → α) {k : Nat} (h : p k = true) (a : α) : fr p f (k + 1) a = f (fr p f k a) k := by
  unfold fr; rw [List.range_succ, List.filter_append]; simp [h]
theorem fr_miss {α : Type} {p : Nat → Bool} (f : α → Nat → α) {k : Nat} (h : p k = false) (a : α) : fr p f (k + 1) a = fr p f k a := by
  unfold fr; rw [List.range_succ, List.filter_append]; simp [h]
theorem fr_skip {α : Type} {p : Nat → Bool} (f : α → Nat → α) (i : Nat) : ∀ (k : Nat) (a : α), i ≤ k → (∀ j, i ≤ j → j < k → p j = false) → fr p f k a = fr p f i a
  | 0, _, h, _ => by rw [Nat.le_zero.1 h]
  | k + 1, a, h, hp => by
    rcases Nat.eq_or_lt_of_le h with e | e
    · rw [e]
    · rw [fr_miss f (hp k (by omega) (by omega)), fr_skip f i k a (by omega) fun j h1 h2 => hp j h1 (by omega)]
/-- The walk through the numbers that meet p, by nxt. -/
theorem fr_next {α : Type} {p : Nat → Bool} (f : α → Nat → α) {n i : Nat} {a : α} (hi : i ≤ n) : (nxt p n i = -1 ∧ fr p f i a = fr p f n a) ∨ ∃ k : Nat, nxt p n i = (k : Nat) ∧ i ≤ k ∧ k < n ∧ p k = true ∧ fr p f (k + 1) a = f (fr p f i a) k := by
  rcases nxt_spec (p := p) (n := n) (n - i) i rfl with ⟨h1, h2⟩ | ⟨k, h1, h2, h3, h4, h5⟩
  · exact .inl ⟨h1, (fr_skip f i n a hi h2).symm⟩
  · exact .inr ⟨k, h1, h2, h3, h4, by rw [fr_succ f h4, fr_skip f i k a h2 h5]⟩
def addS (lv : List (List Bool)) (x : List Bool) : List (List Bool) := if x ∈ lv then lv else lv ++ [x]
theorem addS_len (lv : List (List Bool)) (x : List Bool) : lv.length ≤ (addS lv x).length ∧ (addS lv x).length ≤ lv.length + 1 := by
  unfold addS; split <;> simp
def accS (bel : List (List Int)) (S : List Bool) (m : Nat) (lv : List (List Bool)) : List (List Bool) := fr (freeL bel S) (fun lv x => addS lv (S.set x true)) m lv
theorem fr_len {p : Nat → Bool} {S : List Bool} : ∀ (m : Nat) (lv : List (List Bool)), lv.length ≤ (fr p (fun lv x => addS lv (S.set x true)) m lv).length ∧ (fr p (fun lv x => addS lv (S.set x true)) m lv).length ≤ lv.length + m
  | 0, lv => by simp [fr_zero]
  | m + 1, lv => by
    have ih := fr_len (p := p) (S := S) m lv
    cases h : p m with
    | true =>
      rw [fr_succ _ h]
      have := addS_len (fr p (fun lv x => addS lv (S.set x true)) m lv) (S.set m true)
      omega
    | false => rw [fr_miss _ h]; omega
theorem accS_len (bel : List (List Int)) (S : List Bool) (m : Nat) (lv : List (List Bool)) : lv.length ≤ (accS bel S m lv).length ∧ (accS bel S m lv).length ≤ lv.length + m := fr_len m lv
def nextL (bel : List (List Int)) (n : Nat) (prev : List (List Bool)) : List (List Bool) := prev.foldl (fun lv S => accS bel S n lv) []
theorem fold_len (bel : List (List Int)) (n : Nat) : ∀ (prev lv : List (List Bool)), lv.length ≤ (prev.foldl (fun lv S => accS bel S n lv) lv).length
  | [], _ => Nat.le_refl _
  | S :: prev, lv => Nat.le_trans (accS_len bel S n lv).1 (fold_len bel n prev _)
theorem nextL_take (bel : List (List Int)) (n : Nat) (prev : List (List Bool)) (k : Nat) : (nextL bel n (prev.take k)).length ≤ (nextL bel n prev).length := by
  unfold nextL
  conv => rhs; rw [← List.take_append_drop k prev, List.foldl_append]
  exact fold_len bel n _ _
theorem nextL_succ (bel : List (List Int)) (n : Nat) {prev : List (List Bool)} {k : Nat} {S : List Bool} (h : prev[k]? = some S) : nextL bel n (prev.take (k + 1)) = accS bel S n (nextL bel n (prev.take k)) := by
  unfold nextL
  rw [List.take_add_one, h]
  simp
def lvAt (bel : List (List Int)) (n : Nat) : Nat → List (List Bool)
  | 0 => [List.replicate n false]
  | j + 1 => nextL bel n (lvAt bel n j)
def cntL (bel : List (List Int)) (n : Nat) : Nat → Nat
  | 0 => 1
  | j + 1 => cntL bel n j + (lvAt bel n (j + 1)).length
theorem cntL_mono (bel : List (List Int)) (n i : Nat) : ∀ j, i ≤ j → cntL bel n i ≤ cntL bel n j
  | 0, h => by rw [Nat.le_zero.1 h]; exact Nat.le_refl _
  | j + 1, h => by
    rcases Nat.eq_or_lt_of_le h with e | e
    · rw [e]; exact Nat.le_refl _
    · have := cntL_mono bel n i j (by omega)
      show _ ≤ cntL bel n j + _
      omega
theorem lvAt_le (bel : List (List Int)) (n j : Nat) : (lvAt bel n j).length ≤ cntL bel n j := by
  cases j with
  | zero => simp [lvAt, cntL]
  | succ j => show _ ≤ cntL bel n j + _; omega
theorem mem_addS {lv : List (List Bool)} {x y : List Bool} : y ∈ addS lv x ↔ y ∈ lv ∨ y = x := by
  unfold addS
  split
  · rename_i h
    exact ⟨.inl, fun h' => h'.elim id fun e => e ▸ h⟩
  · simp
theorem mem_accS {bel : List (List Int)} {S : List Bool} {lv : List (List Bool)} {y : List Bool} : ∀ {m : Nat}, y ∈ accS bel S m lv ↔ y ∈ lv ∨ ∃ x, x < m ∧ freeL bel S x = true ∧ y = S.set x true
  | 0 => by simp [accS, fr_zero]
  | m + 1 => by
    unfold accS
    have ih := mem_accS (bel := bel) (S := S) (lv := lv) (y := y) (m := m)
    unfold accS at ih
    cases h : freeL bel S m with
    | true =>
      rw [fr_succ _ h, mem_addS, ih]
      constructor
      · rintro ((h1 | ⟨x, h1, h2⟩) | h1)
        · exact .inl h1
        · exact .inr ⟨x, by omega, h2⟩
        · exact .inr ⟨m, by omega, h, h1⟩
      · rintro (h1 | ⟨x, h1, h2, h3⟩)
        · exact .inl (.inl h1)
        · rcases Nat.lt_succ_iff_lt_or_eq.1 h1 with e | e
          · exact .inl (.inr ⟨x, e, h2, h3⟩)
          · exact .inr (e ▸ h3)
    | false =>
      rw [fr_miss _ h, ih]
      constructor
      · rintro (h1 | ⟨x, h1, h2⟩)
        · exact .inl h1
        · exact .inr ⟨x, by omega, h2⟩
      · rintro (h1 | ⟨x, h1, h2, h3⟩)
        · exact .inl h1
        · rcases Nat.lt_succ_iff_lt_or_eq.1 h1 with e | e
          · exact .inr ⟨x, e, h2, h3⟩
          · rw [e, h] at h2; cases h2
theorem mem_fold {bel : List (List Int)} {n : Nat} {y : List Bool} : ∀ {prev lv : List (List Bool)}, y ∈ prev.foldl (fun lv S => accS bel S n lv) lv ↔ y ∈ lv ∨ ∃ S ∈ prev, ∃ x, x < n ∧ freeL bel S x = true ∧ y = S.set x true
  | [], _ => by simp
  | S :: prev, lv => by
    rw [List.foldl_cons, mem_fold, mem_accS]
    simp only [List.mem_cons, exists_eq_or_imp, or_assoc]
theorem mem_nextL {bel : List (List Int)} {n : Nat} {prev : List (List Bool)} {y : List Bool} : y ∈ nextL bel n prev ↔ ∃ S ∈ prev, ∃ x, x < n ∧ freeL bel S x = true ∧ y = S.set x true := by
  unfold nextL; rw [mem_fold]; simp
theorem lvAt_len {bel : List (List Int)} {n : Nat} : ∀ {j : Nat} {S : List Bool}, S ∈ lvAt bel n j → S.length = n
  | 0, S, h => by rw [List.mem_singleton.1 h]; simp
  | j + 1, S, h => by
    obtain ⟨S', h1, x, _, _, rfl⟩ := mem_nextL.1 h
    rw [List.length_set]; exact lvAt_len h1
/-! ### Maps of keys. -/
def kvS (S : List Bool) : List AV := [.str (keyS S), .bool true]
theorem ba_beq (a b : ByteArray) : (a == b) = (a.data == b.data) := by
  cases a; cases b; rfl
theorem keyEq_str (S T : List Bool) : keyEq (.str (keyS S)) (.str (keyS T)) = decide (S = T) := by
  show (keyS S == keyS T) = _
  rw [ba_beq]
  by_cases h : S = T
  · subst h; simp
  · rw [decide_eq_false h]
    cases e : ((keyS S).data == (keyS T).data) with
    | false => rfl
    | true => exact absurd (keyS_inj (by rw [eq_of_beq e])) h
theorem mapFind_kvS (S : List Bool) : ∀ (lv : List (List Bool)) (i : Nat), (S ∉ lv → mapFind (lv.map kvS) (.str (keyS S)) i = none) ∧ (S ∈ lv → ∃ j, mapFind (lv.map kvS) (.str (keyS S)) i = some (j, .bool true))
  | [], _ => ⟨fun _ => rfl, fun h => by cases h⟩
  | T :: lv, i => by
    obtain ⟨h1, h2⟩ := mapFind_kvS S lv (i + 1)
    simp only [List.map_cons, mapFind]
    have hk : (kvS T).getD 0 .any = .str (keyS T) := rfl
    have hv : (kvS T).getD 1 .any = .bool true := rfl
    rw [hk, hv, keyEq_str]
    by_cases he : S = T
    · subst he
      exact ⟨fun h => absurd (by simp) h, fun _ => ⟨i, by simp⟩⟩
    · simp only [he, decide_false, Bool.false_eq_true, if_false, List.mem_cons, false_or]
      exact ⟨h1, h2⟩
theorem mapB_kvS (lv : List (List Bool)) (S : List Bool) : mapB (lv.map kvS) (.str (keyS S)) = decide (S ∈ lv) := by
  obtain ⟨h1, h2⟩ := mapFind_kvS S lv 0
  by_cases he : S ∈ lv
  · obtain ⟨j, hj⟩ := h2 he
    simp [mapB, mapAt, hj, he]
  · simp [mapB, mapAt, h1 he, he]
theorem mapPut_kvS {lv : List (List Bool)} {S : List Bool} (he : S ∉ lv) : mapPut (lv.map kvS) (.str (keyS S)) (.bool true) = (lv ++ [S]).map kvS := by
  rw [mapPut_find, (mapFind_kvS S lv 0).1 he]
  simp [kvS]
theorem mapWf_kvS {P : Program} {kt : TypeId} (h : ∀ b, keyOk P kt (.str b) = true) (lv : List (List Bool)) : mapWf P kt none (lv.map kvS) := fun row hr => by
  obtain ⟨e, _, rfl⟩ := List.mem_map.1 hr
  exact ⟨_, _, rfl, h _, rfl⟩
theorem keysWf_kvS {P : Program} {kt : TypeId} (h : ∀ b, keyOk P kt (.str b) = true) (lv : List (List Bool)) : keysWf P kt (lv.map kvS) := fun row hr => by
  obtain ⟨e, _, rfl⟩ := List.mem_map.1 hr
  exact ⟨_, _, rfl, h _⟩
def keysR (lv : List (List Bool)) : List (List AV) := lv.map fun S => [.str (keyS S)]
theorem keysR_len (lv : List (List Bool)) : (keysR lv).length = lv.length := by simp [keysR]
theorem keysR_get {lv : List (List Bool)} {i : Nat} {S : List Bool} (h : lv[i]? = some S) : (keysR lv).getD i [] = [.str (keyS S)] := by
  simp [keysR, List.getD_eq_getElem?_getD, h]
theorem keysR_app (lv : List (List Bool)) (S : List Bool) : keysR lv ++ [[.str (keyS S)]] = keysR (lv ++ [S]) := by simp [keysR]
@[go_sem] theorem vwc_keysR (s : Store) (d : Nat) (lv : List (List Bool)) : (keysR lv).map (fun cs => cs.map (vwc s d)) = keysR lv := by
  simp [keysR, vwc_str]
@[go_sem] theorem vw_keysR (s : Store) (d : Nat) (lv : List (List Bool)) : (keysR lv).map (fun cs => cs.map (vw s d)) = keysR lv := by
  simp [keysR, vw_str]
def lvR (L : List (List (List Bool))) : List (List AV) := L.map fun lv => [.rsl 1 (keysR lv)]
theorem lvR_len (L : List (List (List Bool))) : (lvR L).length = L.length := by simp [lvR]
theorem lvR_get {L : List (List (List Bool))} {i : Nat} {lv : List (List Bool)} (h : L[i]? = some lv) : (lvR L).getD i [] = [.rsl 1 (keysR lv)] := by
  simp [lvR, List.getD_eq_getElem?_getD, h]
theorem lvR_app (L : List (List (List Bool))) (lv : List (List Bool)) : lvR L ++ [[.rsl 1 (keysR lv)]] = lvR (L ++ [lv]) := by simp [lvR]
def lvTo (bel : List (List Int)) (n j : Nat) : List (List (List Bool)) := (List.range (j + 1)).map (lvAt bel n)
theorem lvTo_len (bel : List (List Int)) (n j : Nat) : (lvTo bel n j).length = j + 1 := by simp [lvTo]
theorem lvTo_get {bel : List (List Int)} {n j i : Nat} (h : i ≤ j) : (lvTo bel n j)[i]? = some (lvAt bel n i) := by
  simp [lvTo, show i < j + 1 by omega]
theorem lvTo_succ (bel : List (List Int)) (n j : Nat) : lvTo bel n j ++ [lvAt bel n (j + 1)] = lvTo bel n (j + 1) := by
  simp [lvTo, List.range_succ]
/-! ### The ways. -/
def sumW (bel : List (List Int)) (es : List (List AV)) (S : List Bool) (m : Nat) : Int := fr (freeL bel S) (fun s x => min (s + mapI es (.str (keyS (S.set x true)))) 1125899906842625) m 0
def wayS (bel : List (List Int)) (n : Nat) (es : List (List AV)) (S : List Bool) (a : Nat) : Int := if a = n then 1 else sumW bel es S n
def stepW (bel : List (List Int)) (n a : Nat) (es : List (List AV)) (S : List Bool) : List (List AV) := mapPut es (.str (keyS S)) (.int .i64 (wayS bel n es S a))
def levelW (bel : List (List Int)) (n : Nat) (es : List (List AV)) (a : Nat) : List (List AV) := (lvAt bel n a).foldl (stepW bel n a) es
def downW (bel : List (List Int)) (n : Nat) : Nat → List (List AV)
  | 0 => []
  | m + 1 => levelW bel n (downW bel n m) (n - m)
def waysE (bel : List (List Int)) (n : Nat) : List (List AV) := downW bel n (n + 1)
def WOk (es : List (List AV)) : Prop := ∀ row ∈ es, ∃ b v, row = [.str b, .int .i64 v] ∧ 0 ≤ v ∧ v ≤ 1125899906842625
theorem WOk.mapWf {es : List (List AV)} (h : WOk es) {P : Program} {kt : TypeId} (hk : ∀ b, keyOk P kt (.str b) = true) : mapWf P kt (some .i64) es := fun row hr => by
  obtain ⟨b, v, rfl, _⟩ := h row hr
  exact ⟨_, _, rfl, hk _, rfl⟩
theorem WOk.keysWf {es : List (List AV)} (h : WOk es) {P : Program} {kt : TypeId} (hk : ∀ b, keyOk P kt (.str b) = true) : keysWf P kt es := fun row hr => by
  obtain ⟨b, v, rfl, _⟩ := h row hr
  exact ⟨_, _, rfl, hk _⟩
theorem WOk.flt {es : List (List AV)} (h : WOk es) : es.map (fun row => row.map Go.AM.flt) = es := by
  conv => rhs; rw [← List.map_id es]
  refine List.map_congr_left fun row hr => ?_
  obtain ⟨b, v, rfl, _⟩ := h row hr
  rfl
theorem WOk.rng {es : List (List AV)} (h : WOk es) (k : AV) : 0 ≤ mapI es k ∧ mapI es k ≤ 1125899906842625 := by
  unfold mapI mapAt
  cases e : mapFind es k 0 with
  | none => exact ⟨by decide, by decide⟩
  | some p =>
    obtain ⟨row, h1, h2, _⟩ := mapFind_some e
    obtain ⟨b, v, rfl, h3, h4⟩ := h row (List.mem_of_getElem? h1)
    have h5 : AV.int .i64 v = p.2 := h2
    simp only [Option.map_some, ← h5]
    exact ⟨h3, h4⟩
theorem mem_mapPut : ∀ {es : List (List AV)} {k v : AV} {row : List AV}, row ∈ mapPut es k v → row = [k, v] ∨ row ∈ es
  | [], k, v, row, h => .inl (List.mem_singleton.1 h)
  | r :: es, k, v, row, h => by
    unfold mapPut at h
    split at h
    · rcases List.mem_cons.1 h with e | e
      · exact .inl e
      · exact .inr (List.mem_cons_of_mem _ e)
    · rcases List.mem_cons.1 h with e | e
      · exact .inr (e ▸ List.mem_cons_self)
      · exact (mem_mapPut e).imp id (List.mem_cons_of_mem _)
theorem WOk.put {es : List (List AV)} (h : WOk es) (b : ByteArray) {v : Int} (h0 : 0 ≤ v) (h1 : v ≤ 1125899906842625) : WOk (mapPut es (.str b) (.int .i64 v)) := fun row hr => by
  rcases mem_mapPut hr with rfl | e
  · exact ⟨b, v, rfl, h0, h1⟩
  · exact h row e
theorem sumW_rng {bel : List (List Int)} {es : List (List AV)} (h : WOk es) (S : List Bool) : ∀ m, 0 ≤ sumW bel es S m ∧ sumW bel es S m ≤ 1125899906842625
  | 0 => ⟨by simp [sumW, fr_zero], by simp [sumW, fr_zero]⟩
  | m + 1 => by
    have ih := sumW_rng (bel := bel) h S m
    unfold sumW at *
    cases hf : freeL bel S m with
    | true =>
      rw [fr_succ _ hf]
      have := h.rng (.str (keyS (S.set m true)))
      omega
    | false => rw [fr_miss _ hf]; exact ih
theorem wayS_rng {bel : List (List Int)} {n : Nat} {es : List (List AV)} (h : WOk es) (S : List Bool) (a : Nat) : 0 ≤ wayS bel n es S a ∧ wayS bel n es S a ≤ 1125899906842625 := by
  unfold wayS
  split
  · exact ⟨by decide, by decide⟩
  · exact sumW_rng h S n
theorem WOk.steps {bel : List (List Int)} {n a : Nat} : ∀ {l : List (List Bool)} {es : List (List AV)}, WOk es → WOk (l.foldl (stepW bel n a) es)
  | [], _, h => h
  | S :: l, es, h => by
    rw [List.foldl_cons]
    exact WOk.steps (h.put _ (wayS_rng h S a).1 (wayS_rng h S a).2)
theorem downW_ok (bel : List (List Int)) (n : Nat) : ∀ m, WOk (downW bel n m)
  | 0 => fun _ h => by cases h
  | m + 1 => (downW_ok bel n m).steps
end Go.AM

namespace Go.Proofs.X
open Go.AM Go
set_option maxRecDepth 100000
set_option maxHeartbeats 4000000
theorem keyOk9 (b : ByteArray) : keyOk Tryd.prog 9 (.str b) = true := by
  simp only [keyOk, Tryd.underlying9]
theorem table_u (n : Nat) (t : List (List Bool)) (hs : Sq n t) (hn : n ≤ 512) (hp : poB n t = true) (hbud : cntL (belL n t) n n ≤ 5000) :
    Upd Tryd.prog 67 [] [relB t] (fun k => .tup [.mp ⟨0, k, none⟩, .int .i64 0]) (fun k => [(0, some ⟨k, k, mapSz, waysE (belL n t) n⟩)]) := by
  have hv := pvalid_g n t hs hn
  rw [hp] at hv
  have ho := open_u n t hs hn
  have hok := belL_ok t hn
  have hkey := fun d hd => key_r n (belL n t) d hd hn
  have hload := fun d d2 hd hd2 g v => load_u (bel := belL n t) hn d d2 hd hd2 g v
  have hnext := fun d hd i hi => next_r hok d hd i hi
  have hfree : ∀ (S : List Bool) (x : Nat), freeL (belL n t) S x = true → S.getD x false = false := fun S x h => by
    unfold freeL at h
    cases e : S.getD x false with
    | false => rfl
    | true => rw [e] at h; simp at h
  unfold stO stV relB at *
  generalize belL n t = bel at *
  unfold waysE
  refine Upd.of_body (rs := [.tmp 2, .tmp 3]) Tryd.func67 rfl Tryd.ntmps67 rfl (by simp) ?_
  intro k0 k hk0 hk1
  generalize hQr : retQ _ _ _ = Qr
  refine AW.seq fun K1 hK1 => ?_
  refine AW.regionK 100 (fun _ => none) [1] [101] ?_
  simp only [go_sem, reduceIte, reduceCtorEq, zA, zM, zE, zL, zD, zS, zP, zB, zI, zR]
  repeat with_reducible refine cj ?_ ?_
  all_goals try first | omega
  refine hK1 _ _ _ ?_; clear hK1
  refine AW.seq fun K2 hK2 => ?_
  refine AW.seq fun K3 hK3 => ?_
  refine AW.regionK 100 (fun ii => if ii = 1 then some (.reads false (.bool true)) else none) [1, 21] [101] ?_
  simp only [go_sem, reduceIte, reduceCtorEq, zA, zM, zE, zL, zD, zS, zP, zB, zI, zR]
  repeat with_reducible refine cj ?_ ?_
  all_goals try first | (exact hv) | omega | exact ent (by kernel_rfl)
  refine hK3 _ _ _ ?_; clear hK3
  refine AW.cond rfl (by simp only [go_sem, reduceIte, reduceCtorEq, zA, zM, zE, zL, zD, zS, zP, zB, zI, zR]) ?_ ?_
  · intro hb
    try simp only [hB, decide_eq_true_eq, decide_eq_false_iff_not] at hb
    exfalso; simp at hb
  · intro hb
    try simp only [hB, decide_eq_true_eq, decide_eq_false_iff_not] at hb
    refine AW.skip ?_
    refine hK2 _ _ _ ?_; clear hK2
    refine AW.seq fun K4 hK4 => ?_
    refine AW.regionK 100 (fun ii => if ii = 1 then some (.upd [] (fun k => [(0, some ⟨k, k, 3, [[.int .i64 n, .rsl 1 (lisR bel), .osl 1 (bools (List.replicate n false))]]⟩)]) (fun k => .ptr ⟨0, k, none⟩ 0 0)) else none) [4] [123] ?_
    simp only [go_sem, reduceIte, reduceCtorEq, zA, zM, zE, zL, zD, zS, zP, zB, zI, zR]
    repeat with_reducible refine cj ?_ ?_
    all_goals try first | (exact ho) | omega | exact ent (by kernel_rfl)
    refine hK4 _ _ _ ?_; clear hK4
    refine AW.seq fun K5 hK5 => ?_
    refine AW.regionK 100 (fun ii => if ii = 1 then some (.reads true (.str (keyS (List.replicate n false)))) else none) [4, 5] [123, 126, 127] ?_
    simp only [go_sem, reduceIte, reduceCtorEq, zA, zM, zE, zL, zD, zS, zP, zB, zI, zR]
    repeat with_reducible refine cj ?_ ?_
    all_goals try first | (exact Reads.flat (hkey (List.replicate n false) (by simp)) rfl) | omega | exact ent (by kernel_rfl)
    refine hK5 _ _ _ ?_; clear hK5
    refine AW.frzCellK [126] 5 127 0 0 ?_
    simp only [go_sem, reduceIte, zE]
    refine ⟨rfl, by decide, by decide, by decide, ?_⟩
    refine AW.keep [4, 5] [123, 127] ?_
    simp only [go_sem, reduceIte, zE]
    refine AW.seq fun K6 hK6 => ?_
    refine AW.regionK 100 (fun _ => none) [4, 5, 6] [123, 127] ?_
    simp only [go_sem, reduceIte, reduceCtorEq, zA, zM, zE, zL, zD, zS, zP, zB, zI, zR]
    repeat with_reducible refine cj ?_ ?_
    all_goals try first | omega
    refine hK6 _ _ _ ?_; clear hK6
    refine AW.seq fun K7 hK7 => ?_
    refine AW.seq fun K8 hK8 => ?_
    refine AW.regionK 100 (fun _ => none) [4, 5, 6, 31, 32] [123, 127] ?_
    simp only [go_sem, reduceIte, reduceCtorEq, zA, zM, zE, zL, zD, zS, zP, zB, zI, zR]
    repeat with_reducible refine cj ?_ ?_
    all_goals try first | omega
    refine hK8 _ _ _ ?_; clear hK8
    refine AW.block ?_
    refine AW.loopE (fun mm ee ss kk => ∃ (j : Nat) (D : List Bool) (g3 v3 g5 v5 : Nat), n - j = mm ∧ ee = [(4, .ptr ⟨123, g3, none⟩ 0 0), (5, .sl ⟨127, g5, none⟩ 0 (j + 1) none), (6, .int .i64 (cntL bel n j : Nat)), (31, .int .i64 n), (32, .int .i64 (j : Nat))] ∧ ss = [(123, some ⟨g3, v3, 3, [[.int .i64 n, .rsl 1 (lisR bel), .osl 1 (bools D)]]⟩), (127, some ⟨g5, v5, 1, lvR (lvTo bel n j)⟩)] ∧ (j ≤ n ∧ D.length = n ∧ cntL bel n j ≤ 5000)) ?_ ?_
    · refine ⟨_, 0, List.replicate n false, ?_, ?_, ?_, ?_, rfl, ?henv, ?hstore, ?hst⟩
      case henv =>
        repeat' (first | rfl | refine env_cons ?_ ?_ | refine st_cons ?_ ?_ ?_ ?_ | refine int_eq ?_ | refine bool_eq ?_ | refine rsl_eq ?_ | refine osl_eq ?_ | refine sl_eq ?_ ?_ ?_ | refine ptr_eq ?_ ?_ ?_ | refine agg_eq ?_ | refine es_cons ?_ ?_ | refine row_cons ?_ ?_)
        all_goals (first | (simp; done) | omega | (simp; omega))
      case hstore =>
        repeat' (first | rfl | refine env_cons ?_ ?_ | refine st_cons ?_ ?_ ?_ ?_ | refine int_eq ?_ | refine bool_eq ?_ | refine rsl_eq ?_ | refine osl_eq ?_ | refine sl_eq ?_ ?_ ?_ | refine ptr_eq ?_ ?_ ?_ | refine agg_eq ?_ | refine es_cons ?_ ?_ | refine row_cons ?_ ?_)
        all_goals (first | (simp; done) | omega | (simp; omega))
      case hst =>
        exact ⟨by omega, by simp, by simp [cntL]⟩
    rintro mm ee ss kk ⟨j, D, g3, v3, g5, v5, rfl, rfl, rfl, hI⟩
    generalize hQl1 : thenQ _ _ = Ql1
    obtain ⟨hj, hD, hc⟩ := hI
    refine AW.seq fun K9 hK9 => ?_
    refine AW.regionK 100 (fun _ => none) [4, 5, 6, 31, 32, 33] [123, 127] ?_
    simp only [go_sem, reduceIte, reduceCtorEq, zA, zM, zE, zL, zD, zS, zP, zB, zI, zR]
    repeat with_reducible refine cj ?_ ?_
    all_goals try first | omega
    refine hK9 _ _ _ ?_; clear hK9
    refine AW.seq fun K10 hK10 => ?_
    refine AW.cond rfl (by simp only [go_sem, reduceIte, reduceCtorEq, zA, zM, zE, zL, zD, zS, zP, zB, zI, zR]) ?_ ?_
    · intro hb
      try simp only [hB, decide_eq_true_eq, decide_eq_false_iff_not] at hb
      have hj2 : j < n := by omega
      have hlg := lvR_get (lvTo_get (bel := bel) (n := n) (Nat.le_refl j))
      have hll := lvR_len (lvTo bel n j)
      rw [lvTo_len] at hll
      have hml := fun S => lvAt_len (bel := bel) (n := n) (j := j) (S := S)
      have hle := lvAt_le bel n j
      have hnt := nextL_take bel n (lvAt bel n j)
      have hcs : cntL bel n (j + 1) = cntL bel n j + (nextL bel n (lvAt bel n j)).length := rfl
      have hls := lvTo_succ bel n j
      have hl1 : lvAt bel n (j + 1) = nextL bel n (lvAt bel n j) := rfl
      have hcm := cntL_mono bel n (j + 1) n (by omega)
      have hns := fun k S => nextL_succ bel n (prev := lvAt bel n j) (k := k) (S := S)
      have hj1 : (((j + 1 : Nat) : Int) - 1).toNat = j := by omega
      generalize hL : lvAt bel n j = L at *
      refine AW.skip ?_
      refine hK10 _ _ _ ?_; clear hK10
      refine AW.seq fun K11 hK11 => ?_
      refine AW.block ?_
      refine AW.seq fun K12 hK12 => ?_
      refine AW.regionK 100 (fun _ => none) [4, 5, 6, 7, 31, 32] [123, 127, 134] ?_
      simp only [go_sem, reduceIte, reduceCtorEq, zA, zM, zE, zL, zD, zS, zP, zB, zI, zR]
      repeat with_reducible refine cj ?_ ?_
      all_goals try first | omega
      refine hK12 _ _ _ ?_; clear hK12
      refine AW.seq fun K13 hK13 => ?_
      refine AW.regionK 100 (fun _ => none) [4, 5, 6, 7, 8, 31, 32] [123, 127, 134] ?_
      simp only [go_sem, reduceIte, reduceCtorEq, zA, zM, zE, zL, zD, zS, zP, zB, zI, zR]
      repeat with_reducible refine cj ?_ ?_
      all_goals try first | omega
      refine hK13 _ _ _ ?_; clear hK13
      refine AW.nilOwn 8 200 1 rfl ?_
      simp only [go_sem, reduceIte, zE]
      refine AW.keep [4, 5, 6, 7, 8, 31, 32] [123, 127, 134, 200] ?_
      simp only [go_sem, reduceIte, zE]
      refine AW.seq fun K14 hK14 => ?_
      refine AW.seq fun K15 hK15 => ?_
      refine AW.regionK 100 (fun _ => none) [4, 5, 6, 7, 8, 31, 32, 40, 41, 42] [123, 127, 134, 200] ?_
      simp only [go_sem, reduceIte, reduceCtorEq, zA, zM, zE, zL, zD, zS, zP, zB, zI, zR, hlg, hll, hj1, keysR_len]
      repeat with_reducible refine cj ?_ ?_
      all_goals try first | omega
      refine hK15 _ _ _ ?_; clear hK15
      refine AW.block ?_
      refine AW.loopE (fun mm ee ss kk => ∃ (k : Nat) (D : List Bool) (g3 v3 g5 v5 g7 v7 g8 v8 : Nat), L.length - k = mm ∧ ee = [(4, .ptr ⟨123, g3, none⟩ 0 0), (5, .sl ⟨127, g5, none⟩ 0 (j + 1) none), (6, .int .i64 (cntL bel n j : Nat)), (7, .mp ⟨134, g7, none⟩), (8, .sl ⟨200, g8, none⟩ 0 (nextL bel n (L.take k)).length none), (31, .int .i64 n), (32, .int .i64 (j : Nat)), (40, .rsl 1 (keysR L)), (41, .int .i64 L.length), (42, .int .i64 (k : Nat))] ∧ ss = [(123, some ⟨g3, v3, 3, [[.int .i64 n, .rsl 1 (lisR bel), .osl 1 (bools D)]]⟩), (127, some ⟨g5, v5, 1, lvR (lvTo bel n j)⟩), (134, some ⟨g7, v7, mapSz, (nextL bel n (L.take k)).map kvS⟩), (200, some ⟨g8, v8, 1, keysR (nextL bel n (L.take k))⟩)] ∧ (k ≤ L.length ∧ D.length = n ∧ cntL bel n j + (nextL bel n (L.take k)).length ≤ 5000)) ?_ ?_
      · refine ⟨_, 0, D, ?_, ?_, ?_, ?_, ?_, ?_, ?_, ?_, rfl, ?henv, ?hstore, ?hst⟩
        case henv =>
          repeat' (first | rfl | refine env_cons ?_ ?_ | refine st_cons ?_ ?_ ?_ ?_ | refine int_eq ?_ | refine bool_eq ?_ | refine rsl_eq ?_ | refine osl_eq ?_ | refine sl_eq ?_ ?_ ?_ | refine ptr_eq ?_ ?_ ?_ | refine agg_eq ?_ | refine es_cons ?_ ?_ | refine row_cons ?_ ?_)
          all_goals (first | (simp; done) | omega | (simp; omega))
        case hstore =>
          repeat' (first | rfl | refine env_cons ?_ ?_ | refine st_cons ?_ ?_ ?_ ?_ | refine int_eq ?_ | refine bool_eq ?_ | refine rsl_eq ?_ | refine osl_eq ?_ | refine sl_eq ?_ ?_ ?_ | refine ptr_eq ?_ ?_ ?_ | refine agg_eq ?_ | refine es_cons ?_ ?_ | refine row_cons ?_ ?_)
          all_goals (first | (simp; done) | omega | (simp; omega))
        case hst =>
          exact ⟨by omega, hD, by simp [nextL]; omega⟩
      rintro mm ee ss kk ⟨k, D, g3, v3, g5, v5, g7, v7, g8, v8, rfl, rfl, rfl, hI⟩
      generalize hQl2 : thenQ _ _ = Ql2
      obtain ⟨hk, hD, hc2⟩ := hI
      refine AW.seq fun K16 hK16 => ?_
      refine AW.regionK 100 (fun _ => none) [4, 5, 6, 7, 8, 31, 32, 40, 41, 42, 43] [123, 127, 134, 200] ?_
      simp only [go_sem, reduceIte, reduceCtorEq, zA, zM, zE, zL, zD, zS, zP, zB, zI, zR]
      repeat with_reducible refine cj ?_ ?_
      all_goals try first | omega
      refine hK16 _ _ _ ?_; clear hK16
      refine AW.seq fun K17 hK17 => ?_
      refine AW.cond rfl (by simp only [go_sem, reduceIte, reduceCtorEq, zA, zM, zE, zL, zD, zS, zP, zB, zI, zR]) ?_ ?_
      · intro hb
        try simp only [hB, decide_eq_true_eq, decide_eq_false_iff_not] at hb
        obtain ⟨S, hS⟩ := getI (l := L) (j := k) (by omega)
        have hkg := keysR_get hS
        have hSl := hml S (List.mem_of_getElem? hS)
        have hld := fun g v => hload D S hD hSl g v
        have hnx := hnext S hSl
        have hn1 := hns k S hS
        have hfb := fun i => (freeL bel S i)
        generalize hA : nextL bel n (L.take k) = A at *
        refine AW.skip ?_
        refine hK17 _ _ _ ?_; clear hK17
        refine AW.seq fun K18 hK18 => ?_
        refine AW.block ?_
        refine AW.seq fun K19 hK19 => ?_
        refine AW.regionK 100 (fun _ => none) [4, 5, 6, 7, 8, 10, 31, 32, 40, 41, 42] [123, 127, 134, 200] ?_
        simp only [go_sem, reduceIte, reduceCtorEq, zA, zM, zE, zL, zD, zS, zP, zB, zI, zR, hkg]
        repeat with_reducible refine cj ?_ ?_
        all_goals try first | ((rw [keysR_len]; omega)) | omega
        refine hK19 _ _ _ ?_; clear hK19
        refine AW.seq fun K20 hK20 => ?_
        refine AW.regionK 100 (fun ii => if ii = 2 then some (.upd [123] (fun k => [(0, some ⟨g3, k, 3, [[.int .i64 n, .rsl 1 (lisR bel), .osl 1 (bools S)]]⟩)]) (fun _ => .tup [])) else none) [4, 5, 6, 7, 8, 31, 32, 40, 41, 42] [123, 127, 134, 200] ?_
        simp only [go_sem, reduceIte, reduceCtorEq, zA, zM, zE, zL, zD, zS, zP, zB, zI, zR]
        repeat with_reducible refine cj ?_ ?_
        all_goals try first | (exact hld _ _) | omega | exact ent (by kernel_rfl)
        refine hK20 _ _ _ ?_; clear hK20
        refine AW.seq fun K21 hK21 => ?_
        refine AW.seq fun K22 hK22 => ?_
        refine AW.regionK 100 (fun ii => if ii = 1 then some (.reads true (.int .i64 (nxt (freeL bel S) n 0))) else none) [4, 5, 6, 7, 8, 11, 31, 32, 40, 41, 42] [123, 127, 134, 200] ?_
        simp only [go_sem, reduceIte, reduceCtorEq, zA, zM, zE, zL, zD, zS, zP, zB, zI, zR]
        repeat with_reducible refine cj ?_ ?_
        all_goals try first | (exact Reads.flat (hnx 0 (by omega)) rfl) | omega | exact ent (by kernel_rfl)
        refine hK22 _ _ _ ?_; clear hK22
        refine AW.block ?_
        refine AW.loopE (fun mm ee ss kk => ∃ (i : Nat) (g3 v3 g5 v5 g7 v7 g8 v8 : Nat), n + 1 - i = mm ∧ ee = [(4, .ptr ⟨123, g3, none⟩ 0 0), (5, .sl ⟨127, g5, none⟩ 0 (j + 1) none), (6, .int .i64 (cntL bel n j : Nat)), (7, .mp ⟨134, g7, none⟩), (8, .sl ⟨200, g8, none⟩ 0 (accS bel S i A).length none), (11, .int .i64 (nxt (freeL bel S) n i)), (31, .int .i64 n), (32, .int .i64 (j : Nat)), (40, .rsl 1 (keysR L)), (41, .int .i64 L.length), (42, .int .i64 (k : Nat))] ∧ ss = [(123, some ⟨g3, v3, 3, [[.int .i64 n, .rsl 1 (lisR bel), .osl 1 (bools S)]]⟩), (127, some ⟨g5, v5, 1, lvR (lvTo bel n j)⟩), (134, some ⟨g7, v7, mapSz, (accS bel S i A).map kvS⟩), (200, some ⟨g8, v8, 1, keysR (accS bel S i A)⟩)] ∧ (i ≤ n)) ?_ ?_
        · refine ⟨_, 0, ?_, ?_, ?_, ?_, ?_, ?_, ?_, ?_, rfl, ?henv, ?hstore, ?hst⟩
          case henv =>
            repeat' (first | rfl | refine env_cons ?_ ?_ | refine st_cons ?_ ?_ ?_ ?_ | refine int_eq ?_ | refine bool_eq ?_ | refine rsl_eq ?_ | refine osl_eq ?_ | refine sl_eq ?_ ?_ ?_ | refine ptr_eq ?_ ?_ ?_ | refine agg_eq ?_ | refine es_cons ?_ ?_ | refine row_cons ?_ ?_)
            all_goals (first | (simp; done) | omega | (simp; omega))
          case hstore =>
            repeat' (first | rfl | refine env_cons ?_ ?_ | refine st_cons ?_ ?_ ?_ ?_ | refine int_eq ?_ | refine bool_eq ?_ | refine rsl_eq ?_ | refine osl_eq ?_ | refine sl_eq ?_ ?_ ?_ | refine ptr_eq ?_ ?_ ?_ | refine agg_eq ?_ | refine es_cons ?_ ?_ | refine row_cons ?_ ?_)
            all_goals (first | (simp; done) | omega | (simp; omega))
          case hst =>
            first | trivial | omega | (simp; done) | (simp; omega)
        rintro mm ee ss kk ⟨i, g3, v3, g5, v5, g7, v7, g8, v8, rfl, rfl, rfl, hI⟩
        generalize hQl3 : thenQ _ _ = Ql3
        have hal := accS_len bel S i A
        have hfn := fr_next (p := freeL bel S) (fun lv x => addS lv (S.set x true)) (n := n) (i := i) (a := A) hI
        have hac : ∀ m, fr (freeL bel S) (fun lv x => addS lv (S.set x true)) m A = accS bel S m A := fun _ => rfl
        simp only [hac] at hfn
        refine AW.seq fun K23 hK23 => ?_
        refine AW.seq fun K24 hK24 => ?_
        refine AW.regionK 100 (fun _ => none) [4, 5, 6, 7, 8, 11, 31, 32, 40, 41, 42, 52] [123, 127, 134, 200] ?_
        simp only [go_sem, reduceIte, reduceCtorEq, zA, zM, zE, zL, zD, zS, zP, zB, zI, zR]
        repeat with_reducible refine cj ?_ ?_
        all_goals try first | omega
        refine hK24 _ _ _ ?_; clear hK24
        refine AW.cond rfl (by simp only [go_sem, reduceIte, reduceCtorEq, zA, zM, zE, zL, zD, zS, zP, zB, zI, zR]) ?_ ?_
        · intro hb
          try simp only [hB, decide_eq_true_eq, decide_eq_false_iff_not] at hb
          obtain ⟨x, hx1, hx2, hx3, hx4, hx5⟩ := hfn.resolve_left (fun h => by omega)
          have hsx := hfree S x hx4
          have hxt : (nxt (freeL bel S) n i).toNat = x := by omega
          have hxr : 0 ≤ nxt (freeL bel S) n i ∧ nxt (freeL bel S) n i < (n : Int) := by omega
          have hxs : nxt (freeL bel S) n i + 1 = ((x + 1 : Nat) : Int) := by omega
          have hS2 : (S.set x true).length = n := by rw [List.length_set]; exact hSl
          have hkS := Reads.flat (hkey (S.set x true) hS2) rfl
          have hnx2 := Reads.flat (hnx (x + 1) (by omega)) rfl
          have hss : (S.set x true).set x false = S := by rw [List.set_set, ← hsx]; exact set_same S x false
          have hmb := mapB_kvS (accS bel S i A) (S.set x true)
          have hmw := mapWf_kvS (P := Tryd.prog) keyOk9 (accS bel S i A)
          have hkw := keysWf_kvS (P := Tryd.prog) keyOk9 (accS bel S i A)
          have hbl := bools_len S
          have hbl2 := bools_len (S.set x true)
          generalize hP : accS bel S i A = Q at *
          refine AW.skip ?_
          refine hK23 _ _ _ ?_; clear hK23
          refine AW.seq fun K25 hK25 => ?_
          refine AW.block ?_
          refine AW.seq fun K26 hK26 => ?_
          refine AW.regionK 100 (fun _ => none) [4, 5, 6, 7, 8, 11, 31, 32, 40, 41, 42] [123, 127, 134, 200] ?_
          simp only [go_sem, reduceIte, reduceCtorEq, zA, zM, zE, zL, zD, zS, zP, zB, zI, zR, hxt, hbl, hSl, bools_upd]
          repeat with_reducible refine cj ?_ ?_
          all_goals try first | omega
          refine hK26 _ _ _ ?_; clear hK26
          refine AW.seq fun K27 hK27 => ?_
          refine AW.seq fun K28 hK28 => ?_
          refine AW.regionK 100 (fun ii => if ii = 1 then some (.reads true (.str (keyS (S.set x true)))) else none) [4, 5, 6, 7, 8, 11, 12, 31, 32, 40, 41, 42] [123, 127, 134, 200] ?_
          simp only [go_sem, reduceIte, reduceCtorEq, zA, zM, zE, zL, zD, zS, zP, zB, zI, zR]
          repeat with_reducible refine cj ?_ ?_
          all_goals try first | (exact hkS) | omega | exact ent (by kernel_rfl)
          refine hK28 _ _ _ ?_; clear hK28
          refine AW.seq fun K29 hK29 => ?_
          refine AW.regionK 100 (fun _ => none) [4, 5, 6, 7, 8, 11, 12, 31, 32, 40, 41, 42, 68] [123, 127, 134, 200] ?_
          simp only [go_sem, reduceIte, reduceCtorEq, zA, zM, zE, zL, zD, zS, zP, zB, zI, zR, hmb]
          repeat with_reducible refine cj ?_ ?_
          all_goals try first | (exact hmw) | omega
          refine hK29 _ _ _ ?_; clear hK29
          have hJ5 : ∀ (v7 g8 v8 : Nat) (kk : Nat), K27 [(4, .ptr ⟨123, g3, none⟩ 0 0), (5, .sl ⟨127, g5, none⟩ 0 (j + 1) none), (6, .int .i64 (cntL bel n j : Nat)), (7, .mp ⟨134, g7, none⟩), (8, .sl ⟨200, g8, none⟩ 0 (addS Q (S.set x true)).length none), (11, .int .i64 (nxt (freeL bel S) n i)), (31, .int .i64 n), (32, .int .i64 (j : Nat)), (40, .rsl 1 (keysR L)), (41, .int .i64 L.length), (42, .int .i64 (k : Nat))] [(123, some ⟨g3, v3, 3, [[.int .i64 n, .rsl 1 (lisR bel), .osl 1 (bools (S.set x true))]]⟩), (127, some ⟨g5, v5, 1, lvR (lvTo bel n j)⟩), (134, some ⟨g7, v7, mapSz, (addS Q (S.set x true)).map kvS⟩), (200, some ⟨g8, v8, 1, keysR (addS Q (S.set x true))⟩)] kk := by
            intro v7 g8 v8 kk
            refine hK27 _ _ _ ?_; clear hK27
            refine AW.regionK 100 (fun _ => none) [4, 5, 6, 7, 8, 11, 31, 32, 40, 41, 42] [123, 127, 134, 200] ?_
            simp only [go_sem, reduceIte, reduceCtorEq, zA, zM, zE, zL, zD, zS, zP, zB, zI, zR, hxt, hbl2, hS2, bools_upd, hss]
            repeat with_reducible refine cj ?_ ?_
            all_goals try first | omega
            refine hK25 _ _ _ ?_; clear hK25
            refine AW.regionK 100 (fun ii => if ii = 3 then some (.reads true (.int .i64 (nxt (freeL bel S) n (x + 1)))) else none) [4, 5, 6, 7, 8, 11, 31, 32, 40, 41, 42] [123, 127, 134, 200] ?_
            simp only [go_sem, reduceIte, reduceCtorEq, zA, zM, zE, zL, zD, zS, zP, zB, zI, zR, hxs]
            repeat with_reducible refine cj ?_ ?_
            all_goals try first | (exact hnx2) | omega | exact ent (by kernel_rfl)
            rw [← hQl3]
            change Exists _
            refine ⟨_, ?hm, x + 1, ?_, ?_, ?_, ?_, ?_, ?_, ?_, ?_, rfl, ?henv, ?hstore, ?hst⟩
            case henv =>
              repeat' (first | rfl | refine env_cons ?_ ?_ | refine st_cons ?_ ?_ ?_ ?_ | refine int_eq ?_ | refine bool_eq ?_ | refine rsl_eq ?_ | refine osl_eq ?_ | refine sl_eq ?_ ?_ ?_ | refine ptr_eq ?_ ?_ ?_ | refine agg_eq ?_ | refine es_cons ?_ ?_ | refine row_cons ?_ ?_)
              all_goals (first | rw [hx5] | omega)
            case hstore =>
              repeat' (first | rfl | refine env_cons ?_ ?_ | refine st_cons ?_ ?_ ?_ ?_ | refine int_eq ?_ | refine bool_eq ?_ | refine rsl_eq ?_ | refine osl_eq ?_ | refine sl_eq ?_ ?_ ?_ | refine ptr_eq ?_ ?_ ?_ | refine agg_eq ?_ | refine es_cons ?_ ?_ | refine row_cons ?_ ?_)
              all_goals (first | rw [hx5] | omega)
            case hst =>
              omega
            case hm => omega
          refine AW.cond rfl (by simp only [go_sem, reduceIte, reduceCtorEq, zA, zM, zE, zL, zD, zS, zP, zB, zI, zR]) ?_ ?_
          · intro hb
            try simp only [hB, decide_eq_true_eq, decide_eq_false_iff_not] at hb
            have hni : S.set x true ∉ Q := by simpa using hb
            have hmp := mapPut_kvS hni
            have had : addS Q (S.set x true) = Q ++ [S.set x true] := by unfold addS; rw [if_neg hni]
            simp only [had, List.length_append, List.length_cons, List.length_nil, Nat.zero_add] at hJ5
            have htk : (keysR Q).take Q.length = keysR Q := List.take_of_length_le (by rw [keysR_len]; omega)
            refine AW.seq fun K30 hK30 => ?_
            refine AW.regionK 100 (fun _ => none) [4, 5, 6, 7, 8, 11, 12, 31, 32, 40, 41, 42] [123, 127, 134, 200] ?_
            simp only [go_sem, reduceIte, reduceCtorEq, zA, zM, zE, zL, zD, zS, zP, zB, zI, zR, hmp]
            repeat with_reducible refine cj ?_ ?_
            all_goals try first | (exact hkw) | omega
            refine hK30 _ _ _ ?_; clear hK30
            refine AW.regionK 100 (fun _ => none) [4, 5, 6, 7, 8, 11, 31, 32, 40, 41, 42] [123, 127, 134, 200] ?_
            simp only [go_sem, reduceIte, reduceCtorEq, zA, zM, zE, zL, zD, zS, zP, zB, zI, zR, htk, keysR_app, keysR_len]
            repeat with_reducible refine cj ?_ ?_
            all_goals try first | omega | (simp [scP, scalar]; done) | exact scP_words _ | exact scP_ints _ | exact scP_bools _
            exact hJ5 _ _ _ _
          · intro hb
            try simp only [hB, decide_eq_true_eq, decide_eq_false_iff_not] at hb
            have hmi : S.set x true ∈ Q := by simpa using hb
            have had : addS Q (S.set x true) = Q := by unfold addS; rw [if_pos hmi]
            simp only [had] at hJ5
            refine AW.keep [4, 5, 6, 7, 8, 11, 31, 32, 40, 41, 42] [123, 127, 134, 200] ?_
            try simp only [go_sem, reduceIte, reduceCtorEq, zA, zM, zE, zL, zD, zS, zP, zB, zI, zR]
            refine AW.skip ?_
            exact hJ5 _ _ _ _
        · intro hb
          try simp only [hB, decide_eq_true_eq, decide_eq_false_iff_not] at hb
          have hac2 : accS bel S i A = accS bel S n A := by
            rcases hfn with ⟨_, h⟩ | ⟨x, h, _⟩
            · exact h
            · omega
          rw [hac2, ← hn1]
          have hnt1 := hnt (k + 1)
          have hal2 := accS_len bel S n A
          rw [← hn1] at hal2
          refine AW.keep [4, 5, 6, 7, 8, 31, 32, 40, 41, 42] [123, 127, 134, 200] ?_
          try simp only [go_sem, reduceIte, reduceCtorEq, zA, zM, zE, zL, zD, zS, zP, zB, zI, zR]
          refine AW.exit ?_
          rw [← hQl3]
          refine hK21 _ _ _ ?_; clear hK21
          refine AW.seq fun K31 hK31 => ?_
          refine AW.regionK 100 (fun _ => none) [4, 5, 6, 7, 8, 31, 32, 40, 41, 42, 85] [123, 127, 134, 200] ?_
          simp only [go_sem, reduceIte, reduceCtorEq, zA, zM, zE, zL, zD, zS, zP, zB, zI, zR]
          repeat with_reducible refine cj ?_ ?_
          all_goals try first | omega
          refine hK31 _ _ _ ?_; clear hK31
          refine AW.cond rfl (by simp only [go_sem, reduceIte, reduceCtorEq, zA, zM, zE, zL, zD, zS, zP, zB, zI, zR]) ?_ ?_
          · intro hb
            try simp only [hB, decide_eq_true_eq, decide_eq_false_iff_not] at hb
            exfalso; omega
          · intro hb
            try simp only [hB, decide_eq_true_eq, decide_eq_false_iff_not] at hb
            refine AW.skip ?_
            refine hK18 _ _ _ ?_; clear hK18
            refine AW.regionK 100 (fun _ => none) [4, 5, 6, 7, 8, 31, 32, 40, 41, 42] [123, 127, 134, 200] ?_
            simp only [go_sem, reduceIte, reduceCtorEq, zA, zM, zE, zL, zD, zS, zP, zB, zI, zR]
            repeat with_reducible refine cj ?_ ?_
            all_goals try first | omega
            rw [← hQl2]
            change Exists _
            refine ⟨_, ?hm, k + 1, S, ?_, ?_, ?_, ?_, ?_, ?_, ?_, ?_, rfl, ?henv, ?hstore, ?hst⟩
            case henv =>
              repeat' (first | rfl | refine env_cons ?_ ?_ | refine st_cons ?_ ?_ ?_ ?_ | refine int_eq ?_ | refine bool_eq ?_ | refine rsl_eq ?_ | refine osl_eq ?_ | refine sl_eq ?_ ?_ ?_ | refine ptr_eq ?_ ?_ ?_ | refine agg_eq ?_ | refine es_cons ?_ ?_ | refine row_cons ?_ ?_)
              all_goals (first | (simp; done) | omega | (simp; omega))
            case hstore =>
              repeat' (first | rfl | refine env_cons ?_ ?_ | refine st_cons ?_ ?_ ?_ ?_ | refine int_eq ?_ | refine bool_eq ?_ | refine rsl_eq ?_ | refine osl_eq ?_ | refine sl_eq ?_ ?_ ?_ | refine ptr_eq ?_ ?_ ?_ | refine agg_eq ?_ | refine es_cons ?_ ?_ | refine row_cons ?_ ?_)
              all_goals (first | (simp; done) | omega | (simp; omega))
            case hst =>
              exact ⟨by omega, hSl, by omega⟩
            case hm => omega
      · intro hb
        try simp only [hB, decide_eq_true_eq, decide_eq_false_iff_not] at hb
        have hkk : k = L.length := by omega
        subst hkk
        rw [List.take_length] at *
        have htl : (lvR (lvTo bel n j)).take (j + 1) = lvR (lvTo bel n j) := List.take_of_length_le (by omega)
        have hgl : ∀ c, (lvR (lvTo bel n j) ++ [c]).getD (j + 1) [] = c := by
          intro c; rw [List.getD_eq_getElem?_getD, List.getElem?_append_right (by omega)]; simp [hll]
        have hsl : ∀ c c', (lvR (lvTo bel n j) ++ [c]).set (j + 1) c' = lvR (lvTo bel n j) ++ [c'] := by
          intro c c'; rw [List.set_append_right _ _ (by omega)]; simp [hll]
        have htk2 : (keysR (nextL bel n L)).take (nextL bel n L).length = keysR (nextL bel n L) := List.take_of_length_le (by rw [keysR_len]; omega)
        have hla := lvR_app (lvTo bel n j) (nextL bel n L)
        rw [← hl1, hls, hl1] at hla
        refine AW.keep [4, 5, 6, 8, 31, 32] [123, 127, 134, 200] ?_
        try simp only [go_sem, reduceIte, reduceCtorEq, zA, zM, zE, zL, zD, zS, zP, zB, zI, zR]
        refine AW.exit ?_
        rw [← hQl2]
        refine hK14 _ _ _ ?_; clear hK14
        refine AW.seq fun K32 hK32 => ?_
        refine AW.regionK 100 (fun _ => none) [4, 5, 6, 8, 31, 32] [123, 127, 134, 200] ?_
        simp only [go_sem, reduceIte, reduceCtorEq, zA, zM, zE, zL, zD, zS, zP, zB, zI, zR]
        repeat with_reducible refine cj ?_ ?_
        all_goals try first | omega
        refine hK32 _ _ _ ?_; clear hK32
        refine AW.regionK 100 (fun _ => none) [4, 5, 6, 31, 32] [123, 127, 200] ?_
        simp only [go_sem, reduceIte, reduceCtorEq, zA, zM, zE, zL, zD, zS, zP, zB, zI, zR, htl, keysR_len]
        repeat with_reducible refine cj ?_ ?_
        all_goals try first | omega | (simp [scP, scalar]; done) | exact scP_words _ | exact scP_ints _ | exact scP_bools _
        refine hK11 _ _ _ ?_; clear hK11
        refine AW.frzCellK [200] 5 127 (j + 1) 0 ?_
        simp only [go_sem, reduceIte, zE, hgl, hsl, htk2, List.length_append, hll]
        refine ⟨rfl, by omega, by decide, by decide, ?_⟩
        rw [hla]
        refine AW.keep [4, 5, 6, 31, 32] [123, 127] ?_
        simp only [go_sem, reduceIte, zE]
        refine AW.regionK 100 (fun _ => none) [4, 5, 6, 31, 32] [123, 127] ?_
        simp only [go_sem, reduceIte, reduceCtorEq, zA, zM, zE, zL, zD, zS, zP, zB, zI, zR]
        repeat with_reducible refine cj ?_ ?_
        all_goals try first | omega
        rw [← hQl1]
        change Exists _
        refine ⟨_, ?hm, j + 1, D, ?_, ?_, ?_, ?_, rfl, ?henv, ?hstore, ?hst⟩
        case henv =>
          repeat' (first | rfl | refine env_cons ?_ ?_ | refine st_cons ?_ ?_ ?_ ?_ | refine int_eq ?_ | refine bool_eq ?_ | refine rsl_eq ?_ | refine osl_eq ?_ | refine sl_eq ?_ ?_ ?_ | refine ptr_eq ?_ ?_ ?_ | refine agg_eq ?_ | refine es_cons ?_ ?_ | refine row_cons ?_ ?_)
          all_goals (first | omega | rfl)
        case hstore =>
          repeat' (first | rfl | refine env_cons ?_ ?_ | refine st_cons ?_ ?_ ?_ ?_ | refine int_eq ?_ | refine bool_eq ?_ | refine rsl_eq ?_ | refine osl_eq ?_ | refine sl_eq ?_ ?_ ?_ | refine ptr_eq ?_ ?_ ?_ | refine agg_eq ?_ | refine es_cons ?_ ?_ | refine row_cons ?_ ?_)
          all_goals (first | (simp; done) | omega | (simp; omega))
        case hst =>
          exact ⟨by omega, hD, by omega⟩
        case hm => omega
    · intro hb
      try simp only [hB, decide_eq_true_eq, decide_eq_false_iff_not] at hb
      have hjn : n = j := by omega
      subst hjn
      refine AW.keep [4, 5] [123, 127] ?_
      try simp only [go_sem, reduceIte, reduceCtorEq, zA, zM, zE, zL, zD, zS, zP, zB, zI, zR]
      refine AW.exit ?_
      rw [← hQl1]
      refine hK7 _ _ _ ?_; clear hK7
      refine AW.seq fun K33 hK33 => ?_
      refine AW.regionK 100 (fun _ => none) [4, 5, 13] [123, 127, 196] ?_
      simp only [go_sem, reduceIte, reduceCtorEq, zA, zM, zE, zL, zD, zS, zP, zB, zI, zR]
      repeat with_reducible refine cj ?_ ?_
      all_goals try first | omega
      refine hK33 _ _ _ ?_; clear hK33
      refine AW.seq fun K34 hK34 => ?_
      refine AW.seq fun K35 hK35 => ?_
      refine AW.regionK 100 (fun _ => none) [4, 5, 13, 14] [123, 127, 196] ?_
      simp only [go_sem, reduceIte, reduceCtorEq, zA, zM, zE, zL, zD, zS, zP, zB, zI, zR]
      repeat with_reducible refine cj ?_ ?_
      all_goals try first | omega
      refine hK35 _ _ _ ?_; clear hK35
      refine AW.block ?_
      refine AW.loopE (fun mm ee ss kk => ∃ (m : Nat) (D : List Bool) (g3 v3 g5 v5 g13 v13 : Nat), n + 1 - m = mm ∧ ee = [(4, .ptr ⟨123, g3, none⟩ 0 0), (5, .sl ⟨127, g5, none⟩ 0 (n + 1) none), (13, .mp ⟨196, g13, none⟩), (14, .int .i64 ((n : Int) - m))] ∧ ss = [(123, some ⟨g3, v3, 3, [[.int .i64 n, .rsl 1 (lisR bel), .osl 1 (bools D)]]⟩), (127, some ⟨g5, v5, 1, lvR (lvTo bel n n)⟩), (196, some ⟨g13, v13, mapSz, downW bel n m⟩)] ∧ (m ≤ n + 1 ∧ D.length = n)) ?_ ?_
      · refine ⟨_, 0, D, ?_, ?_, ?_, ?_, ?_, ?_, rfl, ?henv, ?hstore, ?hst⟩
        case henv =>
          repeat' (first | rfl | refine env_cons ?_ ?_ | refine st_cons ?_ ?_ ?_ ?_ | refine int_eq ?_ | refine bool_eq ?_ | refine rsl_eq ?_ | refine osl_eq ?_ | refine sl_eq ?_ ?_ ?_ | refine ptr_eq ?_ ?_ ?_ | refine agg_eq ?_ | refine es_cons ?_ ?_ | refine row_cons ?_ ?_)
          all_goals (first | omega | (simp; done))
        case hstore =>
          repeat' (first | rfl | refine env_cons ?_ ?_ | refine st_cons ?_ ?_ ?_ ?_ | refine int_eq ?_ | refine bool_eq ?_ | refine rsl_eq ?_ | refine osl_eq ?_ | refine sl_eq ?_ ?_ ?_ | refine ptr_eq ?_ ?_ ?_ | refine agg_eq ?_ | refine es_cons ?_ ?_ | refine row_cons ?_ ?_)
          all_goals (first | (simp; done) | omega | (simp; omega))
        case hst =>
          exact ⟨by omega, hD⟩
      rintro mm ee ss kk ⟨m, D, g3, v3, g5, v5, g13, v13, rfl, rfl, rfl, hI⟩
      generalize hQl4 : thenQ _ _ = Ql4
      obtain ⟨hm, hD⟩ := hI
      refine AW.seq fun K36 hK36 => ?_
      refine AW.seq fun K37 hK37 => ?_
      refine AW.regionK 100 (fun _ => none) [4, 5, 13, 14, 101] [123, 127, 196] ?_
      simp only [go_sem, reduceIte, reduceCtorEq, zA, zM, zE, zL, zD, zS, zP, zB, zI, zR]
      repeat with_reducible refine cj ?_ ?_
      all_goals try first | omega
      refine hK37 _ _ _ ?_; clear hK37
      refine AW.cond rfl (by simp only [go_sem, reduceIte, reduceCtorEq, zA, zM, zE, zL, zD, zS, zP, zB, zI, zR]) ?_ ?_
      · intro hb
        try simp only [hB, decide_eq_true_eq, decide_eq_false_iff_not] at hb
        have hm2 : m ≤ n := by omega
        obtain ⟨at0, hat⟩ : ∃ at0, at0 = n - m := ⟨_, rfl⟩
        have hat2 : ((n : Int) - m).toNat = at0 := by omega
        have hlg := lvR_get (lvTo_get (bel := bel) (n := n) (j := n) (i := at0) (by omega))
        have hll := lvR_len (lvTo bel n n)
        rw [lvTo_len] at hll
        have hml := fun S => lvAt_len (bel := bel) (n := n) (j := at0) (S := S)
        have hle := lvAt_le bel n at0
        have hcm := cntL_mono bel n at0 n (by omega)
        have hW0 := downW_ok bel n m
        have hdn : downW bel n (m + 1) = (lvAt bel n at0).foldl (stepW bel n at0) (downW bel n m) := by rw [hat]; rfl
        generalize hL : lvAt bel n at0 = L at *
        generalize hE0 : downW bel n m = E0 at *
        refine AW.skip ?_
        refine hK36 _ _ _ ?_; clear hK36
        refine AW.seq fun K38 hK38 => ?_
        refine AW.block ?_
        refine AW.seq fun K39 hK39 => ?_
        refine AW.regionK 100 (fun _ => none) [4, 5, 13, 14, 107, 108, 109] [123, 127, 196] ?_
        simp only [go_sem, reduceIte, reduceCtorEq, zA, zM, zE, zL, zD, zS, zP, zB, zI, zR, hlg, hll, hat2, keysR_len]
        repeat with_reducible refine cj ?_ ?_
        all_goals try first | omega
        refine hK39 _ _ _ ?_; clear hK39
        refine AW.block ?_
        refine AW.loopE (fun mm ee ss kk => ∃ (k : Nat) (D : List Bool) (g3 v3 g5 v5 g13 v13 : Nat), L.length - k = mm ∧ ee = [(4, .ptr ⟨123, g3, none⟩ 0 0), (5, .sl ⟨127, g5, none⟩ 0 (n + 1) none), (13, .mp ⟨196, g13, none⟩), (14, .int .i64 ((n : Int) - m)), (107, .rsl 1 (keysR L)), (108, .int .i64 L.length), (109, .int .i64 (k : Nat))] ∧ ss = [(123, some ⟨g3, v3, 3, [[.int .i64 n, .rsl 1 (lisR bel), .osl 1 (bools D)]]⟩), (127, some ⟨g5, v5, 1, lvR (lvTo bel n n)⟩), (196, some ⟨g13, v13, mapSz, (L.take k).foldl (stepW bel n at0) E0⟩)] ∧ (k ≤ L.length ∧ D.length = n)) ?_ ?_
        · refine ⟨_, 0, D, ?_, ?_, ?_, ?_, ?_, ?_, rfl, ?henv, ?hstore, ?hst⟩
          case henv =>
            repeat' (first | rfl | refine env_cons ?_ ?_ | refine st_cons ?_ ?_ ?_ ?_ | refine int_eq ?_ | refine bool_eq ?_ | refine rsl_eq ?_ | refine osl_eq ?_ | refine sl_eq ?_ ?_ ?_ | refine ptr_eq ?_ ?_ ?_ | refine agg_eq ?_ | refine es_cons ?_ ?_ | refine row_cons ?_ ?_)
            all_goals (first | (simp; done) | omega | (simp; omega))
          case hstore =>
            repeat' (first | rfl | refine env_cons ?_ ?_ | refine st_cons ?_ ?_ ?_ ?_ | refine int_eq ?_ | refine bool_eq ?_ | refine rsl_eq ?_ | refine osl_eq ?_ | refine sl_eq ?_ ?_ ?_ | refine ptr_eq ?_ ?_ ?_ | refine agg_eq ?_ | refine es_cons ?_ ?_ | refine row_cons ?_ ?_)
            all_goals (first | (simp; done) | omega | (simp; omega))
          case hst =>
            exact ⟨by omega, hD⟩
        rintro mm ee ss kk ⟨k, D, g3, v3, g5, v5, g13, v13, rfl, rfl, rfl, hI⟩
        generalize hQl5 : thenQ _ _ = Ql5
        obtain ⟨hk, hD⟩ := hI
        refine AW.seq fun K40 hK40 => ?_
        refine AW.regionK 100 (fun _ => none) [4, 5, 13, 14, 107, 108, 109, 110] [123, 127, 196] ?_
        simp only [go_sem, reduceIte, reduceCtorEq, zA, zM, zE, zL, zD, zS, zP, zB, zI, zR]
        repeat with_reducible refine cj ?_ ?_
        all_goals try first | omega
        refine hK40 _ _ _ ?_; clear hK40
        refine AW.seq fun K41 hK41 => ?_
        refine AW.cond rfl (by simp only [go_sem, reduceIte, reduceCtorEq, zA, zM, zE, zL, zD, zS, zP, zB, zI, zR]) ?_ ?_
        · intro hb
          try simp only [hB, decide_eq_true_eq, decide_eq_false_iff_not] at hb
          obtain ⟨S, hS⟩ := getI (l := L) (j := k) (by omega)
          have hkg := keysR_get hS
          have hSl := hml S (List.mem_of_getElem? hS)
          have hld := fun g v => hload D S hD hSl g v
          have hnx := hnext S hSl
          have hWk := WOk.steps (bel := bel) (n := n) (a := at0) (l := L.take k) hW0
          have hsn : (L.take (k + 1)).foldl (stepW bel n at0) E0 = stepW bel n at0 ((L.take k).foldl (stepW bel n at0) E0) S := by rw [List.take_add_one, hS]; simp
          generalize hE : (L.take k).foldl (stepW bel n at0) E0 = E at *
          refine AW.skip ?_
          refine hK41 _ _ _ ?_; clear hK41
          refine AW.seq fun K42 hK42 => ?_
          refine AW.block ?_
          refine AW.seq fun K43 hK43 => ?_
          refine AW.regionK 100 (fun _ => none) [4, 5, 13, 14, 16, 107, 108, 109] [123, 127, 196] ?_
          simp only [go_sem, reduceIte, reduceCtorEq, zA, zM, zE, zL, zD, zS, zP, zB, zI, zR, hkg]
          repeat with_reducible refine cj ?_ ?_
          all_goals try first | ((rw [keysR_len]; omega)) | omega
          refine hK43 _ _ _ ?_; clear hK43
          refine AW.seq fun K44 hK44 => ?_
          refine AW.regionK 100 (fun ii => if ii = 2 then some (.upd [123] (fun k => [(0, some ⟨g3, k, 3, [[.int .i64 n, .rsl 1 (lisR bel), .osl 1 (bools S)]]⟩)]) (fun _ => .tup [])) else none) [4, 5, 13, 14, 16, 107, 108, 109] [123, 127, 196] ?_
          simp only [go_sem, reduceIte, reduceCtorEq, zA, zM, zE, zL, zD, zS, zP, zB, zI, zR]
          repeat with_reducible refine cj ?_ ?_
          all_goals try first | (exact hld _ _) | omega | exact ent (by kernel_rfl)
          refine hK44 _ _ _ ?_; clear hK44
          refine AW.seq fun K45 hK45 => ?_
          refine AW.regionK 100 (fun _ => none) [4, 5, 13, 14, 16, 17, 107, 108, 109] [123, 127, 196] ?_
          simp only [go_sem, reduceIte, reduceCtorEq, zA, zM, zE, zL, zD, zS, zP, zB, zI, zR]
          repeat with_reducible refine cj ?_ ?_
          all_goals try first | omega
          refine hK45 _ _ _ ?_; clear hK45
          refine AW.seq fun K46 hK46 => ?_
          refine AW.seq fun K47 hK47 => ?_
          refine AW.regionK 100 (fun ii => if ii = 1 then some (.reads true (.int .i64 (nxt (freeL bel S) n 0))) else none) [4, 5, 13, 14, 16, 17, 18, 107, 108, 109] [123, 127, 196] ?_
          simp only [go_sem, reduceIte, reduceCtorEq, zA, zM, zE, zL, zD, zS, zP, zB, zI, zR]
          repeat with_reducible refine cj ?_ ?_
          all_goals try first | (exact Reads.flat (hnx 0 (by omega)) rfl) | omega | exact ent (by kernel_rfl)
          refine hK47 _ _ _ ?_; clear hK47
          refine AW.block ?_
          refine AW.loopE (fun mm ee ss kk => ∃ (i : Nat) (g3 v3 g5 v5 g13 v13 : Nat), n + 1 - i = mm ∧ ee = [(4, .ptr ⟨123, g3, none⟩ 0 0), (5, .sl ⟨127, g5, none⟩ 0 (n + 1) none), (13, .mp ⟨196, g13, none⟩), (14, .int .i64 ((n : Int) - m)), (16, .str (keyS S)), (17, .int .i64 (sumW bel E S i)), (18, .int .i64 (nxt (freeL bel S) n i)), (107, .rsl 1 (keysR L)), (108, .int .i64 L.length), (109, .int .i64 (k : Nat))] ∧ ss = [(123, some ⟨g3, v3, 3, [[.int .i64 n, .rsl 1 (lisR bel), .osl 1 (bools S)]]⟩), (127, some ⟨g5, v5, 1, lvR (lvTo bel n n)⟩), (196, some ⟨g13, v13, mapSz, E⟩)] ∧ (i ≤ n)) ?_ ?_
          · refine ⟨_, 0, ?_, ?_, ?_, ?_, ?_, ?_, rfl, ?henv, ?hstore, ?hst⟩
            case henv =>
              repeat' (first | rfl | refine env_cons ?_ ?_ | refine st_cons ?_ ?_ ?_ ?_ | refine int_eq ?_ | refine bool_eq ?_ | refine rsl_eq ?_ | refine osl_eq ?_ | refine sl_eq ?_ ?_ ?_ | refine ptr_eq ?_ ?_ ?_ | refine agg_eq ?_ | refine es_cons ?_ ?_ | refine row_cons ?_ ?_)
              all_goals (first | (simp; done) | omega | (simp; omega))
            case hstore =>
              repeat' (first | rfl | refine env_cons ?_ ?_ | refine st_cons ?_ ?_ ?_ ?_ | refine int_eq ?_ | refine bool_eq ?_ | refine rsl_eq ?_ | refine osl_eq ?_ | refine sl_eq ?_ ?_ ?_ | refine ptr_eq ?_ ?_ ?_ | refine agg_eq ?_ | refine es_cons ?_ ?_ | refine row_cons ?_ ?_)
              all_goals (first | (simp; done) | omega | (simp; omega))
            case hst =>
              first | trivial | omega | (simp; done) | (simp; omega)
          rintro mm ee ss kk ⟨i, g3, v3, g5, v5, g13, v13, rfl, rfl, rfl, hI⟩
          generalize hQl6 : thenQ _ _ = Ql6
          have hsr := sumW_rng (bel := bel) hWk S i
          have hfn := fr_next (p := freeL bel S) (fun s x => min (s + mapI E (.str (keyS (S.set x true)))) 1125899906842625) (n := n) (i := i) (a := (0 : Int)) hI
          have hac : ∀ m, fr (freeL bel S) (fun s x => min (s + mapI E (.str (keyS (S.set x true)))) 1125899906842625) m (0 : Int) = sumW bel E S m := fun _ => rfl
          simp only [hac] at hfn
          refine AW.seq fun K48 hK48 => ?_
          refine AW.seq fun K49 hK49 => ?_
          refine AW.regionK 100 (fun _ => none) [4, 5, 13, 14, 16, 17, 18, 107, 108, 109, 119] [123, 127, 196] ?_
          simp only [go_sem, reduceIte, reduceCtorEq, zA, zM, zE, zL, zD, zS, zP, zB, zI, zR]
          repeat with_reducible refine cj ?_ ?_
          all_goals try first | omega
          refine hK49 _ _ _ ?_; clear hK49
          refine AW.cond rfl (by simp only [go_sem, reduceIte, reduceCtorEq, zA, zM, zE, zL, zD, zS, zP, zB, zI, zR]) ?_ ?_
          · intro hb
            try simp only [hB, decide_eq_true_eq, decide_eq_false_iff_not] at hb
            obtain ⟨x, hx1, hx2, hx3, hx4, hx5⟩ := hfn.resolve_left (fun h => by omega)
            have hsx := hfree S x hx4
            have hxt : (nxt (freeL bel S) n i).toNat = x := by omega
            have hxr : 0 ≤ nxt (freeL bel S) n i ∧ nxt (freeL bel S) n i < (n : Int) := by omega
            have hxs : nxt (freeL bel S) n i + 1 = ((x + 1 : Nat) : Int) := by omega
            have hS2 : (S.set x true).length = n := by rw [List.length_set]; exact hSl
            have hkS := Reads.flat (hkey (S.set x true) hS2) rfl
            have hnx2 := Reads.flat (hnx (x + 1) (by omega)) rfl
            have hss : (S.set x true).set x false = S := by rw [List.set_set, ← hsx]; exact set_same S x false
            have hmw := hWk.mapWf (P := Tryd.prog) keyOk9
            have hmr := hWk.rng (.str (keyS (S.set x true)))
            have hbl := bools_len S
            have hbl2 := bools_len (S.set x true)
            refine AW.skip ?_
            refine hK48 _ _ _ ?_; clear hK48
            refine AW.seq fun K50 hK50 => ?_
            refine AW.block ?_
            refine AW.seq fun K51 hK51 => ?_
            refine AW.regionK 100 (fun _ => none) [4, 5, 13, 14, 16, 17, 18, 107, 108, 109] [123, 127, 196] ?_
            simp only [go_sem, reduceIte, reduceCtorEq, zA, zM, zE, zL, zD, zS, zP, zB, zI, zR, hxt, hbl, hSl, bools_upd]
            repeat with_reducible refine cj ?_ ?_
            all_goals try first | omega
            refine hK51 _ _ _ ?_; clear hK51
            refine AW.seq fun K52 hK52 => ?_
            refine AW.regionK 100 (fun ii => if ii = 3 then some (.reads true (.str (keyS (S.set x true)))) else none) [4, 5, 13, 14, 16, 17, 18, 107, 108, 109] [123, 127, 196] ?_
            simp only [go_sem, reduceIte, reduceCtorEq, zA, zM, zE, zL, zD, zS, zP, zB, zI, zR]
            repeat with_reducible refine cj ?_ ?_
            all_goals try first | (first | exact hkS | exact hmw) | omega | exact ent (by kernel_rfl)
            refine hK52 _ _ _ ?_; clear hK52
            refine AW.regionK 100 (fun _ => none) [4, 5, 13, 14, 16, 17, 18, 107, 108, 109] [123, 127, 196] ?_
            simp only [go_sem, reduceIte, reduceCtorEq, zA, zM, zE, zL, zD, zS, zP, zB, zI, zR, hxt, hbl2, hS2, bools_upd, hss]
            repeat with_reducible refine cj ?_ ?_
            all_goals try first | omega
            refine hK50 _ _ _ ?_; clear hK50
            refine AW.regionK 100 (fun ii => if ii = 3 then some (.reads true (.int .i64 (nxt (freeL bel S) n (x + 1)))) else none) [4, 5, 13, 14, 16, 17, 18, 107, 108, 109] [123, 127, 196] ?_
            simp only [go_sem, reduceIte, reduceCtorEq, zA, zM, zE, zL, zD, zS, zP, zB, zI, zR, hxs]
            repeat with_reducible refine cj ?_ ?_
            all_goals try first | (exact hnx2) | omega | exact ent (by kernel_rfl)
            rw [← hQl6]
            change Exists _
            refine ⟨_, ?hm, x + 1, ?_, ?_, ?_, ?_, ?_, ?_, rfl, ?henv, ?hstore, ?hst⟩
            case henv =>
              repeat' (first | rfl | refine env_cons ?_ ?_ | refine st_cons ?_ ?_ ?_ ?_ | refine int_eq ?_ | refine bool_eq ?_ | refine rsl_eq ?_ | refine osl_eq ?_ | refine sl_eq ?_ ?_ ?_ | refine ptr_eq ?_ ?_ ?_ | refine agg_eq ?_ | refine es_cons ?_ ?_ | refine row_cons ?_ ?_)
              all_goals (first | (rw [hx5]; rw [Int.min_def]; split <;> split <;> omega) | omega)
            case hstore =>
              repeat' (first | rfl | refine env_cons ?_ ?_ | refine st_cons ?_ ?_ ?_ ?_ | refine int_eq ?_ | refine bool_eq ?_ | refine rsl_eq ?_ | refine osl_eq ?_ | refine sl_eq ?_ ?_ ?_ | refine ptr_eq ?_ ?_ ?_ | refine agg_eq ?_ | refine es_cons ?_ ?_ | refine row_cons ?_ ?_)
              all_goals (first | (simp; done) | omega | (simp; omega))
            case hst =>
              omega
            case hm => omega
          · intro hb
            try simp only [hB, decide_eq_true_eq, decide_eq_false_iff_not] at hb
            have hac2 : sumW bel E S i = sumW bel E S n := by
              rcases hfn with ⟨_, h⟩ | ⟨x, h, _⟩
              · exact h
              · omega
            clear hfn
            rw [hac2]
            refine AW.keep [4, 5, 13, 14, 16, 17, 107, 108, 109] [123, 127, 196] ?_
            try simp only [go_sem, reduceIte, reduceCtorEq, zA, zM, zE, zL, zD, zS, zP, zB, zI, zR]
            refine AW.exit ?_
            rw [← hQl6]
            refine hK46 _ _ _ ?_; clear hK46
            refine AW.seq fun K53 hK53 => ?_
            refine AW.seq fun K54 hK54 => ?_
            refine AW.regionK 100 (fun _ => none) [4, 5, 13, 14, 16, 17, 107, 108, 109, 148] [123, 127, 196] ?_
            simp only [go_sem, reduceIte, reduceCtorEq, zA, zM, zE, zL, zD, zS, zP, zB, zI, zR]
            repeat with_reducible refine cj ?_ ?_
            all_goals try first | omega
            refine hK54 _ _ _ ?_; clear hK54
            have hJ10 : ∀ (z : Nat) (kk : Nat), K53 [(4, .ptr ⟨123, g3, none⟩ 0 0), (5, .sl ⟨127, g5, none⟩ 0 (n + 1) none), (13, .mp ⟨196, g13, none⟩), (14, .int .i64 ((n : Int) - m)), (16, .str (keyS S)), (17, .int .i64 (wayS bel n E S at0)), (107, .rsl 1 (keysR L)), (108, .int .i64 L.length), (109, .int .i64 (k : Nat))] [(123, some ⟨g3, v3, 3, [[.int .i64 n, .rsl 1 (lisR bel), .osl 1 (bools S)]]⟩), (127, some ⟨g5, v5, 1, lvR (lvTo bel n n)⟩), (196, some ⟨g13, v13, mapSz, E⟩)] kk := by
              intro z kk
              refine hK53 _ _ _ ?_; clear hK53
              have hkw := hWk.keysWf (P := Tryd.prog) keyOk9
              have hst : mapPut E (.str (keyS S)) (.int .i64 (wayS bel n E S at0)) = stepW bel n at0 E S := rfl
              refine AW.regionK 100 (fun _ => none) [4, 5, 13, 14, 107, 108, 109] [123, 127, 196] ?_
              simp only [go_sem, reduceIte, reduceCtorEq, zA, zM, zE, zL, zD, zS, zP, zB, zI, zR, hst]
              repeat with_reducible refine cj ?_ ?_
              all_goals try first | (exact hkw) | omega
              refine hK42 _ _ _ ?_; clear hK42
              refine AW.regionK 100 (fun _ => none) [4, 5, 13, 14, 107, 108, 109] [123, 127, 196] ?_
              simp only [go_sem, reduceIte, reduceCtorEq, zA, zM, zE, zL, zD, zS, zP, zB, zI, zR]
              repeat with_reducible refine cj ?_ ?_
              all_goals try first | omega
              rw [← hQl5]
              change Exists _
              refine ⟨_, ?hm, k + 1, S, ?_, ?_, ?_, ?_, ?_, ?_, rfl, ?henv, ?hstore, ?hst⟩
              case henv =>
                repeat' (first | rfl | refine env_cons ?_ ?_ | refine st_cons ?_ ?_ ?_ ?_ | refine int_eq ?_ | refine bool_eq ?_ | refine rsl_eq ?_ | refine osl_eq ?_ | refine sl_eq ?_ ?_ ?_ | refine ptr_eq ?_ ?_ ?_ | refine agg_eq ?_ | refine es_cons ?_ ?_ | refine row_cons ?_ ?_)
                all_goals (first | (simp; done) | omega | (simp; omega))
              case hstore =>
                repeat' (first | rfl | refine env_cons ?_ ?_ | refine st_cons ?_ ?_ ?_ ?_ | refine int_eq ?_ | refine bool_eq ?_ | refine rsl_eq ?_ | refine osl_eq ?_ | refine sl_eq ?_ ?_ ?_ | refine ptr_eq ?_ ?_ ?_ | refine agg_eq ?_ | refine es_cons ?_ ?_ | refine row_cons ?_ ?_)
                all_goals (rw [hsn])
              case hst =>
                exact ⟨by omega, hSl⟩
              case hm => omega
            refine AW.cond rfl (by simp only [go_sem, reduceIte, reduceCtorEq, zA, zM, zE, zL, zD, zS, zP, zB, zI, zR]) ?_ ?_
            · intro hb
              try simp only [hB, decide_eq_true_eq, decide_eq_false_iff_not] at hb
              have hw : wayS bel n E S at0 = 1 := by unfold wayS; rw [if_pos (by omega)]
              rw [hw] at hJ10
              refine AW.regionK 100 (fun _ => none) [4, 5, 13, 14, 16, 17, 107, 108, 109] [123, 127, 196] ?_
              simp only [go_sem, reduceIte, reduceCtorEq, zA, zM, zE, zL, zD, zS, zP, zB, zI, zR]
              repeat with_reducible refine cj ?_ ?_
              all_goals try first | omega
              exact hJ10 0 _
            · intro hb
              try simp only [hB, decide_eq_true_eq, decide_eq_false_iff_not] at hb
              have hw : wayS bel n E S at0 = sumW bel E S n := by unfold wayS; rw [if_neg (by omega)]
              rw [hw] at hJ10
              refine AW.keep [4, 5, 13, 14, 16, 17, 107, 108, 109] [123, 127, 196] ?_
              try simp only [go_sem, reduceIte, reduceCtorEq, zA, zM, zE, zL, zD, zS, zP, zB, zI, zR]
              refine AW.skip ?_
              exact hJ10 0 _
        · intro hb
          try simp only [hB, decide_eq_true_eq, decide_eq_false_iff_not] at hb
          have hkk : k = L.length := by omega
          subst hkk
          rw [List.take_length, ← hdn]
          refine AW.keep [4, 5, 13, 14] [123, 127, 196] ?_
          try simp only [go_sem, reduceIte, reduceCtorEq, zA, zM, zE, zL, zD, zS, zP, zB, zI, zR]
          refine AW.exit ?_
          rw [← hQl5]
          refine hK38 _ _ _ ?_; clear hK38
          refine AW.regionK 100 (fun _ => none) [4, 5, 13, 14] [123, 127, 196] ?_
          simp only [go_sem, reduceIte, reduceCtorEq, zA, zM, zE, zL, zD, zS, zP, zB, zI, zR]
          repeat with_reducible refine cj ?_ ?_
          all_goals try first | omega
          rw [← hQl4]
          change Exists _
          refine ⟨_, ?hm, m + 1, D, ?_, ?_, ?_, ?_, ?_, ?_, rfl, ?henv, ?hstore, ?hst⟩
          case henv =>
            repeat' (first | rfl | refine env_cons ?_ ?_ | refine st_cons ?_ ?_ ?_ ?_ | refine int_eq ?_ | refine bool_eq ?_ | refine rsl_eq ?_ | refine osl_eq ?_ | refine sl_eq ?_ ?_ ?_ | refine ptr_eq ?_ ?_ ?_ | refine agg_eq ?_ | refine es_cons ?_ ?_ | refine row_cons ?_ ?_)
            all_goals (omega)
          case hstore =>
            repeat' (first | rfl | refine env_cons ?_ ?_ | refine st_cons ?_ ?_ ?_ ?_ | refine int_eq ?_ | refine bool_eq ?_ | refine rsl_eq ?_ | refine osl_eq ?_ | refine sl_eq ?_ ?_ ?_ | refine ptr_eq ?_ ?_ ?_ | refine agg_eq ?_ | refine es_cons ?_ ?_ | refine row_cons ?_ ?_)
            all_goals (first | (simp; done) | omega | (simp; omega))
          case hst =>
            exact ⟨by omega, hD⟩
          case hm => omega
      · intro hb
        try simp only [hB, decide_eq_true_eq, decide_eq_false_iff_not] at hb
        have hflt := (downW_ok bel n (n + 1)).flt
        have hmm : m = n + 1 := by omega
        subst hmm
        refine AW.keep [13] [123, 127, 196] ?_
        try simp only [go_sem, reduceIte, reduceCtorEq, zA, zM, zE, zL, zD, zS, zP, zB, zI, zR]
        refine AW.exit ?_
        rw [← hQl4]
        refine hK34 _ _ _ ?_; clear hK34
        refine AW.seq fun K55 hK55 => ?_
        refine AW.regionK 100 (fun _ => none) [2, 3] [123, 127, 196] ?_
        simp only [go_sem, reduceIte, reduceCtorEq, zA, zM, zE, zL, zD, zS, zP, zB, zI, zR]
        repeat with_reducible refine cj ?_ ?_
        all_goals try first | omega
        refine hK55 _ _ _ ?_; clear hK55
        refine AW.ret ?_
        rw [← hQr]
        simp only [go_sem, reduceIte, reduceCtorEq, zA, zM, zE, zL, zD, zS, zP, zB, zI, zR]
        refine ⟨[(196, 0, true)], ?_⟩
        simp only [go_sem, reduceIte, zE, renC_ints]
        rw [hflt]
end Go.Proofs.X

