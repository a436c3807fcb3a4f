/- Lemmas and contracts, part 5: an abstract machine over the model, and the functions that the statement reaches. -/
import Derived.Test.YtcnldaccdojdkaaDoorDimensionBoundsP4
set_option linter.unusedVariables false
set_option linter.unusedSimpArgs false
open Nat renaming reduceAdd → zA, reduceMul → zM, reduceEqDiff → zE, reduceLT → zL, reduceLeDiff → zD, reduceSub → zS, reducePow → zP, reduceBEq → zB
open Int renaming reduceToNat → zI
open List renaming reduceReplicate → zR
namespace Go.Proofs.D
open Go.AM Go
set_option maxRecDepth 100000
set_option maxHeartbeats 2000000
theorem poset_e (rs : List USet) (hl1 : rs.length ≤ 9223372036854775807) (hl2 : ∀ x ∈ rs, x.W.length ≤ 1000000) (hok : ∀ x ∈ rs, okW x.W) (hv : validR rs = false) : Reads Tryd.prog 15 false [relV rs] (.bool false) := by
 have hll : (rs.map rowV).length = rs.length := by simp
 have hv2 : rs.length ≤ 512 → (rs.all fun x => decide (x.N = rs.length) && validS x.N x.W) = false := fun h => by
  unfold validR at hv
  rw [decide_eq_true h] at hv
  simpa using hv
 unfold relV
 refine Reads.body (rs := [.tmp 2]) Tryd.func15 rfl Tryd.ntmps15 rfl (by simp) ?_
 generalize hQr : retQ _ _ _ = Qr
 -- block 1
 refine AW.sg [1] [1] (@hll) ?_
 refine AW.sg [1,3] [1] (@hll) ?_
 refine AW.seq fun K1 hK1 => ?_
 refine AW.sg [1,3,11] [1] (@hll) ?_
 refine AW.cn ?_ ?_
 ·intro hb
  refine AW.sg [2] [] (@hll) ?_
  -- ret 1
  rw [← hQr]
  refine AW.rt (@hll) ?_
  exact Wk.refl _
 ·intro hb
  refine AW.skip ?_
  refine hK1 _ _ _ ?_; clear hK1
  refine AW.seq fun K2 hK2 => ?_
  refine AW.sg [1,3,4] [1] (@hll) ?_
  refine AW.block ?_
  refine AW.loopE (fun mm ee ss kk => ∃ (i g1 v1 : Nat), rs.length - i = mm ∧ ee = [(1, .ptr ⟨1, g1, none⟩ 0 0), (3, .int .i64 rs.length), (4, .int .i64 (i : Nat))] ∧ ss = [(1, some ⟨g1, v1, 1, [[.rsl 2 (rs.map rowV)]]⟩)] ∧ (i ≤ rs.length ∧ ((rs.take i).all fun x => decide (x.N = rs.length) && validS x.N x.W) = true)) ?_ ?_
  -- init 1
  ·exact ⟨_, 0, _, _, rfl, eD, eD, eT⟩
  rintro mm ee ss kk ⟨i, g1, v1, rfl, rfl, rfl, hI⟩
  generalize hQl1 : thenQ _ _ = Ql1
  obtain ⟨hi, hall⟩ := hI
  refine AW.seq fun K3 hK3 => ?_
  refine AW.sg [1,3,4,14] [1] (@hll) ?_
  refine AW.cn ?_ ?_
  ·intro hb
   obtain ⟨x, hx⟩ := getI (l := rs) (j := i) (by omega)
   have hgx : (rs.map rowV).getD i [] = [.int .i64 x.N, .rsl 1 (words x.W)] := getV hx
   have hxm := List.mem_of_getElem? hx
   have hset := isset_r x.N rs.length x.W (hok x hxm) (hl2 x hxm)
   have hsu : (rs.take (i + 1)).all (fun x => decide (x.N = rs.length) && validS x.N x.W) = ((rs.take i).all (fun x => decide (x.N = rs.length) && validS x.N x.W) && (decide (x.N = rs.length) && validS x.N x.W)) := by rw [List.take_add_one, hx, List.all_append]; simp
   have heq : (decide (x.N = (rs.length : Int)) && validS rs.length x.W) = (decide (x.N = rs.length) && validS x.N x.W) := by
    by_cases e : x.N = (rs.length : Int)
    ·rw [e]
    ·simp [e]
   rw [heq] at hset
   refine AW.skip ?_
   refine hK3 _ _ _ ?_; clear hK3
   refine AW.seq fun K4 hK4 => ?_
   refine AW.block ?_
   refine AW.so 0 (fun ii => if ii = 6 then some (.reads false (.bool (decide (x.N = rs.length) && validS x.N x.W))) else none) [1,3,4,24] [1] (e2 @hll @hgx) ?_
   repeat with_reducible refine cj ?_ ?_
   all_goals try first | (exact hset) | omega | exact ent (by kernel_rfl)
   refine AW.cn ?_ ?_
   ·intro hb
    refine AW.sg [2] [] (@hll) ?_
    -- ret 2
    rw [← hQl1, ← hQr]
    refine AW.rt (@hll) ?_
    exact Wk.refl _
   ·intro hb
    refine AW.skip ?_
    refine hK4 _ _ _ ?_; clear hK4
    refine AW.rg [1,3,4] [1] (@hll) ?_
    -- again 1
    rw [← hQl1]; change Exists _
    exact ⟨_, eO, i + 1, _, _, rfl, eD, eD, (⟨by omega, by rw [hsu, hall]; simpa using hb⟩)⟩
  ·intro hb
   exfalso
   have hi2 : i = rs.length := by omega
   rw [hi2, List.take_length, hv2 (by omega)] at hall
   cases hall
theorem poset_g (n : Nat) (t : List (List Bool)) (hs : Sq n t) (hn : n ≤ 512) : Reads Tryd.prog 15 false [relB t] (.bool (poB n t)) := by
 have hlt := tabR_len t
 have hlen := hs.len
 have hls := fun a ha => less_r n t hs hn a a ha ha
 have hls2 := fun a b ha hb => less_r n t hs hn a b ha hb
 have hco := fun a b ha hb => contained_r n t hs hn a b ha hb
 have hpo := poB_iff hs
 unfold relB at *
 refine Reads.body (rs := [.tmp 2]) Tryd.func15 rfl Tryd.ntmps15 rfl (by simp) ?_
 generalize hQr : retQ _ _ _ = Qr
 -- block 2
 refine AW.sg [1] [1] (e2 @hlt @hlen) ?_
 refine AW.sg [1,3] [1] (e2 @hlt @hlen) ?_
 refine AW.seq fun K1 hK1 => ?_
 refine AW.sg [1,3,11] [1] (e2 @hlt @hlen) ?_
 refine AW.cn ?_ ?_
 ·intro hb
  exfalso; omega
 ·intro hb
  refine AW.skip ?_
  refine hK1 _ _ _ ?_; clear hK1
  refine AW.seq fun K2 hK2 => ?_
  refine AW.sg [1,3,4] [1] (e2 @hlt @hlen) ?_
  refine AW.block ?_
  refine AW.loopE (fun mm ee ss kk => ∃ (i g1 v1 : Nat), n - i = mm ∧ ee = [(1, .ptr ⟨1, g1, none⟩ 0 0), (3, .int .i64 n), (4, .int .i64 (i : Nat))] ∧ ss = [(1, some ⟨g1, v1, 1, [[.rsl 2 (tabR t)]]⟩)] ∧ (i ≤ n)) ?_ ?_
  -- init 1
  ·exact ⟨_, 0, _, _, rfl, eD, eD, eT⟩
  rintro mm ee ss kk ⟨i, g1, v1, rfl, rfl, rfl, hI⟩
  generalize hQl1 : thenQ _ _ = Ql1
  refine AW.seq fun K3 hK3 => ?_
  refine AW.sg [1,3,4,14] [1] (e2 @hlt @hlen) ?_
  refine AW.cn ?_ ?_
  ·intro hb
   have hgi := tabR_get (t := t) (i := i) (by omega)
   have hri := hs.rowLen (i := i) (by omega)
   have hset := isset_b (rowT t i) (by omega)
   rw [hri] at hset
   unfold rowB at hset
   rw [hri] at hset
   refine AW.skip ?_
   refine hK3 _ _ _ ?_; clear hK3
   refine AW.seq fun K4 hK4 => ?_
   refine AW.block ?_
   refine AW.so 0 (fun ii => if ii = 6 then some (.reads false (.bool true)) else none) [1,3,4,24] [1] (e5 @hlt @hlen @hgi @rowB.eq_1 @hri) ?_
   repeat with_reducible refine cj ?_ ?_
   all_goals try first | (exact hset) | omega | exact ent (by kernel_rfl)
   refine AW.cn ?_ ?_
   ·intro hb
    exfalso; simp at hb
   ·intro hb
    refine AW.skip ?_
    refine hK4 _ _ _ ?_; clear hK4
    refine AW.rg [1,3,4] [1] (e2 @hlt @hlen) ?_
    -- again 1
    rw [← hQl1]; change Exists _
    exact ⟨_, eO, i + 1, _, _, rfl, eD, eD, eT⟩
  ·intro hb
   -- exit 0
   refine AW.kx [1,3] [1] ?_
   rw [← hQl1]
   refine hK2 _ _ _ ?_; clear hK2
   refine AW.seq fun K5 hK5 => ?_
   refine AW.sg [1,3,5] [1] (e2 @hlt @hlen) ?_
   refine AW.block ?_
   refine AW.loopE (fun mm ee ss kk => ∃ (i g1 v1 : Nat), n - i = mm ∧ ee = [(1, .ptr ⟨1, g1, none⟩ 0 0), (3, .int .i64 n), (5, .int .i64 (i : Nat))] ∧ ss = [(1, some ⟨g1, v1, 1, [[.rsl 2 (tabR t)]]⟩)] ∧ (i ≤ n ∧ ∀ a, a < i → atT t a a = false ∧ ∀ b c, b < n → c < n → atT t a b = true → atT t b c = true → atT t a c = true)) ?_ ?_
   -- init 2
   ·exact ⟨_, 0, _, _, rfl, eD, eD, (⟨by omega, fun a ha => by omega⟩)⟩
   rintro mm ee ss kk ⟨i, g1, v1, rfl, rfl, rfl, hI⟩
   generalize hQl2 : thenQ _ _ = Ql2
   obtain ⟨hi, hal⟩ := hI
   refine AW.seq fun K6 hK6 => ?_
   refine AW.sg [1,3,5,27] [1] (e2 @hlt @hlen) ?_
   refine AW.cn ?_ ?_
   ·intro hb
    have hir := hls i (by omega)
    refine AW.skip ?_
    refine hK6 _ _ _ ?_; clear hK6
    refine AW.seq fun K7 hK7 => ?_
    refine AW.block ?_
    refine AW.seq fun K8 hK8 => ?_
    refine AW.so 0 (fun ii => if ii = 3 then some (.reads false (.bool (atT t i i))) else none) [1,3,5,33] [1] (e2 @hlt @hlen) ?_
    repeat with_reducible refine cj ?_ ?_
    all_goals try first | (exact hir) | omega | exact ent (by kernel_rfl)
    refine AW.cn ?_ ?_
    ·intro hb
     refine AW.sg [2] [] (e2 @hlt @hlen) ?_
     -- ret 3
     rw [← hQl2, ← hQr]
     refine AW.rt (e2 @hlt @hlen) ?_
     have hf : poB n t = false := by
      cases e : poB n t with
      | false => rfl
      | true => have := (hpo.1 e).irr i (by omega); rw [hb] at this; cases this
     exact Wk.of_eq (by rw [hf])
    ·intro hb
     have hir0 : atT t i i = false := by simpa using hb
     clear hb
     refine AW.skip ?_
     refine hK8 _ _ _ ?_; clear hK8
     refine AW.sg [1,3,5,6] [1] (e2 @hlt @hlen) ?_
     refine AW.block ?_
     refine AW.loopE (fun mm ee ss kk => ∃ (j g1 v1 : Nat), n - j = mm ∧ ee = [(1, .ptr ⟨1, g1, none⟩ 0 0), (3, .int .i64 n), (5, .int .i64 (i : Nat)), (6, .int .i64 (j : Nat))] ∧ ss = [(1, some ⟨g1, v1, 1, [[.rsl 2 (tabR t)]]⟩)] ∧ (j ≤ n ∧ ∀ b c, b < j → c < n → atT t i b = true → atT t b c = true → atT t i c = true)) ?_ ?_
     -- init 3
     ·exact ⟨_, 0, _, _, rfl, eD, eD, (⟨by omega, fun b c hb => by omega⟩)⟩
     rintro mm ee ss kk ⟨j, g1, v1, rfl, rfl, rfl, hI⟩
     generalize hQl3 : thenQ _ _ = Ql3
     obtain ⟨hj, hal2⟩ := hI
     refine AW.seq fun K9 hK9 => ?_
     refine AW.sg [1,3,5,6,36] [1] (e2 @hlt @hlen) ?_
     refine AW.cn ?_ ?_
     ·intro hb
      have h1 := hls2 i j (by omega) (by omega)
      have h2 := hco i j (by omega) (by omega)
      refine AW.skip ?_
      refine hK9 _ _ _ ?_; clear hK9
      refine AW.seq fun K10 hK10 => ?_
      refine AW.block ?_
      refine AW.so 0 (fun ii => if ii = 3 then some (.reads false (.bool (atT t i j))) else if ii = 8 then some (.reads false (.bool (conB n t i j))) else none) [1,3,5,6,49] [1] (e2 @hlt @hlen) ?_
      repeat with_reducible refine cj ?_ ?_
      all_goals try first | (first | exact h1 | exact h2 | (intro hh; exact ⟨hh, h2⟩)) | (intros; (repeat' apply And.intro) <;> first | assumption | (first | exact h1 | exact h2 | (intro hh; exact ⟨hh, h2⟩))) | omega | exact ent (by kernel_rfl) | (intro hgd; exact absurd hgd (by decide)) | rfl | (simp only [go_sem, reduceIte, reduceCtorEq, zA, zM, zE, zL, zD, zS, zP, zB, zI, zR, hlt, hlen]; done) | (intro _hgd; simp_all [go_sem]; done)
      refine AW.cn ?_ ?_
      ·intro hb
       refine AW.sg [2] [] (e2 @hlt @hlen) ?_
       -- ret 4
       rw [← hQl3, ← hQl2, ← hQr]
       refine AW.rt (e2 @hlt @hlen) ?_
       have hf : poB n t = false := by
        cases e : poB n t with
        | false => rfl
        | true =>
         have hc : conB n t i j = true := List.all_eq_true.2 fun k hk => by
          have hk := List.mem_range.1 hk
          cases e1 : atT t j k with
          | false => rfl
          | true => rw [(hpo.1 e).trans i j k (by omega) (by omega) hk hb.1 e1]; rfl
         rw [hc] at hb; exact absurd hb.2 (by simp)
       exact Wk.of_eq (by rw [hf])
      ·intro hb
       refine AW.skip ?_
       refine hK10 _ _ _ ?_; clear hK10
       refine AW.rg [1,3,5,6] [1] (e2 @hlt @hlen) ?_
       -- again 3
       rw [← hQl3]; change Exists _
       refine ⟨_, eO, j + 1, _, _, rfl, eD, eD, ?_⟩
       refine ⟨by omega, fun b c hb2 hc q1 q2 => ?_⟩
       by_cases e : b = j
       ·subst e
        have hcj : conB n t i b = true := by
         revert hb; rw [q1]; cases conB n t i b <;> simp
        have := List.all_eq_true.1 hcj c (List.mem_range.2 hc)
        rw [q2] at this
        simpa using this
       ·exact hal2 b c (by omega) hc q1 q2
     ·intro hb
      have hj2 : j = n := by omega
      -- exit 4
      refine AW.kx [1,3,5] [1] ?_
      rw [← hQl3]
      refine hK7 _ _ _ ?_; clear hK7
      refine AW.rg [1,3,5] [1] (e2 @hlt @hlen) ?_
      -- again 2
      rw [← hQl2]; change Exists _
      refine ⟨_, eO, i + 1, _, _, rfl, eD, eD, ?_⟩
      refine ⟨by omega, fun a ha => ?_⟩
      by_cases e : a = i
      ·subst e
       exact ⟨hir0, fun b c hb2 hc h1 h2 => hal2 b c (by omega) hc h1 h2⟩
      ·exact hal a (by omega)
   ·intro hb
    -- exit 2
    refine AW.kx [] [] ?_
    rw [← hQl2]
    refine hK5 _ _ _ ?_; clear hK5
    refine AW.sg [2] [] (e2 @hlt @hlen) ?_
    -- ret 5
    rw [← hQr]
    refine AW.rt (e2 @hlt @hlen) ?_
    have hf : poB n t = true := hpo.2 ⟨fun a ha => (hal a (by omega)).1, fun a b c ha hb2 hc h1 h2 => (hal a (by omega)).2 b c hb2 hc h1 h2⟩
    exact Wk.of_eq (by rw [hf])
end Go.Proofs.D

/- How many extensions go on from an ideal; what the map of ways says; ranks. -/
namespace Go.AM
def sumF (p : Nat → Bool) (f : Nat → Nat) (m : Nat) : Nat := fr p (fun s x => s + f x) m 0
theorem sumF_zero (p : Nat → Bool) (f : Nat → Nat) : sumF p f 0 = 0 := rfl
theorem sumF_succ {p : Nat → Bool} (f : Nat → Nat) {k : Nat} (h : p k = true) : sumF p f (k + 1) = sumF p f k + f k := fr_succ _ h _
theorem sumF_miss {p : Nat → Bool} (f : Nat → Nat) {k : Nat} (h : p k = false) : sumF p f (k + 1) = sumF p f k := fr_miss _ h _
theorem sumF_mono (p : Nat → Bool) (f : Nat → Nat) (i : Nat) : ∀ j, i ≤ j → sumF p f i ≤ sumF p f j
  | 0, h => by rw [Nat.le_zero.1 h]; exact Nat.le_refl _
  | j + 1, h => by
    rcases Nat.eq_or_lt_of_le h with e | e
    · rw [e]; exact Nat.le_refl _
    · have := sumF_mono p f i j (by omega)
      cases hp : p j with
      | true => rw [sumF_succ f hp]; omega
      | false => rw [sumF_miss f hp]; exact this
/-- How many ways to place the m elements that are left. -/
def cE (bel : List (List Int)) (n : Nat) : Nat → List Bool → Nat
  | 0, _ => 1
  | m + 1, S => sumF (freeL bel S) (fun x => cE bel n m (S.set x true)) n
/-! ### A map after a put. -/
theorem keyEq_eq {S : List Bool} {r : AV} (h : keyEq (.str (keyS S)) r = true) (T : List Bool) : keyEq (.str (keyS T)) r = decide (T = S) := by
  cases r with
  | str b =>
    have h0 : (keyS S == b) = true := h
    have h1 : (keyS S).data = b.data := by rw [ba_beq] at h0; exact eq_of_beq h0
    show (keyS T == b) = _
    rw [ba_beq, ← h1, ← ba_beq]
    exact keyEq_str T S
  | _ => simp [keyEq] at h
theorem mapAt_put (S T : List Bool) (v : AV) : ∀ (es : List (List AV)), mapAt (mapPut es (.str (keyS S)) v) (.str (keyS T)) = if T = S then some v else mapAt es (.str (keyS T)) := by
  have key : ∀ (es : List (List AV)) (i : Nat), (mapFind (mapPut es (.str (keyS S)) v) (.str (keyS T)) i).map (·.2) = if T = S then some v else (mapFind es (.str (keyS T)) i).map (·.2) := by
    intro es
    induction es with
    | nil =>
      intro i
      simp only [mapPut, mapFind]
      have : (([AV.str (keyS S), v] : List AV).getD 0 .any) = .str (keyS S) := rfl
      rw [this, keyEq_str]
      by_cases h : T = S <;> simp [h]
    | cons row es ih =>
      intro i
      unfold mapPut
      by_cases h : keyEq (.str (keyS S)) (row.getD 0 .any) = true
      · rw [if_pos h]
        have hT := keyEq_eq h T
        simp only [mapFind]
        have : (([AV.str (keyS S), v] : List AV).getD 0 .any) = .str (keyS S) := rfl
        rw [this, keyEq_str, hT]
        by_cases e : T = S <;> simp [e]
      · rw [if_neg h]
        simp only [mapFind]
        by_cases e : keyEq (.str (keyS T)) (row.getD 0 .any) = true
        · rw [if_pos e, if_pos e]
          by_cases e2 : T = S
          · subst e2; exact absurd e h
          · simp [e2]
        · rw [if_neg e, if_neg e]
          exact ih (i + 1)
  intro es
  exact key es 0
theorem mapI_put (es : List (List AV)) (S T : List Bool) (v : Int) : mapI (mapPut es (.str (keyS S)) (.int .i64 v)) (.str (keyS T)) = if T = S then v else mapI es (.str (keyS T)) := by
  unfold mapI
  rw [mapAt_put]
  by_cases h : T = S <;> simp [h]
theorem fr_congr {α : Type} {p : Nat → Bool} {f g : α → Nat → α} : ∀ m (a : α), (∀ a x, x < m → p x = true → f a x = g a x) → fr p f m a = fr p g m a
  | 0, _, _ => rfl
  | m + 1, a, h => by
    have ih := fr_congr (p := p) (f := f) (g := g) m a fun a x hx => h a x (by omega)
    cases hp : p m with
    | true => rw [fr_succ f hp, fr_succ g hp, ih, h _ m (by omega) hp]
    | false => rw [fr_miss f hp, fr_miss g hp, ih]
theorem wayS_congr {bel : List (List Int)} {n a : Nat} {es es' : List (List AV)} {S : List Bool} (hS : S.length = n) (h : ∀ T, cntT T = cntT S + 1 → mapI es (.str (keyS T)) = mapI es' (.str (keyS T))) : wayS bel n es S a = wayS bel n es' S a := by
  unfold wayS sumW
  split
  · rfl
  · exact fr_congr n 0 fun s x hx hp => by rw [h (S.set x true) (cntT_set (by omega) (freeL_not hp))]
theorem steps_other {bel : List (List Int)} {n a : Nat} {T : List Bool} : ∀ (L : List (List Bool)) (es : List (List AV)), T ∉ L → mapI (L.foldl (stepW bel n a) es) (.str (keyS T)) = mapI es (.str (keyS T))
  | [], _, _ => rfl
  | S :: L, es, h => by
    rw [List.foldl_cons, steps_other L _ (fun h' => h (List.mem_cons_of_mem _ h'))]
    unfold stepW
    have hne : T ≠ S := fun e => h (by rw [e]; exact List.mem_cons_self)
    rw [mapI_put, if_neg hne]
theorem steps_at {bel : List (List Int)} {n a : Nat} {T : List Bool} : ∀ (L : List (List Bool)) (es : List (List AV)), (∀ S ∈ L, S.length = n ∧ cntT S = a) → T ∈ L → mapI (L.foldl (stepW bel n a) es) (.str (keyS T)) = wayS bel n es T a
  | S :: L, es, hL, h => by
    have hS := hL S List.mem_cons_self
    have hstep : ∀ U, cntT U = a + 1 → mapI (stepW bel n a es S) (.str (keyS U)) = mapI es (.str (keyS U)) := fun U hU => by
      unfold stepW
      rw [mapI_put, if_neg (fun e => by rw [e, hS.2] at hU; omega)]
    rw [List.foldl_cons]
    by_cases hT : T ∈ L
    · rw [steps_at L _ (fun S h => hL S (List.mem_cons_of_mem _ h)) hT]
      have hT2 := hL T (List.mem_cons_of_mem _ hT)
      exact wayS_congr hT2.1 fun U hU => hstep U (by rw [hU, hT2.2])
    · rcases List.mem_cons.1 h with e | e
      · subst e
        rw [steps_other L _ hT]
        unfold stepW
        rw [mapI_put, if_pos rfl]
      · exact absurd e hT
theorem lvAt_cnt {bel : List (List Int)} {n : Nat} : ∀ {j : Nat} {S : List Bool}, S ∈ lvAt bel n j → cntT S = j
  | 0, S, h => by rw [List.mem_singleton.1 h]; exact cntT_rep n
  | j + 1, S, h => by
    obtain ⟨S', h1, x, hx, hf, rfl⟩ := mem_nextL.1 h
    rw [cntT_set (by rw [lvAt_len h1]; exact hx) (freeL_not hf), lvAt_cnt h1]
theorem lvAt_next {bel : List (List Int)} {n j x : Nat} {S : List Bool} (h : S ∈ lvAt bel n j) (hx : x < n) (hf : freeL bel S x = true) : S.set x true ∈ lvAt bel n (j + 1) := mem_nextL.2 ⟨S, h, x, hx, hf, rfl⟩
theorem min_sum {p : Nat → Bool} {f : Nat → Nat} {w : Nat → Int} : ∀ m, (∀ x, x < m → p x = true → w x = min (f x : Int) 1125899906842625) → fr p (fun s x => min (s + w x) 1125899906842625) m (0 : Int) = min (sumF p f m : Int) 1125899906842625
  | 0, _ => by simp only [fr_zero, sumF_zero]; decide
  | m + 1, h => by
    have ih := min_sum (p := p) (f := f) (w := w) m fun x hx => h x (by omega)
    cases hp : p m with
    | true => rw [fr_succ _ hp, sumF_succ f hp, ih, h m (by omega) hp]; omega
    | false => rw [fr_miss _ hp, sumF_miss f hp, ih]
theorem downW_spec {bel : List (List Int)} {n : Nat} : ∀ m, m ≤ n + 1 → ∀ a, n < a + m → a ≤ n → ∀ S ∈ lvAt bel n a, mapI (downW bel n m) (.str (keyS S)) = min (cE bel n (n - a) S : Int) 1125899906842625
  | 0, _, a, h1, h2, _, _ => by omega
  | m + 1, hm, a, h1, h2, S, hS => by
    have ih := downW_spec (bel := bel) (n := n) m (by omega)
    have hL : ∀ T ∈ lvAt bel n (n - m), T.length = n ∧ cntT T = n - m := fun T hT => ⟨lvAt_len hT, lvAt_cnt hT⟩
    show mapI ((lvAt bel n (n - m)).foldl (stepW bel n (n - m)) (downW bel n m)) _ = _
    by_cases e : a = n - m
    · subst e
      rw [steps_at _ _ hL hS]
      unfold wayS
      by_cases e2 : n - m = n
      · rw [if_pos e2, show n - (n - m) = 0 by omega]; simp only [cE]; decide
      · rw [if_neg e2]
        obtain ⟨q, hq⟩ : ∃ q, n - (n - m) = q + 1 := ⟨m - 1, by omega⟩
        rw [hq]
        unfold sumW cE
        refine min_sum n fun x hx hf => ?_
        have := ih (n - m + 1) (by omega) (by omega) _ (lvAt_next hS hx hf)
        rw [show n - (n - m + 1) = q by omega] at this
        exact this
    · rw [steps_other _ _ (fun h => by
        have h3 := lvAt_cnt h
        rw [lvAt_cnt hS] at h3
        exact e h3)]
      exact ih a (by omega) h2 S hS
theorem ways_spec {bel : List (List Int)} {n a : Nat} (ha : a ≤ n) {S : List Bool} (hS : S ∈ lvAt bel n a) : mapI (waysE bel n) (.str (keyS S)) = min (cE bel n (n - a) S : Int) 1125899906842625 :=
  downW_spec (n + 1) (Nat.le_refl _) a (by omega) ha S hS
/-! ### Ranks. -/
theorem IsExt.lv {n : Nat} {bel : List (List Int)} {l : List Int} (h : IsExt n bel l) : ∀ m, m ≤ n → dAt n l m ∈ lvAt bel n m
  | 0, _ => by simp [dAt, exD, lvAt]
  | m + 1, hm => by
    have h1 := h.rng m (by omega)
    rw [dAt_succ (by rw [h.len]; omega)]
    exact lvAt_next (h.lv m (by omega)) (by omega) (h.free m (by omega))
def rankC (bel : List (List Int)) (n : Nat) (l : List Int) : Nat → Nat
  | 0 => 0
  | m + 1 => rankC bel n l m + sumF (freeL bel (dAt n l m)) (fun x => cE bel n (n - (m + 1)) ((dAt n l m).set x true)) (l.getD m 0).toNat
theorem cE_at {bel : List (List Int)} {n m : Nat} (hm : m < n) (S : List Bool) : cE bel n (n - m) S = sumF (freeL bel S) (fun x => cE bel n (n - (m + 1)) (S.set x true)) n := by
  obtain ⟨q, hq⟩ : ∃ q, n - m = q + 1 := ⟨n - m - 1, by omega⟩
  rw [hq, show n - (m + 1) = q by omega]; rfl
theorem IsExt.step {n : Nat} {bel : List (List Int)} {l : List Int} (h : IsExt n bel l) {m : Nat} (hm : m < n) : rankC bel n l (m + 1) + cE bel n (n - (m + 1)) (dAt n l (m + 1)) ≤ rankC bel n l m + cE bel n (n - m) (dAt n l m) := by
  have h1 := h.rng m hm
  have h2 := h.free m hm
  rw [cE_at hm, dAt_succ (by rw [h.len]; omega)]
  have h3 := sumF_succ (p := freeL bel (dAt n l m)) (fun x => cE bel n (n - (m + 1)) ((dAt n l m).set x true)) h2
  have h4 := sumF_mono (freeL bel (dAt n l m)) (fun x => cE bel n (n - (m + 1)) ((dAt n l m).set x true)) ((l.getD m 0).toNat + 1) n (by omega)
  show rankC bel n l m + _ + _ ≤ _
  omega
theorem IsExt.down {n : Nat} {bel : List (List Int)} {l : List Int} (h : IsExt n bel l) (m : Nat) : ∀ q, m ≤ q → q ≤ n → rankC bel n l q + cE bel n (n - q) (dAt n l q) ≤ rankC bel n l m + cE bel n (n - m) (dAt n l m)
  | 0, h1, _ => by rw [Nat.le_zero.1 h1]; exact Nat.le_refl _
  | q + 1, h1, h2 => by
    rcases Nat.eq_or_lt_of_le h1 with e | e
    · rw [e]; exact Nat.le_refl _
    · exact Nat.le_trans (h.step (by omega)) (h.down m q (by omega) (by omega))
theorem IsExt.bound {n : Nat} {bel : List (List Int)} {l : List Int} (h : IsExt n bel l) {m : Nat} (hm : m < n) {i : Nat} (hi : i ≤ n) : rankC bel n l m + sumF (freeL bel (dAt n l m)) (fun x => cE bel n (n - (m + 1)) ((dAt n l m).set x true)) i ≤ cE bel n n (List.replicate n false) := by
  have h1 := h.down 0 m (Nat.zero_le _) (by omega)
  have h2 := cE_at (bel := bel) hm (dAt n l m)
  have h4 := sumF_mono (freeL bel (dAt n l m)) (fun x => cE bel n (n - (m + 1)) ((dAt n l m).set x true)) i n hi
  have h5 : dAt n l 0 = List.replicate n false := rfl
  have h6 : rankC bel n l 0 = 0 := rfl
  rw [h5, h6, Nat.sub_zero] at h1
  omega
/-- The rank by the map of ways. -/
theorem IsExt.ways {n : Nat} {bel : List (List Int)} {l : List Int} (h : IsExt n bel l) (hbig : cE bel n n (List.replicate n false) ≤ 1125899906842624) {m : Nat} (hm : m < n) {x : Nat} (hx : x < n) (hf : freeL bel (dAt n l m) x = true) :
    mapI (waysE bel n) (.str (keyS ((dAt n l m).set x true))) = (cE bel n (n - (m + 1)) ((dAt n l m).set x true) : Int) := by
  rw [ways_spec (a := m + 1) (by omega) (lvAt_next (h.lv m (by omega)) hx hf)]
  have h1 := h.down 0 m (Nat.zero_le _) (by omega)
  have h2 := cE_at (bel := bel) hm (dAt n l m)
  have h3 := sumF_succ (p := freeL bel (dAt n l m)) (fun x => cE bel n (n - (m + 1)) ((dAt n l m).set x true)) hf
  have h4 := sumF_mono (freeL bel (dAt n l m)) (fun x => cE bel n (n - (m + 1)) ((dAt n l m).set x true)) (x + 1) n (by omega)
  have h5 : dAt n l 0 = List.replicate n false := rfl
  have h6 : rankC bel n l 0 = 0 := rfl
  rw [h5, h6, Nat.sub_zero] at h1
  omega
end Go.AM

/- The reference's words about linear extensions. -/
namespace Go.AM
def eaOk (n : Nat) (d : List Bool) (i : Int) : Bool := decide (0 ≤ i) && decide (i < n) && !d.getD i.toNat false
def eachGo (n : Nat) : List Bool → List Int → Bool
  | _, [] => true
  | d, i :: l => eaOk n d i && eachGo n (d.set i.toNat true) l
def eachB (n : Nat) (l : List Int) : Bool := decide (l.length = n) && eachGo n (List.replicate n false) l
theorem eachGo_app (n : Nat) : ∀ (l m : List Int) (d : List Bool), eachGo n d (l ++ m) = (eachGo n d l && eachGo n (exD d l) m)
  | [], m, d => by simp [eachGo, exD]
  | i :: l, m, d => by
    show (eaOk n d i && eachGo n (d.set i.toNat true) (l ++ m)) = ((eaOk n d i && eachGo n (d.set i.toNat true) l) && eachGo n (exD (d.set i.toNat true) l) m)
    rw [eachGo_app n l m, Bool.and_assoc]
structure IsEach (n : Nat) (l : List Int) : Prop where
  len : l.length = n
  rng : ∀ m, m < n → 0 ≤ l.getD m 0 ∧ l.getD m 0 < (n : Int)
  new : ∀ m, m < n → (dAt n l m).getD (l.getD m 0).toNat false = false
theorem eachGo_at {n : Nat} {d : List Bool} {l : List Int} (h : eachGo n d l = true) {m : Nat} (hm : m < l.length) : eaOk n (exD d (l.take m)) (l.getD m 0) = true := by
  have h1 := eachGo_app n (l.take m) (l.drop m) d
  rw [List.take_append_drop, h] at h1
  have h2 : eachGo n (exD d (l.take m)) (l.drop m) = true := by
    cases e : eachGo n (exD d (l.take m)) (l.drop m) with
    | true => rfl
    | false => rw [e] at h1; simp at h1
  rw [List.drop_eq_getElem_cons hm] at h2
  unfold eachGo at h2
  simp only [Bool.and_eq_true] at h2
  have : l.getD m 0 = l[m] := by simp [List.getD_eq_getElem?_getD, List.getElem?_eq_getElem hm]
  rw [this]; exact h2.1
theorem eachB_iff {n : Nat} {l : List Int} : eachB n l = true ↔ IsEach n l := by
  constructor
  · intro h
    unfold eachB at h
    simp only [Bool.and_eq_true, decide_eq_true_eq] at h
    have key := fun m (hm : m < n) => eachGo_at h.2 (m := m) (by omega)
    unfold eaOk at key
    simp only [Bool.and_eq_true, decide_eq_true_eq, Bool.not_eq_true'] at key
    exact ⟨h.1, fun m hm => (key m hm).1, fun m hm => (key m hm).2⟩
  · intro h
    unfold eachB
    simp only [Bool.and_eq_true, decide_eq_true_eq]
    refine ⟨h.len, ?_⟩
    have : ∀ m, m ≤ n → eachGo n (List.replicate n false) (l.take m) = true := by
      intro m
      induction m with
      | zero => intro _; simp [eachGo]
      | succ m ih =>
        intro hm
        rw [List.take_add_one, List.getElem?_eq_getElem (by rw [h.len]; omega), Option.toList_some, eachGo_app, ih (by omega), Bool.true_and]
        have h1 := h.rng m (by omega)
        have h2 := h.new m (by omega)
        have e : l[m]'(by rw [h.len]; omega) = l.getD m 0 := by simp [List.getD_eq_getElem?_getD, List.getElem?_eq_getElem (show m < l.length by rw [h.len]; omega)]
        rw [e]
        unfold dAt at h2
        simp only [eachGo, eaOk, h1.1, h1.2, h2, decide_true, Bool.and_self, Bool.not_false]
    have := this n (Nat.le_refl _)
    rwa [List.take_of_length_le (by rw [h.len]; exact Nat.le_refl _)] at this
/-- What is marked was in the list. -/
theorem dAt_mem {n : Nat} {l : List Int} (hr : ∀ m, m < n → 0 ≤ l.getD m 0 ∧ l.getD m 0 < (n : Int)) (hl : l.length = n) {i : Nat} (hi : i < n) : ∀ m, m ≤ n → ((dAt n l m).getD i false = true ↔ ∃ k, k < m ∧ l.getD k 0 = (i : Nat))
  | 0, _ => by simp [dAt, exD, List.getD_eq_getElem?_getD, List.getElem?_replicate]; split <;> simp
  | m + 1, hm => by
    have ih := dAt_mem hr hl hi m (by omega)
    have h1 := hr m (by omega)
    rw [dAt_succ (by omega), getD_setB]
    by_cases e : (l.getD m 0).toNat = i
    · rw [if_pos ⟨e, by rw [dAt_len]; omega⟩]
      exact ⟨fun _ => ⟨m, by omega, by omega⟩, fun _ => rfl⟩
    · rw [if_neg (fun h => e h.1), ih]
      constructor
      · rintro ⟨k, h2, h3⟩; exact ⟨k, by omega, h3⟩
      · rintro ⟨k, h2, h3⟩
        rcases Nat.lt_succ_iff_lt_or_eq.1 h2 with h4 | h4
        · exact ⟨k, h4, h3⟩
        · subst h4; omega
theorem IsEach.cnt {n : Nat} {l : List Int} (h : IsEach n l) : ∀ m, m ≤ n → cntT (dAt n l m) = m
  | 0, _ => by simp [dAt, exD, cntT_rep]
  | m + 1, hm => by
    have h1 := h.rng m (by omega)
    rw [dAt_succ (by rw [h.len]; omega), cntT_set (by rw [dAt_len]; omega) (h.new m (by omega)), h.cnt m (by omega)]
theorem IsEach.has {n : Nat} {l : List Int} (h : IsEach n l) {i : Nat} (hi : i < n) : ∃ k, k < n ∧ l.getD k 0 = (i : Nat) := by
  have := all_true (d := dAt n l n) (by rw [h.cnt n (Nat.le_refl _), dAt_len])
  rw [dAt_len] at this
  refine (dAt_mem h.rng h.len hi n (Nat.le_refl _)).1 ?_
  rw [this]; simp [List.getD_eq_getElem?_getD, hi]
theorem IsEach.inj {n : Nat} {l : List Int} (h : IsEach n l) {a b : Nat} (ha : a < b) (hb : b < n) : l.getD a 0 ≠ l.getD b 0 := by
  intro e
  have h1 := h.rng b hb
  have h2 := h.new b hb
  have h3 := (dAt_mem h.rng h.len (i := (l.getD b 0).toNat) (by omega) b (by omega)).2 ⟨a, ha, by omega⟩
  rw [h2] at h3; cases h3
theorem IsExt.each {n : Nat} {bel : List (List Int)} {l : List Int} (h : IsExt n bel l) : IsEach n l := ⟨h.len, h.rng, fun m hm => freeL_not (h.free m hm)⟩
/-- No later element is below an earlier one. -/
def noLess (t : List (List Bool)) (l : List Int) (j i : Nat) : Bool := !atT t (l.getD j 0).toNat (l.getD i 0).toNat
theorem ext_iff {n : Nat} {t : List (List Bool)} (hp : IsPo n t) {l : List Int} : extB n (belL n t) l = true ↔ eachB n l = true ∧ ∀ j, j < n → ∀ i, i < j → noLess t l j i = true := by
  rw [extB_iff, eachB_iff]
  constructor
  · intro h
    refine ⟨h.each, fun j hj i hi => ?_⟩
    have h1 := h.rng i (by omega)
    have h2 := h.rng j hj
    unfold noLess
    cases ha : atT t (l.getD j 0).toNat (l.getD i 0).toNat with
    | false => rfl
    | true =>
      have h3 := ((freeL_iff (by omega)).1 (h.free i (by omega))).2 _ (by omega) ha
      obtain ⟨k, h4, h5⟩ := (dAt_mem h.rng h.len (by omega) i (by omega)).1 h3
      exact absurd (show l.getD k 0 = l.getD j 0 by omega) (h.each.inj (a := k) (b := j) (by omega) hj)
  · rintro ⟨h, hno⟩
    refine ⟨h.len, h.rng, fun m hm => ?_⟩
    have h1 := h.rng m hm
    refine (freeL_iff (by omega)).2 ⟨h.new m hm, fun j hj ha => ?_⟩
    obtain ⟨k, h2, h3⟩ := h.has hj
    refine (dAt_mem h.rng h.len hj m (by omega)).2 ⟨k, ?_, h3⟩
    apply Classical.byContradiction
    intro hk
    rcases Nat.eq_or_lt_of_le (Nat.le_of_not_lt hk) with e | e
    · subst e
      rw [h3, Int.toNat_natCast] at ha
      rw [hp.irr j hj] at ha; cases ha
    · have h4 := hno k h2 m e
      unfold noLess at h4
      rw [h3, Int.toNat_natCast, ha] at h4; cases h4
end Go.AM

/- The reference's way to count: from an ideal upwards, with the ways to each one. -/
namespace Go.AM
structure RStE where
  nx : List (List Bool)
  sm : List Int
  bg : Bool
def capM (v : Int) : Int := if 1125899906842624 < v then 1125899906842625 else v
def rNew (st : RStE) (y : List Bool) : RStE := if y ∈ st.nx then st else ⟨st.nx ++ [y], st.sm ++ [0], st.bg⟩
def rPut (st : RStE) (a : Nat) (w : Int) : RStE := ⟨st.nx, st.sm.set a (capM (st.sm.getD a 0 + w)), st.bg || decide (1125899906842624 < st.sm.getD a 0 + w)⟩
def rAdd (w : Int) (st : RStE) (y : List Bool) : RStE := rPut (rNew st y) ((rNew st y).nx.idxOf y) w
def rS (bel : List (List Int)) (S : List Bool) (w : Int) (m : Nat) (st : RStE) : RStE := fr (freeL bel S) (fun st x => rAdd w st (S.set x true)) m st
def rFold (bel : List (List Int)) (n : Nat) (L : List (List Bool × Int)) (st : RStE) : RStE := L.foldl (fun st p => rS bel p.1 p.2 n st) st
structure ROk (st : RStE) : Prop where
  len : st.nx.length = st.sm.length
  rng : ∀ v ∈ st.sm, 0 ≤ v ∧ v ≤ 1125899906842625
  cap : st.bg = false → ∀ v ∈ st.sm, v ≤ 1125899906842624
theorem ROk.new {st : RStE} (h : ROk st) (y : List Bool) : ROk (rNew st y) := by
  unfold rNew
  split
  · exact h
  · refine ⟨by simp [h.len], fun v hv => ?_, fun hb v hv => ?_⟩
    · rcases List.mem_append.1 hv with e | e
      · exact h.rng v e
      · rw [List.mem_singleton.1 e]; exact ⟨by decide, by decide⟩
    · rcases List.mem_append.1 hv with e | e
      · exact h.cap hb v e
      · rw [List.mem_singleton.1 e]; decide
theorem ROk.getD {st : RStE} (h : ROk st) (a : Nat) : 0 ≤ st.sm.getD a 0 ∧ st.sm.getD a 0 ≤ 1125899906842625 := by
  by_cases ha : a < st.sm.length
  · rw [List.getD_eq_getElem?_getD, List.getElem?_eq_getElem ha]
    exact h.rng _ (List.getElem_mem ha)
  · rw [List.getD_eq_getElem?_getD, List.getElem?_eq_none (by omega)]
    exact ⟨by decide, by decide⟩
theorem ROk.put {st : RStE} (h : ROk st) (a : Nat) {w : Int} (hw : 0 ≤ w) : ROk (rPut st a w) := by
  refine ⟨by simp [rPut, h.len], fun v hv => ?_, fun hb v hv => ?_⟩
  · rcases List.mem_or_eq_of_mem_set hv with e | e
    · exact h.rng v e
    · have := h.getD a
      rw [e]; unfold capM; split <;> omega
  · simp only [rPut, Bool.or_eq_false_iff, decide_eq_false_iff_not] at hb
    rcases List.mem_or_eq_of_mem_set hv with e | e
    · exact h.cap hb.1 v e
    · rw [e]; unfold capM; rw [if_neg hb.2]; omega
theorem ROk.add {st : RStE} (h : ROk st) (y : List Bool) {w : Int} (hw : 0 ≤ w) : ROk (rAdd w st y) := (h.new y).put _ hw
theorem ROk.s {bel : List (List Int)} {S : List Bool} {w : Int} (hw : 0 ≤ w) : ∀ (m : Nat) {st : RStE}, ROk st → ROk (rS bel S w m st)
  | 0, _, h => h
  | m + 1, st, h => by
    have ih := ROk.s (bel := bel) (S := S) hw m h
    unfold rS at *
    cases hf : freeL bel S m with
    | true => rw [fr_succ _ hf]; exact ih.add _ hw
    | false => rw [fr_miss _ hf]; exact ih
theorem ROk.fold {bel : List (List Int)} {n : Nat} : ∀ {L : List (List Bool × Int)} {st : RStE}, (∀ p ∈ L, 0 ≤ p.2) → ROk st → ROk (rFold bel n L st)
  | [], _, _, h => h
  | p :: L, st, hL, h => by
    have := ROk.fold (bel := bel) (n := n) (L := L) (fun q hq => hL q (List.mem_cons_of_mem _ hq)) (h.s (bel := bel) (S := p.1) (hL p List.mem_cons_self) n)
    exact this
/-! ### What the sums say. -/
end Go.AM

/- The reference's count is the number of ways. -/
namespace Go.AM
theorem ROk.empty (b : Bool) : ROk ⟨[], [], b⟩ := ⟨rfl, fun v hv => (by cases hv), fun _ v hv => (by cases hv)⟩
end Go.AM

/- Each rank is the rank of an extension. -/
namespace Go.AM
theorem getD_left {l : List Int} {x : Int} {q : Nat} (h : q < l.length) : (l ++ [x]).getD q 0 = l.getD q 0 := by
  rw [List.getD_eq_getElem?_getD, List.getElem?_append_left h, ← List.getD_eq_getElem?_getD]
theorem getD_last {l : List Int} {x : Int} : (l ++ [x]).getD l.length 0 = x := by simp [List.getD_eq_getElem?_getD]
theorem dAt_left {n : Nat} {l : List Int} {x : Int} {q : Nat} (h : q ≤ l.length) : dAt n (l ++ [x]) q = dAt n l q := by
  unfold dAt; rw [List.take_append_of_le_length h]
structure IsPre (n : Nat) (bel : List (List Int)) (l : List Int) : Prop where
  le : l.length ≤ n
  rng : ∀ m, m < l.length → 0 ≤ l.getD m 0 ∧ l.getD m 0 < (n : Int)
  free : ∀ m, m < l.length → freeL bel (dAt n l m) (l.getD m 0).toNat = true
theorem IsPre.snoc {n : Nat} {bel : List (List Int)} {l : List Int} (h : IsPre n bel l) {x : Nat} (hl : l.length < n) (hx : x < n) (hf : freeL bel (dAt n l l.length) x = true) : IsPre n bel (l ++ [((x : Nat) : Int)]) := by
  refine ⟨by simp; omega, fun m hm => ?_, fun m hm => ?_⟩
  · simp only [List.length_append, List.length_cons, List.length_nil] at hm
    by_cases e : m < l.length
    · rw [getD_left e]; exact h.rng m e
    · rw [show m = l.length by omega, getD_last]; omega
  · simp only [List.length_append, List.length_cons, List.length_nil] at hm
    by_cases e : m < l.length
    · rw [getD_left e, dAt_left (by omega)]; exact h.free m e
    · rw [show m = l.length by omega, getD_last, dAt_left (Nat.le_refl _)]; exact hf
theorem IsPre.ext {n : Nat} {bel : List (List Int)} {l : List Int} (h : IsPre n bel l) (hl : l.length = n) : IsExt n bel l := ⟨hl, fun m hm => h.rng m (by omega), fun m hm => h.free m (by omega)⟩
end Go.AM

/- The next extension has the next rank. -/
namespace Go.AM
theorem IsExt.pre {n : Nat} {bel : List (List Int)} {l : List Int} (h : IsExt n bel l) (m : Nat) (hm : m ≤ n) : IsPre n bel (l.take m) := by
  have hl : (l.take m).length = m := by simp [h.len, hm]
  have hg : ∀ q, q < m → (l.take m).getD q 0 = l.getD q 0 := fun q hq => by rw [List.getD_eq_getElem?_getD, List.getElem?_take_of_lt hq, ← List.getD_eq_getElem?_getD]
  have hd : ∀ q, q ≤ m → dAt n (l.take m) q = dAt n l q := fun q hq => by unfold dAt; rw [List.take_take, Nat.min_eq_left hq]
  refine ⟨by omega, fun q hq => ?_, fun q hq => ?_⟩
  · rw [hg q (by omega)]; exact h.rng q (by omega)
  · rw [hg q (by omega), hd q (by omega)]; exact h.free q (by omega)
/-! ### Small orders. -/
end Go.AM

/- An order with one more pair. -/
namespace Go.AM
def leT (t : List (List Bool)) (x a : Nat) : Bool := decide (x = a) || atT t x a
def mRow (n : Nat) (t : List (List Bool)) (a b x : Nat) : List Bool := (List.range n).map fun z => atT t x z || (leT t x a && leT t b z)
def mT (n : Nat) (t : List (List Bool)) (a b : Nat) : List (List Bool) := (List.range n).map (mRow n t a b)
theorem mRow_len (n : Nat) (t : List (List Bool)) (a b x : Nat) : (mRow n t a b x).length = n := by simp [mRow]
theorem mRow_get {n : Nat} {t : List (List Bool)} {a b x z : Nat} (hz : z < n) : (mRow n t a b x).getD z false = (atT t x z || (leT t x a && leT t b z)) := by
  simp [mRow, List.getD_eq_getElem?_getD, hz]
theorem mT_row {n : Nat} {t : List (List Bool)} {a b x : Nat} (hx : x < n) : rowT (mT n t a b) x = mRow n t a b x := by
  simp [rowT, mT, List.getD_eq_getElem?_getD, hx]
theorem mT_sq (n : Nat) (t : List (List Bool)) (a b : Nat) : Sq n (mT n t a b) := ⟨by simp [mT], fun r hr => by
  obtain ⟨x, _, rfl⟩ := List.mem_map.1 hr
  exact mRow_len n t a b x⟩
theorem mT_at {n : Nat} {t : List (List Bool)} {a b x z : Nat} (hx : x < n) (hz : z < n) : atT (mT n t a b) x z = (atT t x z || (leT t x a && leT t b z)) := by
  unfold atT; rw [mT_row hx, mRow_get hz]; rfl
theorem leT_trans {n : Nat} {t : List (List Bool)} (hp : IsPo n t) {x y z : Nat} (hx : x < n) (hy : y < n) (hz : z < n) (h1 : leT t x y = true) (h2 : leT t y z = true) : leT t x z = true := by
  unfold leT at *
  simp only [Bool.or_eq_true, decide_eq_true_eq] at *
  rcases h1 with rfl | h1
  · exact h2
  · rcases h2 with rfl | h2
    · exact .inr h1
    · exact .inr (hp.trans x y z hx hy hz h1 h2)
theorem mT_po {n : Nat} {t : List (List Bool)} (hp : IsPo n t) {a b : Nat} (ha : a < n) (hb : b < n) (hba : leT t b a = false) : IsPo n (mT n t a b) := by
  have hle : ∀ {x y}, atT t x y = true → leT t x y = true := fun h => by unfold leT; rw [h]; simp
  refine ⟨fun x hx => ?_, fun x y z hx hy hz h1 h2 => ?_⟩
  · rw [mT_at hx hx, hp.irr x hx, Bool.false_or]
    cases e : leT t x a && leT t b x with
    | false => rfl
    | true =>
      rw [Bool.and_eq_true] at e
      rw [leT_trans hp hb hx ha e.2 e.1] at hba; cases hba
  · rw [mT_at hx hy] at h1
    rw [mT_at hy hz] at h2
    rw [mT_at hx hz]
    simp only [Bool.or_eq_true, Bool.and_eq_true] at *
    rcases h1 with h1 | ⟨h1, h1'⟩
    · rcases h2 with h2 | ⟨h2, h2'⟩
      · exact .inl (hp.trans x y z hx hy hz h1 h2)
      · exact .inr ⟨leT_trans hp hx hy ha (hle h1) h2, h2'⟩
    · rcases h2 with h2 | ⟨h2, h2'⟩
      · exact .inr ⟨h1, leT_trans hp hb hy hz h1' (hle h2)⟩
      · exfalso
        rw [leT_trans hp hb hy ha h1' h2] at hba; cases hba
end Go.AM

/- The search's classes are closures: what is dealt can be reversed, and what cannot be put cannot be reversed. -/
namespace Go.AM
theorem warsh_put {n : Nat} {u : List (List Bool)} (hu : Sq n u) (hac : acyc n u = true) {a b : Nat} (ha : a < n) (hb : b < n) (hba : leT (warsh n u) b a = false) : warsh n (putT u a b) = mT n (warsh n u) a b := by
  have hw := warsh_po hu hac
  have hm := mT_po hw ha hb hba
  have hq := hu.putT ha b
  refine tab_ext hq.warsh (mT_sq _ _ _ _) fun i j hi hj => bool_ext ?_
  constructor
  · intro h
    refine warsh_least hq (S := fun i j => atT (mT n (warsh n u) a b) i j = true) (fun i j hi hj h => ?_) (fun i k j hi hk hj h1 h2 => hm.trans i k j hi hk hj h1 h2) hi hj h
    rw [atT_putT hu ha hb] at h
    rw [mT_at hi hj]
    simp only [Bool.or_eq_true, Bool.and_eq_true, decide_eq_true_eq] at h ⊢
    rcases h with ⟨rfl, rfl⟩ | h
    · right; simp [leT]
    · left; exact warsh_sub hu hi hj h
  · intro h
    have hsub : ∀ x y, x < n → y < n → atT (warsh n u) x y = true → atT (warsh n (putT u a b)) x y = true := fun x y hx hy h => by
      refine warsh_least hu (S := fun i j => atT (warsh n (putT u a b)) i j = true) (fun i j hi hj h => warsh_sub hq hi hj ?_) (fun i k j hi hk hj h1 h2 => warsh_trans hq hi hk hj h1 h2) hx hy h
      rw [atT_putT hu ha hb, h, Bool.or_true]
    have hab : atT (warsh n (putT u a b)) a b = true := warsh_sub hq ha hb (by rw [atT_putT hu ha hb]; simp)
    rw [mT_at hi hj] at h
    simp only [Bool.or_eq_true, Bool.and_eq_true, leT, decide_eq_true_eq] at h
    rcases h with h | ⟨h1, h2⟩
    · exact hsub i j hi hj h
    · have h3 : atT (warsh n (putT u a b)) i b = true := by
        rcases h1 with rfl | h1
        · exact hab
        · exact warsh_trans hq hi ha hb (hsub i a hi ha h1) hab
      rcases h2 with rfl | h2
      · exact h3
      · exact warsh_trans hq hi hb hj h3 (hsub b j hb hj h2)
theorem acyc_put {n : Nat} {u : List (List Bool)} (hu : Sq n u) (hac : acyc n u = true) {a b : Nat} (ha : a < n) (hb : b < n) : acyc n (putT u a b) = !leT (warsh n u) b a := by
  cases h : leT (warsh n u) b a with
  | false =>
    have hm := mT_po (warsh_po hu hac) ha hb h
    rw [Bool.not_false]
    exact acyc_iff.2 fun i hi => by rw [warsh_put hu hac ha hb h]; exact hm.irr i hi
  | true =>
    rw [Bool.not_true]
    cases e : acyc n (putT u a b) with
    | false => rfl
    | true =>
      exfalso
      have hq := hu.putT ha b
      have h0 := acyc_iff.1 e b hb
      have hab : atT (warsh n (putT u a b)) a b = true := warsh_sub hq ha hb (by rw [atT_putT hu ha hb]; simp)
      simp only [leT, Bool.or_eq_true, decide_eq_true_eq] at h
      rcases h with rfl | h
      · rw [hab] at h0; cases h0
      · have : atT (warsh n (putT u a b)) b a = true := warsh_least hu (S := fun i j => atT (warsh n (putT u a b)) i j = true) (fun i j hi hj h => warsh_sub hq hi hj (by rw [atT_putT hu ha hb, h, Bool.or_true])) (fun i k j hi hk hj h1 h2 => warsh_trans hq hi hk hj h1 h2) hb ha h
        rw [warsh_trans hq hb ha hb this hab] at h0; cases h0
/-- A class stands for the closure of an order and of the turned pairs. -/
structure CI (n : Nat) (t : List (List Bool)) (q : List (Nat × Nat)) (c : List Nat) : Prop where
  cls : Cls c
  rng : ∀ x ∈ q, x.1 < n ∧ x.2 < n
  acy : acyc n (addTs t q) = true
  rel : ∀ i j, i < 8 → j < 8 → (c.getD i 0).testBit j = (decide (i < n) && decide (j < n) && atT (warsh n (addTs t q)) i j)
theorem addTs_snoc (t : List (List Bool)) (q : List (Nat × Nat)) (x : Nat × Nat) : addTs t (q ++ [x]) = putT (addTs t q) x.2 x.1 := by
  unfold addTs; rw [List.foldl_append]; rfl
theorem cputL_get (c : List Nat) (hc : c.length = 8) (a v : Nat) {k : Nat} (hk : k < 8) : ∀ m, m ≤ 8 → (cputL c a v m).getD k 0 = if k < m then cputR a v k (c.getD k 0) else c.getD k 0
  | 0, _ => by simp [cputL]
  | m + 1, hm => by
    have ih := cputL_get c hc a v hk m (by omega)
    unfold cputL
    by_cases e : m = k
    · subst e
      rw [getD_set_eq (by rw [cputL_len]; omega), ih, if_neg (by omega), if_pos (by omega)]
    · rw [getD_set_ne e, ih]
      by_cases h : k < m
      · rw [if_pos h, if_pos (by omega)]
      · rw [if_neg h, if_neg (by omega)]
theorem CI.bad {n : Nat} {t : List (List Bool)} (hs : Sq n t) {q : List (Nat × Nat)} {c : List Nat} (h : CI n t q c) (hn : n ≤ 8) {x : Nat × Nat} (h1 : x.1 < n) (h2 : x.2 < n) : acyc n (addTs t (q ++ [x])) = !badC c x.2 x.1 := by
  have hsq := addTs_sq (L := q) hs fun y hy => (h.rng y hy).2
  rw [addTs_snoc, acyc_put hsq h.acy h2 h1]
  congr 1
  unfold badC leT
  rw [h.rel x.1 x.2 (by omega) (by omega), decide_eq_true h1, decide_eq_true h2]
  congr 1
  exact decide_eq_decide.2 eq_comm
theorem testBit_or_two (x v b j : Nat) : (x ||| (v ||| 2 ^ b)).testBit j = (x.testBit j || (v.testBit j || decide (b = j))) := by
  rw [Nat.testBit_or, Nat.testBit_or, Nat.testBit_two_pow]
theorem CI.snoc {n : Nat} {t : List (List Bool)} (hs : Sq n t) {q : List (Nat × Nat)} {c : List Nat} (h : CI n t q c) (hn : n ≤ 8) {x : Nat × Nat} (h1 : x.1 < n) (h2 : x.2 < n) (hb : badC c x.2 x.1 = false) : CI n t (q ++ [x]) (cputC c x.2 x.1) := by
  have hsq := addTs_sq (L := q) hs fun y hy => (h.rng y hy).2
  have hac : acyc n (addTs t (q ++ [x])) = true := by rw [h.bad hs hn h1 h2, hb]; rfl
  have hle : leT (warsh n (addTs t q)) x.1 x.2 = false := by
    have := acyc_put hsq h.acy h2 h1
    rw [← addTs_snoc, hac] at this
    cases e : leT (warsh n (addTs t q)) x.1 x.2 with
    | false => rfl
    | true => rw [e] at this; cases this
  refine ⟨cputC_cls h.cls (by omega), fun y hy => ?_, hac, fun i j hi hj => ?_⟩
  · rcases List.mem_append.1 hy with hy | hy
    · exact h.rng y hy
    · rw [List.mem_singleton.1 hy]; exact ⟨h1, h2⟩
  · unfold cputC
    rw [cputL_get c h.cls.1 x.2 (afterC c x.1) hi 8 (Nat.le_refl _), if_pos hi]
    have r1 := h.rel i j hi hj
    have r2 := h.rel i x.2 hi (by omega)
    have r3 := h.rel x.1 j (by omega) hj
    rw [decide_eq_true h1] at r3
    rw [decide_eq_true h2] at r2
    rw [addTs_snoc, warsh_put hsq h.acy h2 h1 hle]
    unfold cputR
    by_cases hin : i < n
    · rw [decide_eq_true hin] at r1 r2 ⊢
      by_cases hjn : j < n
      · rw [decide_eq_true hjn] at r1 r3 ⊢
        rw [mT_at hin hjn]
        simp only [Bool.true_and] at r1 r2 r3 ⊢
        unfold leT
        split
        · rename_i hc
          unfold afterC
          rw [testBit_or_two, r1, r3]
          rw [r2] at hc
          rw [hc, Bool.true_and]
          congr 1
          rw [Bool.or_comm]
        · rename_i hc
          rw [r2] at hc
          have hc2 : (decide (i = x.2) || atT (warsh n (addTs t q)) i x.2) = false := by simpa using hc
          rw [r1, hc2, Bool.false_and, Bool.or_false]
      · rw [decide_eq_false hjn] at r1 r3 ⊢
        simp only [Bool.and_false, Bool.false_and] at r1 r3 ⊢
        split
        · unfold afterC
          rw [testBit_or_two, r1, r3, decide_eq_false (by omega)]; rfl
        · exact r1
    · rw [decide_eq_false hin] at r1 r2 ⊢
      simp only [Bool.false_and] at r1 r2 ⊢
      rw [if_neg]
      · exact r1
      · rw [r2, decide_eq_false (by omega)]; decide
theorem byte_bit (W : List Int) (hW : okW W) {j : Nat} (hj : j < 8) : (byteN W).testBit j = hasW W j := by
  rw [hasW_nat hW, show j / 64 = 0 by omega, show j % 64 = j by omega]
  have h0 := (hW 0).1
  unfold byteN
  obtain ⟨w, hw⟩ : ∃ w : Nat, W.getD 0 0 = (w : Int) := ⟨_, (Int.toNat_of_nonneg h0).symm⟩
  rw [hw]
  have : (((w : Int) % 256).toNat) = w % 2 ^ 8 := by omega
  rw [this, Int.toNat_natCast, Nat.testBit_mod_two_pow]
  simp [hj]
theorem CI.start {n : Nat} {t : List (List Bool)} (hs : Sq n t) (hp : IsPo n t) (hn : n ≤ 8) : CI n t [] (startT n t) := by
  refine ⟨startAt_cls n t n, by simp, ?_, fun i j hi hj => ?_⟩
  · exact hp.acyc hs
  · unfold startT
    rw [startAt_get n t n hi]
    show _ = (decide (i < n) && decide (j < n) && atT (warsh n t) i j)
    rw [hp.warsh hs]
    by_cases hin : i < n
    · rw [if_pos hin, decide_eq_true hin, Bool.true_and]
      have hrl := hs.rowLen hin
      have hwl := setW_len' (rowT t i)
      have hok := setW_ok (rowT t i)
      rw [hrl] at hok
      have h64 : j / 64 < (setW (rowT t i) (rowT t i).length).length := by
        rw [hwl, hrl]; unfold wordsN; rw [Int.tdiv_eq_ediv_of_nonneg (by omega)]; omega
      have hh := hasW_setW (rowT t i) h64
      rw [hrl] at hh
      rw [byte_bit _ hok hj, hh]
      by_cases hjn : j < n
      · rw [decide_eq_true hjn, Bool.true_and]; rfl
      · rw [decide_eq_false hjn, Bool.false_and, getD_out (by omega)]
    · rw [if_neg hin, decide_eq_false hin]; simp
/-! ### The search. -/
/-- What the search keeps: classes and what is dealt to them. -/
structure SI (n : Nat) (t : List (List Bool)) (P : List (Nat × Nat)) (i : Nat) (cl : List (List Nat)) (de : List (List (Nat × Nat))) : Prop where
  len : cl.length = de.length
  ci : ∀ k, k < de.length → CI n t (de.getD k []) (cl.getD k [])
  ne : ∀ k, k < de.length → de.getD k [] ≠ []
  all : ∀ x ∈ P.take i, ∃ k, k < de.length ∧ x ∈ de.getD k []
  le : de.length ≤ i
  rows : ∀ k, (de.getD k []).length ≤ i
  from_ : ∀ k, ∀ x ∈ de.getD k [], x ∈ P
theorem SI.nil (n : Nat) (t : List (List Bool)) (P : List (Nat × Nat)) : SI n t P 0 [] [] := ⟨rfl, fun k h => absurd h (Nat.not_lt_zero _), fun k h => absurd h (Nat.not_lt_zero _), fun x h => absurd h (by simp), Nat.le_refl _, fun k => by rw [getD_out (by simp)]; exact Nat.le_refl _, fun k x h => absurd h (by rw [getD_out (by simp)]; simp)⟩
theorem addP_get {de : List (List (Nat × Nat))} {j k : Nat} {x : Nat × Nat} (hj : j < de.length) : (addP de j x).getD k [] = if j = k then de.getD k [] ++ [x] else de.getD k [] := by
  unfold addP
  by_cases e : j = k
  · subst e; rw [getD_set_eq hj, if_pos rfl]
  · rw [getD_set_ne e, if_neg e]
theorem snoc_get {α : Type} (l : List α) (x d : α) (k : Nat) : (l ++ [x]).getD k d = if k < l.length then l.getD k d else if k = l.length then x else d := by
  rw [getD_append]
  split
  · rfl
  · split
    · rename_i h1 h2; rw [h2, Nat.sub_self]; rfl
    · rename_i h1 h2
      have h3 : [x].length ≤ k - l.length := by rw [List.length_singleton]; omega
      exact getD_out h3 d
theorem SI.put {n : Nat} {t : List (List Bool)} (hs : Sq n t) (hn : n ≤ 8) {P : List (Nat × Nat)} (hP : ∀ x ∈ P, x.1 < n ∧ x.2 < n) {i : Nat} {cl : List (List Nat)} {de : List (List (Nat × Nat))} (h : SI n t P i cl de) {x : Nat × Nat} (hx : P[i]? = some x) {j : Nat} (hj : j < cl.length)
    (hb : badC (cl.getD j []) x.2 x.1 = false) : SI n t P (i + 1) (cl.set j (cputC (cl.getD j []) x.2 x.1)) (addP de j x) := by
  have hjd : j < de.length := by rw [← h.len]; exact hj
  have hxP := List.mem_of_getElem? hx
  have hxr := hP x hxP
  have hlen : (addP de j x).length = de.length := by simp [addP]
  refine ⟨by rw [hlen]; simpa using h.len, fun k hk => ?_, fun k hk => ?_, fun y hy => ?_, by rw [hlen]; have := h.le; omega, fun k => ?_, fun k y hy => ?_⟩
  · rw [hlen] at hk
    rw [addP_get hjd]
    by_cases e : j = k
    · subst e; rw [if_pos rfl, getD_set_eq hj]
      exact (h.ci j hk).snoc hs hn hxr.1 hxr.2 hb
    · rw [if_neg e, getD_set_ne e]; exact h.ci k hk
  · rw [hlen] at hk
    rw [addP_get hjd]
    split
    · simp
    · exact h.ne k hk
  · rw [List.take_add_one, hx] at hy
    rcases List.mem_append.1 hy with hy | hy
    · obtain ⟨k, hk, hm⟩ := h.all y hy
      refine ⟨k, by rw [hlen]; exact hk, ?_⟩
      rw [addP_get hjd]; split
      · exact List.mem_append_left _ hm
      · exact hm
    · obtain rfl : y = x := by simpa using hy
      exact ⟨j, by rw [hlen]; exact hjd, by rw [addP_get hjd, if_pos rfl]; simp⟩
  · rw [addP_get hjd]
    have := h.rows k
    split
    · rw [List.length_append, List.length_singleton]; omega
    · omega
  · rw [addP_get hjd] at hy
    split at hy
    · rcases List.mem_append.1 hy with hy | hy
      · exact h.from_ k y hy
      · rw [List.mem_singleton.1 hy]; exact hxP
    · exact h.from_ k y hy
/-- A pair that the order does not have can be put into a new class. -/
theorem newC_ci {n : Nat} {t : List (List Bool)} (hs : Sq n t) (hp : IsPo n t) (hn : n ≤ 8) {x : Nat × Nat} (h1 : x.1 < n) (h2 : x.2 < n) (hi : leT t x.1 x.2 = false) : badC (startT n t) x.2 x.1 = false ∧ CI n t [x] (newC (startT n t) x) := by
  have hst := CI.start hs hp hn
  have hb : badC (startT n t) x.2 x.1 = false := by
    unfold badC
    rw [hst.rel x.1 x.2 (by omega) (by omega), decide_eq_true h1, decide_eq_true h2]
    show (decide (x.2 = x.1) || (true && true && atT (warsh n t) x.1 x.2)) = false
    rw [hp.warsh hs]
    unfold leT at hi
    rw [Bool.or_eq_false_iff] at hi ⊢
    exact ⟨by simpa [eq_comm] using hi.1, by simpa using hi.2⟩
  refine ⟨hb, ?_⟩
  unfold newC
  rw [hb]
  exact hst.snoc hs hn h1 h2 hb
theorem SI.grow {n : Nat} {t : List (List Bool)} (hs : Sq n t) (hp : IsPo n t) (hn : n ≤ 8) {P : List (Nat × Nat)} (hP : ∀ x ∈ P, x.1 < n ∧ x.2 < n ∧ leT t x.1 x.2 = false) {i : Nat} {cl : List (List Nat)} {de : List (List (Nat × Nat))} (h : SI n t P i cl de) {x : Nat × Nat} (hx : P[i]? = some x) :
    SI n t P (i + 1) (cl ++ [newC (startT n t) x]) (de ++ [[x]]) := by
  have hxP := List.mem_of_getElem? hx
  obtain ⟨h1, h2, h3⟩ := hP x hxP
  have hnew := (newC_ci hs hp hn h1 h2 h3).2
  have hlen : (de ++ [[x]]).length = de.length + 1 := by simp
  refine ⟨by simp [h.len], fun k hk => ?_, fun k hk => ?_, fun y hy => ?_, by rw [hlen]; have := h.le; omega, fun k => ?_, fun k y hy => ?_⟩
  · rw [hlen] at hk
    rw [snoc_get, snoc_get, h.len]
    by_cases e : k < de.length
    · rw [if_pos e, if_pos e]; exact h.ci k e
    · rw [if_neg e, if_neg e, if_pos (by omega), if_pos (by omega)]; exact hnew
  · rw [hlen] at hk
    rw [snoc_get]
    by_cases e : k < de.length
    · rw [if_pos e]; exact h.ne k e
    · rw [if_neg e, if_pos (by omega)]; simp
  · rw [List.take_add_one, hx] at hy
    rcases List.mem_append.1 hy with hy | hy
    · obtain ⟨k, hk, hm⟩ := h.all y hy
      exact ⟨k, by rw [hlen]; omega, by rw [snoc_get, if_pos hk]; exact hm⟩
    · obtain rfl : y = x := by simpa using hy
      exact ⟨de.length, by rw [hlen]; omega, by rw [snoc_get, if_neg (by omega), if_pos rfl]; simp⟩
  · rw [snoc_get]
    have := h.rows k
    split
    · omega
    · split
      · simp
      · simp
  · rw [snoc_get] at hy
    split at hy
    · exact h.from_ k y hy
    · split at hy
      · rw [List.mem_singleton.1 hy]; exact hxP
      · simp at hy
end Go.AM

/- What the search finds: classes that can be reversed, as few as possible. -/
namespace Go.AM
theorem crB_inc {n : Nat} {t : List (List Bool)} {x y : Nat} (h : crB n t x y = true) : x ≠ y ∧ atT t x y = false ∧ atT t y x = false := by
  unfold crB at h
  simp only [Bool.and_eq_true, Bool.not_eq_true', Bool.or_eq_false_iff, decide_eq_false_iff_not] at h
  exact ⟨h.1.1.1, h.1.1.2, h.1.2⟩
theorem critT_inc {n : Nat} {t : List (List Bool)} {x : Nat × Nat} (h : x ∈ critT n t) : x.1 < n ∧ x.2 < n ∧ leT t x.1 x.2 = false := by
  have h1 := crA_mem.1 h
  have h2 := crB_inc h1.2.2
  refine ⟨h1.1, h1.2.1, ?_⟩
  unfold leT
  rw [decide_eq_false h2.1, h2.2.1]; rfl
theorem crit_si {n : Nat} {t : List (List Bool)} (hs : Sq n t) (hp : IsPo n t) (hn : n ≤ 8) {m : Nat} {r : Dl} (h : dealP m (startT n t) (critT n t) [] [] = some r) : SI n t (critT n t) (critT n t).length r.1 r.2 :=
  dealP_keep (fun i cl de => SI n t (critT n t) i cl de) (critT n t)
    (fun i x cl de j hx hI hj hb => hI.put hs hn (fun y hy => ⟨(critT_inc hy).1, (critT_inc hy).2.1⟩) hx hj hb)
    (fun i x cl de hx hI _ => hI.grow hs hp hn (fun y hy => critT_inc hy) hx)
    (critT n t) 0 [] [] r (Nat.zero_le _) rfl (SI.nil n t _) h
theorem mostF_ex {st : List Nat} {P : List (Nat × Nat)} : ∀ (f m : Nat), P.length < f + m → 0 < f → ∃ m', m ≤ m' ∧ dealP m' st P [] [] = some (mostF st P f m) ∧ ∀ k, m ≤ k → k < m' → dealP k st P [] [] = none
  | 0, m, _, h0 => by omega
  | f + 1, m, h, _ => by
    cases hr : dealP m st P [] [] with
    | some r => exact ⟨m, Nat.le_refl _, by rw [hr, mostF_some hr], fun k h1 h2 => by omega⟩
    | none =>
      have hm := dealP_none hr
      obtain ⟨m', h1, h2, h3⟩ := mostF_ex (st := st) (P := P) f (m + 1) (by omega) (by omega)
      refine ⟨m', by omega, by rw [mostF_none hr]; exact h2, fun k hk1 hk2 => ?_⟩
      rcases Nat.lt_or_ge m k with h4 | h4
      · exact h3 k h4 hk2
      · obtain rfl : k = m := by omega
        exact hr
theorem deals_ex (n : Nat) (t : List (List Bool)) : ∃ m, 1 ≤ m ∧ dealP m (startT n t) (critT n t) [] [] = some (dealsT n t) ∧ ∀ k, 1 ≤ k → k < m → dealP k (startT n t) (critT n t) [] [] = none :=
  mostF_ex _ 1 (by omega) (by omega)
theorem dealt_si {n : Nat} {t : List (List Bool)} (hs : Sq n t) (hp : IsPo n t) (hn : n ≤ 8) : SI n t (critT n t) (critT n t).length (dealsT n t).1 (dealsT n t).2 := by
  obtain ⟨m, _, h, _⟩ := deals_ex n t
  exact crit_si hs hp hn h
theorem mem_get {α : Type} {l : List α} {x : α} (h : x ∈ l) (d : α) : ∃ k, k < l.length ∧ l.getD k d = x := by
  obtain ⟨k, hk, rfl⟩ := List.mem_iff_getElem.1 h
  exact ⟨k, hk, by simp [List.getD_eq_getElem?_getD, hk]⟩
theorem dealt_ok {n : Nat} {t : List (List Bool)} (hs : Sq n t) (hp : IsPo n t) (hn : n ≤ 8) : DealtOk n t := by
  have h := dealt_si hs hp hn
  have hc := critT_le t hn
  unfold dealtT at *
  constructor
  · have := h.le
    unfold dealtT; split
    · simp
    · omega
  · intro q hq
    unfold dealtT at hq
    split at hq
    · obtain rfl := List.mem_singleton.1 hq
      exact ⟨by simp, by simp, by exact hp.acyc hs⟩
    · obtain ⟨k, hk, rfl⟩ := mem_get hq []
      have h1 := h.ci k hk
      exact ⟨by have := h.rows k; omega, h1.rng, h1.acy⟩
/-- Each class is of the critical pairs, and each critical pair lies in a class. -/
theorem dealt_all {n : Nat} {t : List (List Bool)} (hs : Sq n t) (hp : IsPo n t) (hn : n ≤ 8) {x : Nat × Nat} (hx : x ∈ critT n t) : ∃ q ∈ dealtT n t, x ∈ q := by
  have h := dealt_si hs hp hn
  obtain ⟨k, hk, hm⟩ := h.all x (by rw [List.take_length]; exact hx)
  have hne : (dealsT n t).2 ≠ [] := fun e => by rw [e] at hk; simp at hk
  refine ⟨(dealsT n t).2.getD k [], ?_, hm⟩
  unfold dealtT; rw [if_neg hne]
  exact mem_getD hk _
/-! ### The reference's search. -/
/-- Few classes: what the search finds with room for more it finds with just as many. -/
theorem dealK_isSome {rec : List (List Nat) → List (List (Nat × Nat)) → Option Dl} {x : Nat × Nat} {cl : List (List Nat)} {de : List (List (Nat × Nat))} : ∀ (m k j : Nat), k ≤ j → j < k + m → badC (cl.getD j []) x.2 x.1 = false →
    (rec (cl.set j (cputC (cl.getD j []) x.2 x.1)) (addP de j x)).isSome = true → (dealK rec x cl de m k).isSome = true
  | 0, _, _, h1, h2, _, _ => by omega
  | m + 1, k, j, h1, h2, h3, h4 => by
    rw [dealK]
    by_cases e : k = j
    · subst e
      rw [if_neg (by rw [h3]; decide)]
      split
      · rfl
      · rename_i hr; rw [hr] at h4; cases h4
    · have := dealK_isSome (rec := rec) (x := x) (cl := cl) (de := de) m (k + 1) j (by omega) (by omega) h3 h4
      split
      · exact this
      · split
        · rfl
        · exact this
theorem dealP_mono {m : Nat} {st : List Nat} : ∀ (ps : List (Nat × Nat)) (cl : List (List Nat)) (de : List (List (Nat × Nat))) (r : Dl), dealP m st ps cl de = some r → cl.length ≤ r.1.length
  | [], cl, de, r, h => by rw [dealP] at h; obtain rfl := Option.some.inj h; exact Nat.le_refl _
  | x :: ps, cl, de, r, h => by
    rw [dealP] at h
    split at h
    · rename_i r' hr'
      obtain rfl := Option.some.inj h
      obtain ⟨j, _, _, _, hr⟩ := dealK_some _ _ hr'
      have := dealP_mono ps _ _ _ hr
      simpa using this
    · split at h
      · cases h
      · have := dealP_mono ps _ _ _ h
        simp at this; omega
theorem dealP_few {m m' : Nat} {st : List Nat} : ∀ (ps : List (Nat × Nat)) (cl : List (List Nat)) (de : List (List (Nat × Nat))) (r : Dl), dealP m st ps cl de = some r → r.1.length ≤ m' → (dealP m' st ps cl de).isSome = true
  | [], _, _, _, _, _ => rfl
  | x :: ps, cl, de, r, h, hm => by
    have hmo := dealP_mono (x :: ps) cl de r h
    rw [dealP] at h
    rw [dealP]
    split
    · rfl
    · rename_i hn
      split at h
      · rename_i r' hr'
        obtain rfl := Option.some.inj h
        obtain ⟨j, h1, h2, hb, hr⟩ := dealK_some _ _ hr'
        have := dealK_isSome (rec := dealP m' st ps) cl.length 0 j h1 h2 hb (dealP_few (m' := m') ps _ _ _ hr hm)
        rw [hn] at this; cases this
      · split at h
        · cases h
        · have h5 := dealP_mono ps _ _ _ h
          rw [if_neg (by simp at h5; omega)]
          exact dealP_few ps _ _ _ h hm
theorem deals_len {n : Nat} {t : List (List Bool)} : ∃ m, (dealtT n t).length = m ∧ 1 ≤ m ∧ (dealP m (startT n t) (critT n t) [] []).isSome = true ∧ ∀ k, 1 ≤ k → k < m → dealP k (startT n t) (critT n t) [] [] = none := by
  obtain ⟨m, h1, h2, h3⟩ := deals_ex n t
  refine ⟨m, ?_, h1, by rw [h2]; rfl, h3⟩
  have hl := dealP_len h2
  have hle : (dealsT n t).1.length ≤ m := by
    have := dealP_keep (m := m) (st := startT n t) (fun _ cl _ => cl.length ≤ m) (critT n t) (fun i x cl de j _ h1 _ _ => by simpa using h1) (fun i x cl de _ h1 h2 => by simp; omega) (critT n t) 0 [] [] _ (Nat.zero_le _) rfl (Nat.zero_le _) h2
    exact this
  unfold dealtT
  split
  · rename_i he
    rw [he] at hl
    rcases Nat.lt_or_ge 1 m with h4 | h4
    · have h5 := h3 1 (Nat.le_refl _) h4
      have h6 := dealP_few (m' := 1) _ _ _ _ h2 (by rw [hl]; simp)
      rw [h5] at h6; cases h6
    · simp; omega
  · rename_i he
    have h0 : (dealsT n t).2.length ≠ 0 := fun e => he (List.length_eq_zero_iff.1 e)
    rcases Nat.lt_or_ge (dealsT n t).1.length m with h4 | h4
    · have h5 := h3 _ (by omega) h4
      have h6 := dealP_few (m' := (dealsT n t).1.length) _ _ _ _ h2 (Nat.le_refl _)
      rw [h5] at h6; cases h6
    · omega
end Go.AM

namespace Go.Proofs.D
open Go.AM Go
set_option maxRecDepth 100000
set_option maxHeartbeats 2000000
def longG (x : USet) : Bool := decide ((20 : Int) < x.W.length)
theorem great1_r (x : USet) (hx : x.W.length ≤ 9223372036854775807) : Reads Tryd.prog 39 false [.agg (rowV x)] (.bool (longG x)) := by
 unfold rowV
 refine Reads.body (rs := [.tmp 2]) Tryd.func39 rfl Tryd.ntmps39 rfl (by simp) ?_
 generalize hQr : retQ _ _ _ = Qr
 -- block 1
 refine AW.sg [1] [1] trivial ?_
 refine AW.sg [2] [] trivial ?_
 -- ret 1
 rw [← hQr]
 refine AW.rt trivial ?_
 exact Wk.of_eq (by unfold longG; simp)
theorem ixgreat_r (rs : List USet) (hl : longR rs) : Reads Tryd.prog 66 false [.rsl 2 (rs.map rowV), .fn 39 []] (.int .i64 (ixf longG rs)) := by
 have hbp := fun x hxm => great1_r x (hl.2 x hxm)
 have hl1 := hl.1
 refine Reads.body (rs := [.tmp 4]) Tryd.func66 rfl Tryd.ntmps66 rfl (by simp) ?_
 generalize hQr : retQ _ _ _ = Qr
 -- block 2
 refine AW.sg [0,1] [] trivial ?_
 refine AW.seq fun K1 hK1 => ?_
 refine AW.sg [0,1,7,8] [] trivial ?_
 refine AW.block ?_
 refine AW.loopE (fun mm ee ss kk => ∃ (j : Nat), rs.length - j = mm ∧ ee = [(0, .rsl 2 (rs.map rowV)), (1, .fn 39 []), (7, .int .i64 rs.length), (8, .int .i64 (j : Nat))] ∧ ss = [] ∧ (j ≤ rs.length ∧ (rs.take j).any longG = false)) ?_ ?_
 -- init 1
 ·exact ⟨_, 0, rfl, eD, eD, eT⟩
 rintro mm ee ss kk ⟨j, rfl, rfl, rfl, hI⟩
 generalize hQl1 : thenQ _ _ = Ql1
 obtain ⟨hj, hall⟩ := hI
 refine AW.sg [0,1,7,8,9] [] trivial ?_
 refine AW.seq fun K2 hK2 => ?_
 refine AW.cn ?_ ?_
 ·intro hb
  obtain ⟨x, hx⟩ := getI (l := rs) (j := j) (by omega)
  have hgx := getV (f := rowV) hx
  have hats := any_take_succ (p := longG) hx
  have hbx := hbp x (List.mem_of_getElem? hx)
  refine AW.skip ?_
  refine hK2 _ _ _ ?_; clear hK2
  refine AW.seq fun K3 hK3 => ?_
  refine AW.block ?_
  refine AW.sg [0,1,5,7,8] [] trivial ?_
  refine AW.so 0 (fun ii => if ii = 5 then some (.reads false (.bool (longG x))) else none) [0,1,5,7,8,16] [] (e2 @hgx @rowV.eq_1) ?_
  repeat with_reducible refine cj ?_ ?_
  all_goals try first | (exact hbx) | omega | exact ent (by kernel_rfl)
  refine AW.cn ?_ ?_
  ·intro hb
   refine AW.sg [4] [] trivial ?_
   -- ret 1
   rw [← hQl1, ← hQr]
   refine AW.rt trivial ?_
   exact Wk.of_eq (by rw [ixf_at hx hb hall])
  ·intro hb
   refine AW.skip ?_
   refine hK3 _ _ _ ?_; clear hK3
   refine AW.rg [0,1,7,8] [] trivial ?_
   -- again 1
   rw [← hQl1]; change Exists _
   exact ⟨_, eO, j + 1, rfl, eD, eD, (⟨by omega, by rw [hats, hall, hb]; rfl⟩)⟩
 ·intro hb
  -- exit 0
  refine AW.kx [] [] ?_
  rw [← hQl1]
  refine hK1 _ _ _ ?_; clear hK1
  refine AW.sg [4] [] trivial ?_
  -- ret 2
  rw [← hQr]
  refine AW.rt trivial ?_
  exact Wk.of_eq (by rw [List.take_of_length_le (by omega)] at hall; rw [ixf_none hall])
theorem ctgreat_r (rs : List USet) (hl : longR rs) : Reads Tryd.prog 38 false [.rsl 2 (rs.map rowV), .fn 39 []] (.bool (rs.any longG)) := by
 have h := ixgreat_r rs hl
 have hge := ixf_ge longG rs
 refine Reads.body (rs := [.tmp 4]) Tryd.func38 rfl Tryd.ntmps38 rfl (by simp) ?_
 generalize hQr : retQ _ _ _ = Qr
 -- block 3
 refine AW.sg [0,1] [] trivial ?_
 refine AW.so 0 (fun ii => if ii = 2 then some (.reads false (.int .i64 (ixf longG rs))) else none) [4] [] trivial ?_
 repeat with_reducible refine cj ?_ ?_
 all_goals try first | (exact h) | omega | exact ent (by kernel_rfl)
 -- ret 1
 rw [← hQr]
 refine AW.rt trivial ?_
 exact Wk.of_eq (by rw [hge])
def greatB (rs : List USet) : Bool := decide ((20 : Int) < rs.length) || rs.any longG
theorem great_r (rs : List USet) (hl : longR rs) : Reads Tryd.prog 11 false [relV rs] (.bool (greatB rs)) := by
 have h := Reads.flat (ctgreat_r rs hl) rfl
 have hl1 := hl.1
 unfold relV
 refine Reads.body (rs := [.tmp 2]) Tryd.func11 rfl Tryd.ntmps11 rfl (by simp) ?_
 generalize hQr : retQ _ _ _ = Qr
 -- block 4
 refine AW.sg [1] [1] trivial ?_
 refine AW.so 0 (fun ii => if ii = 7 then some (.reads true (.bool (rs.any longG))) else none) [2] [] trivial ?_
 repeat with_reducible refine cj ?_ ?_
 all_goals try first | ((intro hh; exact ⟨hh, h⟩)) | (intros; (repeat' apply And.intro) <;> first | assumption | ((intro hh; exact ⟨hh, h⟩))) | omega | exact ent (by kernel_rfl) | (intro hgd; exact absurd hgd (by decide)) | rfl | exact gD | (intro _hgd; simp_all [go_sem]; done)
 -- ret 1
 rw [← hQr]
 refine AW.rt trivial ?_
 exact Wk.of_eq (by unfold greatB; rfl)
theorem great_f {rs : List USet} (h : greatB rs = false) : rs.length ≤ 20 ∧ ∀ x ∈ rs, x.W.length ≤ 20 := by
 unfold greatB at h
 rw [Bool.or_eq_false_iff] at h
 refine ⟨by have := of_decide_eq_false h.1; omega, fun x hx => ?_⟩
 have := List.any_eq_false.1 h.2 x hx
 unfold longG at this
 simp only [decide_eq_true_eq] at this
 omega
theorem crit_g (n : Nat) (t : List (List Bool)) (hs : Sq n t) (hn : n ≤ 512) (hv : poB n t = true) : Reads Tryd.prog 12 false [relB t] (.tup [.rsl 2 (prs (critT n t)), .int .i64 ((0 : Nat) : Int)]) := by
 have h := pvalid_g n t hs hn
 rw [hv] at h
 have hc := Reads.old (critical_r n t hs hn)
 unfold relB at *
 refine Reads.body (rs := [.tmp 2, .tmp 3]) Tryd.func12 rfl Tryd.ntmps12 rfl (by simp) ?_
 generalize hQr : retQ _ _ _ = Qr
 -- block 5
 refine AW.sg [1] [1] trivial ?_
 refine AW.seq fun K1 hK1 => ?_
 refine AW.so 0 (fun ii => if ii = 1 then some (.reads false (.bool true)) else none) [1,6] [1] trivial ?_
 refine AW.cn ?_ ?_
 ·intro hb
  simp at hb
 ·intro hb
  refine AW.skip ?_
  refine hK1 _ _ _ ?_; clear hK1
  refine AW.so 0 (fun ii => if ii = 1 then some (.reads false (.rsl 2 (prs (critT n t)))) else none) [2,3] [] trivial ?_
  -- ret 2
  rw [← hQr]
  refine AW.rt trivial ?_
  exact Wk.of_eq rfl
theorem dim_g (n : Nat) (t : List (List Bool)) (hs : Sq n t) (hn : n ≤ 8) (hv : poB n t = true) : Reads Tryd.prog 23 false [relB t] (.tup [.int .i64 (dealtT n t).length, .int .i64 ((0 : Nat) : Int)]) := by
 have hd := dealt_ok hs ((poB_iff hs).1 hv) hn
 have hr := realizer_g n t hs hn hv hd
 have hl : (lisR (realT n t)).length = (dealtT n t).length := by rw [lisR_len, realT_len]
 unfold relB at *
 refine Reads.body (rs := [.tmp 2, .tmp 3]) Tryd.func23 rfl Tryd.ntmps23 rfl (by simp) ?_
 generalize hQr : retQ _ _ _ = Qr
 -- block 10
 refine AW.sg [1] [1] (@hl) ?_
 refine AW.so 0 (fun ii => if ii = 1 then some (.reads false (.tup [.rsl 1 (lisR (realT n t)), .int .i64 ((0 : Nat) : Int)])) else none) [4,5] [] (@hl) ?_
 refine AW.seq fun K1 hK1 => ?_
 refine AW.sg [4,5,12] [] (@hl) ?_
 repeat with_reducible refine cj ?_ ?_
 all_goals try first | (exact hr) | omega
 refine AW.cn ?_ ?_
 ·intro hb
  exfalso; simp at hb
 ·intro hb
  refine AW.skip ?_
  refine hK1 _ _ _ ?_; clear hK1
  refine AW.sg [2,3] [] (@hl) ?_
  -- ret 2
  rw [← hQr]
  refine AW.rt (@hl) ?_
  exact Wk.of_eq rfl
end Go.Proofs.D

/- The order that lists have in common. -/
namespace Go.AM
def plI (n : Nat) (l : List Int) : Nat → List Int
  | 0 => List.replicate n 0
  | m + 1 => (plI n l m).set (l.getD m 0).toNat ((m : Int) + 1)
theorem plI_len (n : Nat) (l : List Int) : ∀ m, (plI n l m).length = n
  | 0 => by simp [plI]
  | m + 1 => by simp [plI, plI_len n l m]
theorem getD_setI (b : List Int) (i j : Nat) (x : Int) : (b.set i x).getD j 0 = if i = j ∧ i < b.length then x else b.getD j 0 := by
  rw [List.getD_eq_getElem?_getD, List.getElem?_set]
  by_cases h : i = j
  · subst h
    by_cases h2 : i < b.length
    · simp [h2]
    · simp [h2, List.getD_eq_getElem?_getD]
  · simp [h, List.getD_eq_getElem?_getD]
theorem plI_at {n : Nat} {l : List Int} (hE : IsEach n l) : ∀ m, m ≤ n → ∀ k, k < m → (plI n l m).getD (l.getD k 0).toNat 0 = (k : Int) + 1
  | 0, _, k, hk => by omega
  | m + 1, hm, k, hk => by
    have hr := hE.rng m (by omega)
    have hrk := hE.rng k (by omega)
    show ((plI n l m).set (l.getD m 0).toNat ((m : Int) + 1)).getD (l.getD k 0).toNat 0 = _
    rw [getD_setI, plI_len]
    by_cases e : k = m
    · subst e; rw [if_pos ⟨rfl, by omega⟩]
    · have hne := hE.inj (a := k) (b := m) (by omega) (by omega)
      rw [if_neg (fun h => hne (by omega))]
      exact plI_at hE m (by omega) k (by omega)
/-- The place of i in l, as the reference finds it. -/
def refA (l : List Int) (i : Int) : Nat → Int
  | 0 => 0
  | m + 1 => if l.getD m 0 = i then (m : Nat) else refA l i m
def bfA (n : Nat) (i j : Nat) (l : List Int) : Bool := decide (refA l i n < refA l j n)
theorem refA_at {n : Nat} {l : List Int} (hE : IsEach n l) {k : Nat} {i : Int} (hk : l.getD k 0 = i) : ∀ m, m ≤ n → k < m → refA l i m = (k : Nat)
  | 0, _, h => by omega
  | m + 1, hm, h => by
    unfold refA
    by_cases e : k = m
    · subst e; rw [if_pos hk]
    · have hne := hE.inj (a := k) (b := m) (by omega) (by omega)
      rw [if_neg (fun h => hne (by rw [hk, h]))]
      exact refA_at hE hk m (by omega) (by omega)
theorem atv_ref {n : Nat} {l : List Int} (hE : IsEach n l) {i : Nat} (hi : i < n) : (plI n l n).getD i 0 = refA l (i : Nat) n + 1 ∧ ∃ k : Nat, k < n ∧ l.getD k 0 = (i : Nat) ∧ refA l (i : Nat) n = (k : Nat) := by
  obtain ⟨k, hk, he⟩ := hE.has hi
  have h1 := plI_at hE n (Nat.le_refl _) k hk
  rw [he, Int.toNat_natCast] at h1
  have h2 := refA_at hE he n (Nat.le_refl _) hk
  exact ⟨by rw [h1, h2], k, hk, he, h2⟩
end Go.AM

/- The meet of all extensions is the order. -/
namespace Go.AM
/-- Of an extension: what is less stands before. -/
theorem ext_bf {n : Nat} {t : List (List Bool)} (hp : IsPo n t) {l : List Int} (hx : extB n (belL n t) l = true) {i j : Nat} (hi : i < n) (hj : j < n) (ha : atT t i j = true) : bfA n i j l = true := by
  obtain ⟨h1, h2⟩ := (ext_iff hp).1 hx
  have hE := eachB_iff.1 h1
  obtain ⟨_, ki, b1, c1, d1⟩ := atv_ref hE hi
  obtain ⟨_, kj, b2, c2, d2⟩ := atv_ref hE hj
  unfold bfA
  rw [d1, d2, decide_eq_true_eq]
  rcases Nat.lt_trichotomy ki kj with e | e | e
  · omega
  · exfalso
    subst e
    have : i = j := by omega
    subst this
    rw [hp.irr i hi] at ha; cases ha
  · exfalso
    have h3 := h2 ki b1 kj e
    unfold noLess at h3
    rw [c1, c2, Int.toNat_natCast, Int.toNat_natCast, ha] at h3
    cases h3
structure SzI (n : Nat) (bel : List (List Int)) (C : Nat) (A : List (List Int)) (L : List Int) : Prop where
  pos : 1 ≤ A.length
  le : A.length ≤ C
  ok : ∀ j, j < A.length → IsExt n bel (A.getD j []) ∧ rankC bel n (A.getD j []) n = j
  last : A.getD (A.length - 1) [] = L
theorem SzI.snoc {n : Nat} {bel : List (List Int)} {C : Nat} {A : List (List Int)} {L r : List Int} (h : SzI n bel C A L) (hC : A.length < C) (hr : IsExt n bel r) (hk : rankC bel n r n = A.length) : SzI n bel C (A ++ [r]) r := by
  refine ⟨by simp, by simp; omega, fun j hj => ?_, by simp [List.getD_eq_getElem?_getD]⟩
  simp only [List.length_append, List.length_cons, List.length_nil] at hj
  by_cases e : j < A.length
  · rw [List.getD_eq_getElem?_getD, List.getElem?_append_left e, ← List.getD_eq_getElem?_getD]; exact h.ok j e
  · have e2 : j = A.length := by omega
    subst e2
    rw [List.getD_eq_getElem?_getD, List.getElem?_append_right (Nat.le_refl _)]
    simp
    exact ⟨hr, hk⟩
end Go.AM

/- Realizers: the program's test and the reference's are one. -/
namespace Go.AM
/-- The places of a list's numbers: of the program, and of the reference. -/
def plZ (n : Nat) (l : List Int) : Nat → List Int
  | 0 => List.replicate n 0
  | m + 1 => (plZ n l m).set (l.getD m 0).toNat (m : Nat)
theorem plZ_len (n : Nat) (l : List Int) : ∀ m, (plZ n l m).length = n
  | 0 => by simp [plZ]
  | m + 1 => by simp [plZ, plZ_len n l m]
/-- Two elements have different places. -/
theorem refA_ne {n : Nat} {l : List Int} (hE : IsEach n l) {i j : Nat} (hi : i < n) (hj : j < n) (h : i ≠ j) : refA l (i : Nat) n ≠ refA l (j : Nat) n := by
  obtain ⟨k, hk, he⟩ := hE.has hi
  obtain ⟨m, hm, hf⟩ := hE.has hj
  rw [refA_at hE he n (Nat.le_refl _) hk, refA_at hE hf n (Nat.le_refl _) hm]
  intro e
  obtain rfl : k = m := by omega
  rw [he] at hf; omega
theorem bfA_or {n : Nat} {l : List Int} (hE : IsEach n l) {i j : Nat} (hi : i < n) (hj : j < n) (h : i ≠ j) : bfA n j i l = !bfA n i j l := by
  have := refA_ne hE hi hj h
  unfold bfA
  rw [← decide_not]
  exact decide_eq_decide.2 (by omega)
theorem bfA_trans {n : Nat} {l : List Int} {i j k : Nat} (h1 : bfA n i j l = true) (h2 : bfA n j k l = true) : bfA n i k l = true := by
  unfold bfA at *
  simp only [decide_eq_true_eq] at *
  omega
theorem bfA_irr {n : Nat} {l : List Int} {i : Nat} : bfA n i i l = false := by
  unfold bfA; exact decide_eq_false (by omega)
/-- Extensions are lists of all elements in which what is less comes before. -/
theorem extB_bf {n : Nat} {t : List (List Bool)} (hp : IsPo n t) {l : List Int} : extB n (belL n t) l = true ↔ IsEach n l ∧ ∀ i j, i < n → j < n → atT t i j = true → bfA n i j l = true := by
  constructor
  · intro h
    exact ⟨eachB_iff.1 ((ext_iff hp).1 h).1, fun i j hi hj ha => ext_bf hp h hi hj ha⟩
  · rintro ⟨hE, h⟩
    refine (ext_iff hp).2 ⟨eachB_iff.2 hE, fun j hj i hi => ?_⟩
    unfold noLess
    have r1 := hE.rng j hj
    have r2 := hE.rng i (by omega)
    cases e : atT t (l.getD j 0).toNat (l.getD i 0).toNat with
    | false => rfl
    | true =>
      have := h _ _ (by omega) (by omega) e
      unfold bfA at this
      rw [Int.toNat_of_nonneg r1.1, Int.toNat_of_nonneg r2.1, refA_at hE rfl n (Nat.le_refl _) hj, refA_at hE rfl n (Nat.le_refl _) (show i < n by omega)] at this
      simp only [decide_eq_true_eq] at this
      omega
/-- The program's test. -/
def geZ (i j : Nat) (p : List Int) : Bool := decide (p.getD j 0 ≤ p.getD i 0)
def prZ (n : Nat) (t : List (List Bool)) (ls : List (List Int)) (i j : Nat) : Bool := (!(ls.map fun l => plZ n l n).any (geZ i j)) == atT t i j
def rlzB (n : Nat) (t : List (List Bool)) (ls : List (List Int)) : Bool := !decide (ls.length = 0) && (ls.all (extB n (belL n t)) && (List.range n).all fun i => (List.range n).all fun j => prZ n t ls i j)
/-- What a realizer is. -/
structure IsRlz (n : Nat) (t : List (List Bool)) (ls : List (List Int)) : Prop where
  ne : ls ≠ []
  ext : ∀ l ∈ ls, extB n (belL n t) l = true
  rev : ∀ i j, i < n → j < n → i ≠ j → atT t i j = false → ∃ l ∈ ls, bfA n j i l = true
end Go.AM

namespace Go.Proofs.D
open Go.AM Go
set_option maxRecDepth 100000
set_option maxHeartbeats 4000000
theorem gez_r (i j : Nat) (x : List Int) (hi : i < x.length) (hj : j < x.length) : Reads Tryd.prog 43 false [.rsl 1 (ints x), .rptr [.int .i64 i], .rptr [.int .i64 j]] (.bool (geZ i j x)) := by
 have h1 := ints_getD (l := x) (i := i) hi
 have h2 := ints_getD (l := x) (i := j) hj
 refine Reads.body (rs := [.tmp 4]) Tryd.func43 rfl Tryd.ntmps43 rfl (by simp) ?_
 generalize hQr : retQ _ _ _ = Qr
 -- block 1
 refine AW.sg [0,1,2] [] (e4 @ints_len @h1 @h2 @Int.toNat_natCast) ?_
 refine AW.sd mixed 0 (fun _ => none) [4] [] (e4 @ints_len @h1 @h2 @Int.toNat_natCast) ?_
 -- ret 1
 rw [← hQr]
 refine AW.rt (e4 @ints_len @h1 @h2 @Int.toNat_natCast) ?_
 exact Wk.refl _
theorem ixgez_r (a b n : Nat) (ls : List (List Int)) (hl : ls.length ≤ 9223372036854775807) (hA : a < n) (hC : b < n) (hx : ∀ x ∈ ls, x.length = n) : Reads Tryd.prog 63 false [.rsl 1 (lisR ls), .fn 43 [.rptr [.int .i64 a], .rptr [.int .i64 b]]] (.int .i64 (ixf (geZ a b) ls)) := by
 have hx0 := hx
 refine Reads.body (rs := [.tmp 4]) Tryd.func63 rfl Tryd.ntmps63 rfl (by simp) ?_
 generalize hQr : retQ _ _ _ = Qr
 -- block 2
 refine AW.sg [0,1] [] (@lisR_len) ?_
 refine AW.seq fun K1 hK1 => ?_
 refine AW.sg [0,1,7,8] [] (@lisR_len) ?_
 refine AW.block ?_
 refine AW.loopE (fun mm ee ss kk => ∃ (j : Nat), ls.length - j = mm ∧ ee = [(0, .rsl 1 (lisR ls)), (1, .fn 43 [.rptr [.int .i64 a], .rptr [.int .i64 b]]), (7, .int .i64 ls.length), (8, .int .i64 (j : Nat))] ∧ ss = [] ∧ (j ≤ ls.length ∧ (ls.take j).any (geZ a b) = false)) ?_ ?_
 -- init 1
 ·exact ⟨_, 0, rfl, eD, eD, eT⟩
 rintro mm ee ss kk ⟨j, rfl, rfl, rfl, hI⟩
 generalize hQl1 : thenQ _ _ = Ql1
 obtain ⟨hj, hall⟩ := hI
 refine AW.sg [0,1,7,8,9] [] (@lisR_len) ?_
 refine AW.seq fun K2 hK2 => ?_
 refine AW.cn ?_ ?_
 ·intro hb
  obtain ⟨x, hx⟩ := getI (l := ls) (j := j) (by omega)
  have hgx : (lisR ls).getD j [] = [.rsl 1 (ints x)] := by simp [lisR, List.getD_eq_getElem?_getD, hx]
  have hats := any_take_succ (p := geZ a b) hx
  have hbx := gez_r a b x (by rw [hx0 x (List.mem_of_getElem? hx)]; exact hA) (by rw [hx0 x (List.mem_of_getElem? hx)]; exact hC)
  refine AW.skip ?_
  refine hK2 _ _ _ ?_; clear hK2
  refine AW.seq fun K3 hK3 => ?_
  refine AW.block ?_
  refine AW.sg [0,1,5,7,8] [] (@lisR_len) ?_
  refine AW.so 0 (fun ii => if ii = 5 then some (.reads false (.bool (geZ a b x))) else none) [0,1,5,7,8,16] [] (e2 @lisR_len @hgx) ?_
  repeat with_reducible refine cj ?_ ?_
  all_goals try first | (exact hbx) | omega | exact ent (by kernel_rfl)
  refine AW.cn ?_ ?_
  ·intro hb
   refine AW.sg [4] [] (@lisR_len) ?_
   -- ret 1
   rw [← hQl1, ← hQr]
   refine AW.rt (@lisR_len) ?_
   exact Wk.of_eq (by rw [ixf_at hx hb hall])
  ·intro hb
   refine AW.skip ?_
   refine hK3 _ _ _ ?_; clear hK3
   refine AW.rg [0,1,7,8] [] (@lisR_len) ?_
   -- again 1
   rw [← hQl1]; change Exists _
   exact ⟨_, eO, j + 1, rfl, eD, eD, (⟨by omega, by rw [hats, hall, hb]; rfl⟩)⟩
 ·intro hb
  -- exit 0
  refine AW.kx [] [] ?_
  rw [← hQl1]
  refine hK1 _ _ _ ?_; clear hK1
  refine AW.sg [4] [] (@lisR_len) ?_
  -- ret 2
  rw [← hQr]
  refine AW.rt (@lisR_len) ?_
  exact Wk.of_eq (by rw [List.take_of_length_le (by omega)] at hall; rw [ixf_none hall])
theorem ctgez_r (a b n : Nat) (ls : List (List Int)) (hl : ls.length ≤ 9223372036854775807) (hA : a < n) (hC : b < n) (hx : ∀ x ∈ ls, x.length = n) : Reads Tryd.prog 32 false [.rsl 1 (lisR ls), .fn 43 [.rptr [.int .i64 a], .rptr [.int .i64 b]]] (.bool (ls.any (geZ a b))) := by
 have h := ixgez_r a b n ls hl hA hC hx
 have hge := ixf_ge (geZ a b) ls
 refine Reads.body (rs := [.tmp 4]) Tryd.func32 rfl Tryd.ntmps32 rfl (by simp) ?_
 generalize hQr : retQ _ _ _ = Qr
 -- block 3
 refine AW.sg [0,1] [] trivial ?_
 refine AW.so 0 (fun ii => if ii = 2 then some (.reads false (.int .i64 (ixf (geZ a b) ls))) else none) [4] [] trivial ?_
 repeat with_reducible refine cj ?_ ?_
 all_goals try first | (exact h) | omega | exact ent (by kernel_rfl)
 -- ret 1
 rw [← hQr]
 refine AW.rt trivial ?_
 exact Wk.of_eq (by rw [hge])
/-- The places that are laid so far. -/
def plT (n : Nat) (ls : List (List Int)) (k : Nat) : List (List AV) := lisR ((ls.take k).map fun l => plZ n l n) ++ List.replicate (ls.length - k) [AV.nilsl]
theorem plT_len (n : Nat) (ls : List (List Int)) {k : Nat} (hk : k ≤ ls.length) : (plT n ls k).length = ls.length := by
 unfold plT; rw [List.length_append, lisR_len]; simp; omega
theorem plT_set (n : Nat) (ls : List (List Int)) {k : Nat} (hk : k < ls.length) {x : List Int} (hx : ls[k]? = some x) : (plT n ls k).set k [.rsl 1 (ints (plZ n x n))] = plT n ls (k + 1) := by
 unfold plT
 have hl : (lisR ((ls.take k).map fun l => plZ n l n)).length = k := by rw [lisR_len]; simp; omega
 rw [List.set_append_right _ _ (by omega), hl, Nat.sub_self, List.take_add_one, hx]
 obtain ⟨j, hj⟩ : ∃ j, ls.length - k = j + 1 := ⟨ls.length - k - 1, by omega⟩
 rw [hj, List.replicate_succ, List.set_cons_zero, show ls.length - (k + 1) = j by omega]
 simp [lisR]
theorem plT_get (n : Nat) (ls : List (List Int)) {k : Nat} (hk : k < ls.length) : (plT n ls k).getD k [] = [AV.nilsl] := by
 unfold plT
 have hl : (lisR ((ls.take k).map fun l => plZ n l n)).length = k := by rw [lisR_len]; simp; omega
 rw [Go.AM.getD_append, if_neg (by omega), hl, Nat.sub_self, List.getD_eq_getElem?_getD, List.getElem?_replicate, if_pos (by omega)]; rfl
theorem realizes_g (n : Nat) (t : List (List Bool)) (hs : Sq n t) (hn : n ≤ 512) (hv : poB n t = true) (ls : List (List Int)) (hl : ls.length ≤ 1000) (hle : ∀ x ∈ ls, x.length ≤ 9223372036854775807) : Reads Tryd.prog 13 false [relB t, .rsl 1 (lisR ls)] (.bool (rlzB n t ls)) := by
 have hp := (poB_iff hs).1 hv
 have h := pvalid_g n t hs hn
 rw [hv] at h
 have hisx := fun l hll => is_g n t hs hn l hll
 have htl := tabR_len t
 have hlen := hs.len
 have hml : (ls.map fun l => plZ n l n).length = ls.length := by simp
 have hme : ∀ x ∈ ls.map (fun l => plZ n l n), x.length = n := fun x hx => by obtain ⟨l, _, rfl⟩ := List.mem_map.1 hx; exact plZ_len n l n
 have hct := fun i j hi hj => Reads.flat (ctgez_r i j n (ls.map fun l => plZ n l n) (by rw [hml]; omega) hi hj hme) rfl
 have hrB : rlzB n t ls = (!decide (ls.length = 0) && (ls.all (extB n (belL n t)) && (List.range n).all fun i => (List.range n).all fun j => prZ n t ls i j)) := rfl
 have hz : List.replicate n [AV.int .i64 0] = ints (List.replicate n 0) := by simp [ints]
 unfold relB at *
 refine Reads.body (rs := [.tmp 4]) Tryd.func13 rfl Tryd.ntmps13 rfl (by simp) ?_
 generalize hQr : retQ _ _ _ = Qr
 -- block 5
 refine AW.sg [1,2] [2] (e3 @lisR_len @htl @hlen) ?_
 refine AW.seq fun K1 hK1 => ?_
 refine AW.so 0 (fun ii => if ii = 1 then some (.reads false (.bool true)) else none) [1,2,21] [2] (e3 @lisR_len @htl @hlen) ?_
 repeat with_reducible refine cj ?_ ?_
 all_goals try first | (exact h) | (intros; (repeat' apply And.intro) <;> first | assumption | (exact h)) | omega | exact ent (by kernel_rfl) | (intro hgd; exact absurd hgd (by decide)) | rfl | (simp only [go_sem, reduceIte, reduceCtorEq, zA, zM, zE, zL, zD, zS, zP, zB, zI, zR, lisR_len, htl, hlen]; done) | (intro _hgd; simp_all [go_sem]; done)
 refine AW.cn ?_ ?_
 ·intro hb
  refine AW.sg [4] [] (e3 @lisR_len @htl @hlen) ?_
  -- ret 1
  rw [← hQr]
  refine AW.rt (e3 @lisR_len @htl @hlen) ?_
  exact Wk.of_eq (by rw [hrB, decide_eq_true (by simpa using hb)]; rfl)
 ·intro hb
  have hne : ls.length ≠ 0 := by simpa using hb
  have hrB2 : rlzB n t ls = (ls.all (extB n (belL n t)) && (List.range n).all fun i => (List.range n).all fun j => prZ n t ls i j) := by rw [hrB, decide_eq_false hne]; rfl
  refine AW.skip ?_
  refine hK1 _ _ _ ?_; clear hK1
  refine AW.sg [1,2,5] [2] (e3 @lisR_len @htl @hlen) ?_
  refine AW.sg [1,2,5,6] [2,27] (e3 @lisR_len @htl @hlen) ?_
  refine AW.seq fun K2 hK2 => ?_
  refine AW.sg [2,5,6,28,29,30] [2,27] (e3 @lisR_len @htl @hlen) ?_
  refine AW.block ?_
  refine AW.loopE (fun mm ee ss kk => ∃ (k g2 v2 g v : Nat), ls.length - k = mm ∧ ee = [(2, .ptr ⟨2, g2, none⟩ 0 0), (5, .int .i64 n), (6, .sl ⟨27, g, none⟩ 0 ls.length none), (28, .rsl 1 (lisR ls)), (29, .int .i64 ls.length), (30, .int .i64 (k : Nat))] ∧ ss = [(2, some ⟨g2, v2, 1, [[.rsl 2 (tabR t)]]⟩), (27, some ⟨g, v, 1, plT n ls k⟩)] ∧ (k ≤ ls.length ∧ (ls.take k).all (extB n (belL n t)) = true)) ?_ ?_
  -- init 1
  ·refine ⟨_, 0, ?_, ?_, ?_, ?_, rfl, ?henv, ?hstore, ?hst⟩
   case henv =>
    repeat' (first | rfl | refine env_cons ?_ ?_ | refine st_cons ?_ ?_ ?_ ?_ | refine int_eq ?_ | refine bool_eq ?_ | refine rsl_eq ?_ | refine osl_eq ?_ | refine sl_eq ?_ ?_ ?_ | refine ptr_eq ?_ ?_ ?_ | refine agg_eq ?_ | refine es_cons ?_ ?_ | refine row_cons ?_ ?_)
    all_goals (first | (simp; done) | omega | (simp; omega))
   case hstore =>
    repeat' (first | rfl | refine env_cons ?_ ?_ | refine st_cons ?_ ?_ ?_ ?_ | refine int_eq ?_ | refine bool_eq ?_ | refine rsl_eq ?_ | refine osl_eq ?_ | refine sl_eq ?_ ?_ ?_ | refine ptr_eq ?_ ?_ ?_ | refine agg_eq ?_ | refine es_cons ?_ ?_ | refine row_cons ?_ ?_)
    all_goals (first | rfl | (simp [plT, lisR]))
   case hst =>
    exact ⟨Nat.zero_le _, rfl⟩
  rintro mm ee ss kk ⟨k, g2, v2, g, v, rfl, rfl, rfl, hI⟩
  generalize hQl1 : thenQ _ _ = Ql1
  obtain ⟨hk, hall⟩ := hI
  refine AW.sg [2,5,6,28,29,30,31] [2,27,42] (e3 @lisR_len @htl @hlen) ?_
  refine AW.seq fun K3 hK3 => ?_
  refine AW.cn ?_ ?_
  ·intro hb
   obtain ⟨x, hx⟩ := getI (l := ls) (j := k) (by omega)
   have hgx : (lisR ls).getD k [] = [.rsl 1 (ints x)] := by simp [lisR, List.getD_eq_getElem?_getD, hx]
   have hats := all_take_succ (p := extB n (belL n t)) hx
   have hxm := List.mem_of_getElem? hx
   have hix := hisx x (hle x hxm)
   rw [hv, Bool.true_and] at hix
   have hPl := plT_len n ls hk
   have hPg := plT_get n ls (show k < ls.length by omega)
   have hPs := plT_set n ls (show k < ls.length by omega) hx
   refine AW.skip ?_
   refine hK3 _ _ _ ?_; clear hK3
   refine AW.seq fun K4 hK4 => ?_
   refine AW.block ?_
   refine AW.sg [2,5,6,7,8,28,29,30] [2,27,42] (e4 @lisR_len @htl @hlen @hgx) ?_
   refine AW.seq fun K5 hK5 => ?_
   refine AW.so 0 (fun ii => if ii = 2 then some (.reads false (.bool (extB n (belL n t) x))) else none) [2,5,6,7,8,28,29,30,38] [2,27,42] (e3 @lisR_len @htl @hlen) ?_
   repeat with_reducible refine cj ?_ ?_
   all_goals try first | (exact hix) | omega | exact ent (by kernel_rfl)
   refine AW.cn ?_ ?_
   ·intro hb
    refine AW.sg [4] [] (e3 @lisR_len @htl @hlen) ?_
    -- ret 2
    rw [← hQl1, ← hQr]
    refine AW.rt (e3 @lisR_len @htl @hlen) ?_
    have hf : ls.all (extB n (belL n t)) = false := by
     refine Bool.eq_false_iff.2 fun e => ?_
     have := List.all_eq_true.1 e x hxm
     rw [this] at hb; cases hb
    exact Wk.of_eq (by rw [hrB2, hf]; rfl)
   ·intro hb
    have hex : extB n (belL n t) x = true := by simpa using hb
    obtain ⟨hE, _⟩ := (extB_bf hp).1 hex
    have hxl := hE.len
    refine AW.skip ?_
    refine hK5 _ _ _ ?_; clear hK5
    refine AW.sg [2,5,6,7,8,28,29,30] [2,27,42] (e5 @lisR_len @htl @hlen @hPl @hPg) ?_
    refine AW.sg [2,5,6,7,28,29,30,44,45,46] [2,27,42] (e3 @lisR_len @htl @hlen) ?_
    refine AW.block ?_
    refine AW.loopE (fun mm ee ss kk => ∃ (m g2 v2 g v gc vc : Nat), n - m = mm ∧ ee = [(2, .ptr ⟨2, g2, none⟩ 0 0), (5, .int .i64 n), (6, .sl ⟨27, g, none⟩ 0 ls.length none), (7, .int .i64 (k : Nat)), (28, .rsl 1 (lisR ls)), (29, .int .i64 ls.length), (30, .int .i64 (k : Nat)), (44, .rsl 1 (ints x)), (45, .int .i64 n), (46, .int .i64 (m : Nat))] ∧ ss = [(2, some ⟨g2, v2, 1, [[.rsl 2 (tabR t)]]⟩), (27, some ⟨g, v, 1, (plT n ls k).set k [.sl ⟨42, gc, none⟩ 0 n none]⟩), (42, some ⟨gc, vc, 1, ints (plZ n x m)⟩)] ∧ (m ≤ n)) ?_ ?_
    -- init 2
    ·refine ⟨_, 0, ?_, ?_, ?_, ?_, ?_, ?_, rfl, ?henv, ?hstore, ?hst⟩
     case henv =>
      repeat' (first | rfl | refine env_cons ?_ ?_ | refine st_cons ?_ ?_ ?_ ?_ | refine int_eq ?_ | refine bool_eq ?_ | refine rsl_eq ?_ | refine osl_eq ?_ | refine sl_eq ?_ ?_ ?_ | refine ptr_eq ?_ ?_ ?_ | refine agg_eq ?_ | refine es_cons ?_ ?_ | refine row_cons ?_ ?_)
      all_goals (first | omega | rfl | (rw [hxl]) | (simp [hxl]))
     case hstore =>
      repeat' (first | rfl | refine env_cons ?_ ?_ | refine st_cons ?_ ?_ ?_ ?_ | refine int_eq ?_ | refine bool_eq ?_ | refine rsl_eq ?_ | refine osl_eq ?_ | refine sl_eq ?_ ?_ ?_ | refine ptr_eq ?_ ?_ ?_ | refine agg_eq ?_ | refine es_cons ?_ ?_ | refine row_cons ?_ ?_)
      all_goals (first | (rw [show plZ n x 0 = List.replicate n 0 from rfl, ← hz]; done) | skip)
      all_goals trace_state
     case hst =>
      first | trivial | omega | (simp; done) | (simp; omega)
    rintro mm ee ss kk ⟨m, g2, v2, g, v, gc, vc, rfl, rfl, rfl, hI⟩
    generalize hQl2 : thenQ _ _ = Ql2
    refine AW.sg [2,5,6,7,28,29,30,44,45,46,47] [2,27,42] (e3 @lisR_len @htl @hlen) ?_
    refine AW.seq fun K6 hK6 => ?_
    refine AW.cn ?_ ?_
    ·intro hb
     have hgm := ints_getD (l := x) (i := m) (by omega)
     have hrg := hE.rng m (by omega)
     have hcl : ((plT n ls k).set k [AV.sl ⟨42, gc, none⟩ 0 n none]).getD k [] = [AV.sl ⟨42, gc, none⟩ 0 n none] := Go.AM.getD_set_eq (by omega) _ _
     have hsl : ((plT n ls k).set k [AV.sl ⟨42, gc, none⟩ 0 n none]).length = ls.length := by rw [List.length_set]; exact hPl
     have hzl := ints_len (plZ n x m)
     rw [plZ_len] at hzl
     have hzs : (ints (plZ n x m)).set (x.getD m 0).toNat [.int .i64 (m : Nat)] = ints (plZ n x (m + 1)) := by simp [ints, plZ, List.map_set]
     refine AW.skip ?_
     refine hK6 _ _ _ ?_; clear hK6
     refine AW.seq fun K7 hK7 => ?_
     refine AW.block ?_
     refine AW.sg [2,5,6,7,9,10,28,29,30,44,45,46] [2,27,42] (e4 @lisR_len @htl @hlen @hgm) ?_
     refine AW.rg [2,5,6,7,28,29,30,44,45,46] [2,27,42] (e3 @lisR_len @htl (e5 @hlen @hcl @hsl @hzl @hzs)) ?_
     refine hK7 _ _ _ ?_; clear hK7
     refine AW.rg [2,5,6,7,28,29,30,44,45,46] [2,27,42] (e3 @lisR_len @htl @hlen) ?_
     -- again 2
     rw [← hQl2]; change Exists _
     exact ⟨_, eO, m + 1, _, _, _, _, _, _, rfl, eD, eD, eT⟩
    ·intro hb
     obtain rfl : m = n := by omega
     have hcl : ((plT m ls k).set k [AV.sl ⟨42, gc, none⟩ 0 m none]).getD k [] = [AV.sl ⟨42, gc, none⟩ 0 m none] := Go.AM.getD_set_eq (by omega) _ _
     have hsl : ((plT m ls k).set k [AV.sl ⟨42, gc, none⟩ 0 m none]).length = ls.length := by rw [List.length_set]; exact hPl
     have hss : ∀ a, ((plT m ls k).set k [AV.sl ⟨42, gc, none⟩ 0 m none]).set k a = (plT m ls k).set k a := fun a => List.set_set ..
     have htk : (ints (plZ m x m)).take m = ints (plZ m x m) := List.take_of_length_le (by rw [ints_len, plZ_len]; omega)
     refine AW.frzCellK [42] 5 27 k 0 ?_
     simp only [go_sem, reduceIte, zE, zL, hcl, hsl, hss, htk]
     refine ⟨rfl, by omega, ?_⟩
     -- exit 2
     refine AW.kx [2,5,6,28,29,30] [2,27,42] ?_
     rw [← hQl2]
     refine hK4 _ _ _ ?_; clear hK4
     refine AW.rg [2,5,6,28,29,30] [2,27] (e3 @lisR_len @htl @hlen) ?_
     -- again 1
     rw [← hQl1]; change Exists _
     refine ⟨_, ?hm, k + 1, ?_, ?_, ?_, ?_, rfl, ?henv, ?hstore, ?hst⟩
     case henv =>
      repeat' (first | rfl | refine env_cons ?_ ?_ | refine st_cons ?_ ?_ ?_ ?_ | refine int_eq ?_ | refine bool_eq ?_ | refine rsl_eq ?_ | refine osl_eq ?_ | refine sl_eq ?_ ?_ ?_ | refine ptr_eq ?_ ?_ ?_ | refine agg_eq ?_ | refine es_cons ?_ ?_ | refine row_cons ?_ ?_)
      all_goals (first | (simp; done) | omega | (simp; omega))
     case hstore =>
      repeat' (first | rfl | refine env_cons ?_ ?_ | refine st_cons ?_ ?_ ?_ ?_ | refine int_eq ?_ | refine bool_eq ?_ | refine rsl_eq ?_ | refine osl_eq ?_ | refine sl_eq ?_ ?_ ?_ | refine ptr_eq ?_ ?_ ?_ | refine agg_eq ?_ | refine es_cons ?_ ?_ | refine row_cons ?_ ?_)
      all_goals (first | (rw [← hPs]; done) | skip)
      all_goals trace_state
     case hst =>
      exact ⟨by omega, by rw [hats, hall, hex]; rfl⟩
     case hm => omega
  ·intro hb
   have hkl : k = ls.length := by omega
   rw [hkl, List.take_of_length_le (Nat.le_refl _)] at hall
   have hrB3 : rlzB n t ls = (List.range n).all fun i => (List.range n).all fun j => prZ n t ls i j := by rw [hrB2, hall]; rfl
   have hpT : plT n ls k = lisR (ls.map fun l => plZ n l n) := by
    unfold plT; rw [hkl, List.take_of_length_le (Nat.le_refl _)]; simp
   rw [hpT]
   have htl2 : (lisR (ls.map fun l => plZ n l n)).take ls.length = lisR (ls.map fun l => plZ n l n) := List.take_of_length_le (by rw [lisR_len, hml]; omega)
   have hpz : ∀ i j, prZ n t ls i j = ((!(ls.map fun l => plZ n l n).any (geZ i j)) == atT t i j) := fun _ _ => rfl
   generalize hA : (ls.map fun l => plZ n l n) = A at *
   refine AW.freezeK [27] [6] [2, 5] [2] ?_
   simp only [go_sem, reduceIte, zE, htl2, vwc_lisR]
   -- exit 0
   refine AW.kx [2,5,6] [2,27,42] ?_
   rw [← hQl1]
   refine hK2 _ _ _ ?_; clear hK2
   refine AW.seq fun K8 hK8 => ?_
   refine AW.sg [2,5,6,60,61] [2] (e3 @lisR_len @htl @hlen) ?_
   refine AW.block ?_
   refine AW.loopE (fun mm ee ss kk => ∃ (i g2 v2 : Nat), n - i = mm ∧ ee = [(2, .ptr ⟨2, g2, none⟩ 0 0), (5, .int .i64 n), (6, .rsl 1 (lisR A)), (60, .int .i64 n), (61, .int .i64 (i : Nat))] ∧ ss = [(2, some ⟨g2, v2, 1, [[.rsl 2 (tabR t)]]⟩)] ∧ (i ≤ n ∧ ((List.range i).all fun i => (List.range n).all fun j => prZ n t ls i j) = true)) ?_ ?_
   -- init 3
   ·exact ⟨_, 0, _, _, rfl, eD, eD, (⟨Nat.zero_le _, rfl⟩)⟩
   rintro mm ee ss kk ⟨i, g2, v2, rfl, rfl, rfl, hI⟩
   generalize hQl3 : thenQ _ _ = Ql3
   obtain ⟨hi, hal⟩ := hI
   refine AW.sg [2,5,6,60,61,62] [2] (e3 @lisR_len @htl @hlen) ?_
   refine AW.seq fun K9 hK9 => ?_
   refine AW.cn ?_ ?_
   ·intro hb
    have hin : i < n := by omega
    have hasu := all_succ (fun i => (List.range n).all fun j => prZ n t ls i j) i
    rw [hal, Bool.true_and] at hasu
    refine AW.skip ?_
    refine hK9 _ _ _ ?_; clear hK9
    refine AW.seq fun K10 hK10 => ?_
    refine AW.block ?_
    refine AW.sg [2,5,6,11,60,61] [2,11] (e3 @lisR_len @htl @hlen) ?_
    refine AW.sg [2,5,6,11,60,61,64,65] [2,11] (e3 @lisR_len @htl @hlen) ?_
    refine AW.block ?_
    refine AW.loopE (fun mm ee ss kk => ∃ (j g2 v2 g11 v11 : Nat), n - j = mm ∧ ee = [(2, .ptr ⟨2, g2, none⟩ 0 0), (5, .int .i64 n), (6, .rsl 1 (lisR A)), (11, .ptr ⟨11, g11, none⟩ 0 0), (60, .int .i64 n), (61, .int .i64 (i : Nat)), (64, .int .i64 n), (65, .int .i64 (j : Nat))] ∧ ss = [(2, some ⟨g2, v2, 1, [[.rsl 2 (tabR t)]]⟩), (11, some ⟨g11, v11, 1, [[.int .i64 (i : Nat)]]⟩)] ∧ (j ≤ n ∧ ((List.range j).all fun j => prZ n t ls i j) = true)) ?_ ?_
    -- init 4
    ·exact ⟨_, 0, _, _, _, _, rfl, eD, eD, (⟨Nat.zero_le _, rfl⟩)⟩
    rintro mm ee ss kk ⟨j, g2, v2, g11, v11, rfl, rfl, rfl, hI⟩
    generalize hQl4 : thenQ _ _ = Ql4
    obtain ⟨hj, hal2⟩ := hI
    refine AW.sg [2,5,6,11,60,61,64,65,66] [2,11] (e3 @lisR_len @htl @hlen) ?_
    refine AW.seq fun K11 hK11 => ?_
    refine AW.cn ?_ ?_
    ·intro hb
     have hjn : j < n := by omega
     have hjsu := all_succ (fun j => prZ n t ls i j) j
     rw [hal2, Bool.true_and] at hjsu
     have hc := hct i j hin hjn
     have hpij := hpz i j
     have hgi := tabR_get (t := t) (i := i) (by omega)
     have hri := hs.rowLen hin
     have hhb := rowN_r (rowT t i) (by omega) j (by omega)
     have hat : atT t i j = (rowT t i).getD j false := rfl
     rw [← hat] at hhb
     unfold rowB at hhb
     refine AW.skip ?_
     refine hK11 _ _ _ ?_; clear hK11
     refine AW.seq fun K12 hK12 => ?_
     refine AW.block ?_
     refine AW.sg [2,5,6,11,12,60,61,64,65] [2,11,12] (e3 @lisR_len @htl @hlen) ?_
     refine AW.so 0 (fun ii => if ii = 2 then some (.reads true (.bool (A.any (geZ i j)))) else none) [2,5,6,11,12,13,60,61,64,65] [2,11,12] (e3 @lisR_len @htl @hlen) ?_
     repeat with_reducible refine cj ?_ ?_
     all_goals try first | (exact hc) | omega | exact ent (by kernel_rfl)
     refine AW.sd mixed 0 (fun ii => if ii = 7 then some (.reads false (.bool (atT t i j))) else none) [2,5,6,11,60,61,64,65,80] [2,11,12] (e2 @lisR_len (e5 @htl @hlen @hgi @rowB.eq_1 @hri)) ?_
     repeat with_reducible refine cj ?_ ?_
     all_goals try first | ((rw [hri] at hhb; exact hhb)) | omega | exact chk (by kernel_rfl) | exact ent (by kernel_rfl)
     refine AW.cn ?_ ?_
     ·intro hb
      refine AW.sg [4] [2] (e3 @lisR_len @htl @hlen) ?_
      -- ret 3
      rw [← hQl4, ← hQl3, ← hQr]
      refine AW.rt (e3 @lisR_len @htl @hlen) ?_
      have hf : prZ n t ls i j = false := by rw [hpij]; revert hb; cases A.any (geZ i j) <;> cases atT t i j <;> simp
      have h1 : ((List.range n).all fun j => prZ n t ls i j) = false := all_cut hjn hf
      exact Wk.of_eq (by rw [hrB3, all_cut hin h1])
     ·intro hb
      refine AW.skip ?_
      refine hK12 _ _ _ ?_; clear hK12
      refine AW.rg [2,5,6,11,60,61,64,65] [2,11] (e3 @lisR_len @htl @hlen) ?_
      -- again 4
      rw [← hQl4]; change Exists _
      exact ⟨_, eO, j + 1, _, _, _, _, rfl, eD, eD, (⟨by omega, by rw [hjsu, hpij]; revert hb; cases A.any (geZ i j) <;> cases atT t i j <;> simp⟩)⟩
    ·intro hb
     have hjn : j = n := by omega
     rw [hjn] at hal2
     -- exit 6
     refine AW.kx [2,5,6,60,61] [2,11] ?_
     rw [← hQl4]
     refine hK10 _ _ _ ?_; clear hK10
     refine AW.rg [2,5,6,60,61] [2] (e3 @lisR_len @htl @hlen) ?_
     -- again 3
     rw [← hQl3]; change Exists _
     exact ⟨_, eO, i + 1, _, _, rfl, eD, eD, (⟨by omega, by rw [hasu, hal2]⟩)⟩
   ·intro hb
    have hin : i = n := by omega
    rw [hin] at hal
    -- exit 4
    refine AW.kx [] [2] ?_
    rw [← hQl3]
    refine hK8 _ _ _ ?_; clear hK8
    refine AW.sg [4] [2] (e3 @lisR_len @htl @hlen) ?_
    -- ret 4
    rw [← hQr]
    refine AW.rt (e3 @lisR_len @htl @hlen) ?_
    exact Wk.of_eq (by rw [hrB3, hal])
end Go.Proofs.D

namespace Go.Proofs.D
open Go.AM Go
set_option maxRecDepth 100000
set_option maxHeartbeats 4000000
end Go.Proofs.D

namespace Go.Proofs.D
open Go.AM Go
set_option maxRecDepth 100000
set_option maxHeartbeats 4000000
end Go.Proofs.D

/- Critical pairs: the reference's test is the program's; and they decide what a realizer is. -/
namespace Go.AM
theorem dwB_iff {n : Nat} {t : List (List Bool)} {x y : Nat} (hx : x < n) : dwB n t x y = false ↔ ∀ i, i < n → atT t i x = true → atT t i y = true := by
  unfold dwB belL
  rw [belAt_get hx, List.any_eq_false]
  constructor
  · intro h i hi ha
    have := h (i : Int) (List.mem_map.2 ⟨i, List.mem_filter.2 ⟨List.mem_range.2 hi, ha⟩, rfl⟩)
    simpa using this
  · intro h z hz
    obtain ⟨i, hi, rfl⟩ := List.mem_map.1 hz
    obtain ⟨h1, h2⟩ := List.mem_filter.1 hi
    simp [h i (List.mem_range.1 h1) h2]
theorem crB_iff {n : Nat} {t : List (List Bool)} (hs : Sq n t) {x y : Nat} (hx : x < n) (hy : y < n) : crB n t x y = true ↔ (x ≠ y ∧ atT t x y = false ∧ atT t y x = false) ∧ (∀ i, i < n → atT t i x = true → atT t i y = true) ∧ ∀ i, i < n → atT t y i = true → atT t x i = true := by
  unfold crB
  rw [Bool.and_eq_true, Bool.and_eq_true, Bool.not_eq_true', Bool.not_eq_true', dwB_iff hx, subB_iff, hs.rowLen hy]
  simp only [Bool.or_eq_false_iff, decide_eq_false_iff_not]
  refine and_congr ?_ (and_congr Iff.rfl Iff.rfl)
  constructor
  · rintro ⟨⟨a, b⟩, c⟩; exact ⟨a, b, c⟩
  · rintro ⟨a, b, c⟩; exact ⟨⟨a, b⟩, c⟩
theorem filter_le_of {α : Type} {p q : α → Bool} {l : List α} (h : ∀ x ∈ l, p x = true → q x = true) : (l.filter p).length ≤ (l.filter q).length := by
  induction l with
  | nil => simp
  | cons a l ih =>
    have ih := ih fun y hy => h y (List.mem_cons_of_mem _ hy)
    have ha := h a (List.mem_cons_self ..)
    simp only [List.filter_cons]
    cases hp : p a with
    | true => rw [ha hp]; simp only [if_true, List.length_cons]; omega
    | false =>
      cases hq : q a with
      | true => simp only [Bool.false_eq_true, if_false, if_true, List.length_cons]; omega
      | false => simpa using ih
/-- Above each pair of elements that are not comparable there is a critical pair. -/
theorem crit_above {n : Nat} {t : List (List Bool)} (hs : Sq n t) (hp : IsPo n t) : ∀ (m x y : Nat), ((List.range n).filter fun i => atT t i x).length + ((List.range n).filter fun i => atT t y i).length ≤ m → x < n → y < n → x ≠ y → atT t x y = false → atT t y x = false →
    ∃ a b, a < n ∧ b < n ∧ crB n t a b = true ∧ leT t a x = true ∧ leT t y b = true := by
  intro m
  induction m with
  | zero =>
    intro x y hm hx hy hxy h1 h2
    refine ⟨x, y, hx, hy, (crB_iff hs hx hy).2 ⟨⟨hxy, h1, h2⟩, fun i hi ha => ?_, fun i hi ha => ?_⟩, by simp [leT], by simp [leT]⟩
    · have : i ∈ (List.range n).filter fun i => atT t i x := List.mem_filter.2 ⟨List.mem_range.2 hi, ha⟩
      have := List.length_pos_of_mem this
      omega
    · have : i ∈ (List.range n).filter fun i => atT t y i := List.mem_filter.2 ⟨List.mem_range.2 hi, ha⟩
      have := List.length_pos_of_mem this
      omega
  | succ m ih =>
    intro x y hm hx hy hxy h1 h2
    by_cases hc : crB n t x y = true
    · exact ⟨x, y, hx, hy, hc, by simp [leT], by simp [leT]⟩
    · have hc' : ¬ ((∀ i, i < n → atT t i x = true → atT t i y = true) ∧ ∀ i, i < n → atT t y i = true → atT t x i = true) := fun h => hc ((crB_iff hs hx hy).2 ⟨⟨hxy, h1, h2⟩, h⟩)
      rcases Classical.em (∀ i, i < n → atT t i x = true → atT t i y = true) with hd | hd
      · have : ∃ i, i < n ∧ atT t y i = true ∧ atT t x i = false := by
          apply Classical.byContradiction
          intro hno
          exact hc' ⟨hd, fun i hi ha => by
            cases e : atT t x i with
            | true => rfl
            | false => exact absurd ⟨i, hi, ha, e⟩ hno⟩
        obtain ⟨i, hi, ha, hb⟩ := this
        have hxi : x ≠ i := fun e => by subst e; rw [ha] at h2; cases h2
        have hix : atT t i x = false := by
          cases e : atT t i x with
          | false => rfl
          | true => rw [hp.trans y i x hy hi hx ha e] at h2; cases h2
        have hlt : ((List.range n).filter fun k => atT t i k).length < ((List.range n).filter fun k => atT t y k).length :=
          filter_lt (fun k hk hik => hp.trans y i k hy hi (List.mem_range.1 hk) ha hik) ⟨i, List.mem_range.2 hi, ha, hp.irr i hi⟩
        obtain ⟨a, b, h3, h4, h5, h6, h7⟩ := ih x i (by omega) hx hi hxi hb hix
        refine ⟨a, b, h3, h4, h5, h6, ?_⟩
        exact leT_trans hp hy hi h4 (by unfold leT; rw [ha, Bool.or_true]) h7
      · have : ∃ i, i < n ∧ atT t i x = true ∧ atT t i y = false := by
          apply Classical.byContradiction
          intro hno
          exact hd fun i hi ha => by
            cases e : atT t i y with
            | true => rfl
            | false => exact absurd ⟨i, hi, ha, e⟩ hno
        obtain ⟨i, hi, ha, hb⟩ := this
        have hiy : i ≠ y := fun e => by subst e; rw [ha] at h2; cases h2
        have hyi : atT t y i = false := by
          cases e : atT t y i with
          | false => rfl
          | true => rw [hp.trans y i x hy hi hx e ha] at h2; cases h2
        have hlt : ((List.range n).filter fun k => atT t k i).length < ((List.range n).filter fun k => atT t k x).length :=
          filter_lt (fun k hk hik => hp.trans k i x (List.mem_range.1 hk) hi hx hik ha) ⟨i, List.mem_range.2 hi, ha, hp.irr i hi⟩
        obtain ⟨a, b, h3, h4, h5, h6, h7⟩ := ih i y (by omega) hi hy hiy hb hyi
        exact ⟨a, b, h3, h4, h5, leT_trans hp h3 hi hx h6 (by unfold leT; rw [ha, Bool.or_true]), h7⟩
theorem bfA_le {n : Nat} {t : List (List Bool)} (hp : IsPo n t) {l : List Int} (hx : extB n (belL n t) l = true) {a b c : Nat} (ha : a < n) (hb : b < n) (h : leT t a b = true) : (bfA n b c l = true → bfA n a c l = true) ∧ (bfA n c a l = true → bfA n c b l = true) := by
  unfold leT at h
  rw [Bool.or_eq_true, decide_eq_true_eq] at h
  rcases h with rfl | h
  · exact ⟨id, id⟩
  · have := ext_bf hp hx ha hb h
    exact ⟨fun h2 => bfA_trans this h2, fun h2 => bfA_trans h2 this⟩
/-- Critical pairs decide. -/
theorem rlz_crit {n : Nat} {t : List (List Bool)} (hs : Sq n t) (hp : IsPo n t) {ls : List (List Int)} (hx : ∀ l ∈ ls, extB n (belL n t) l = true) : IsRlz n t ls ↔ ls ≠ [] ∧ ∀ x ∈ critT n t, ∃ l ∈ ls, bfA n x.2 x.1 l = true := by
  constructor
  · intro h
    refine ⟨h.ne, fun x hxm => ?_⟩
    have h1 := crA_mem.1 hxm
    have h2 := crB_inc h1.2.2
    exact h.rev x.1 x.2 h1.1 h1.2.1 h2.1 h2.2.1
  · rintro ⟨hne, h⟩
    refine ⟨hne, hx, fun i j hi hj hij ha => ?_⟩
    cases hji : atT t j i with
    | true =>
      obtain ⟨l, hl⟩ := List.exists_mem_of_ne_nil _ hne
      exact ⟨l, hl, ext_bf hp (hx l hl) hj hi hji⟩
    | false =>
      obtain ⟨a, b, h1, h2, h3, h4, h5⟩ := crit_above hs hp _ i j (Nat.le_refl _) hi hj hij ha hji
      obtain ⟨l, hl, hb⟩ := h (a, b) (crA_mem.2 ⟨h1, h2, h3⟩)
      refine ⟨l, hl, ?_⟩
      exact (bfA_le hp (hx l hl) (c := i) hj h2 h5).1 ((bfA_le hp (hx l hl) (c := b) h1 hi h4).2 hb)
/-- The order of a relation's nodes has what is related in the order. -/
def natL (l : List Nat) : List Int := l.map fun (i : Nat) => (i : Int)
theorem natL_get {l : List Nat} {k : Nat} (hk : k < l.length) : (natL l).getD k 0 = ((l[k] : Nat) : Int) := by
  simp [natL, List.getD_eq_getElem?_getD, hk]
theorem natL_each {n : Nat} {l : List Nat} (hl : l.length = n) (hnd : l.Nodup) (hr : ∀ i ∈ l, i < n) : IsEach n (natL l) := by
  have hlen : (natL l).length = n := by simp [natL, hl]
  refine ⟨hlen, fun m hm => ?_, fun m hm => ?_⟩
  · rw [natL_get (by omega)]
    have := hr _ (List.getElem_mem (show m < l.length by omega))
    omega
  · have hrg : ∀ m, m < n → 0 ≤ (natL l).getD m 0 ∧ (natL l).getD m 0 < (n : Int) := fun m hm => by
      rw [natL_get (by omega)]
      have := hr _ (List.getElem_mem (show m < l.length by omega))
      omega
    have h1 := hrg m hm
    cases e : (dAt n (natL l) m).getD ((natL l).getD m 0).toNat false with
    | false => rfl
    | true =>
      obtain ⟨k, hk, he⟩ := (dAt_mem hrg hlen (i := ((natL l).getD m 0).toNat) (by omega) m (by omega)).1 e
      rw [natL_get (by omega), natL_get (by omega)] at he
      have h2 : l[k] = l[m] := by omega
      have := (List.getElem_inj hnd).1 h2
      omega
theorem natL_ref {n : Nat} {l : List Nat} (hl : l.length = n) (hnd : l.Nodup) (hr : ∀ i ∈ l, i < n) {k i : Nat} (h : l[k]? = some i) : refA (natL l) (i : Nat) n = (k : Int) := by
  obtain ⟨hk, he⟩ := List.getElem?_eq_some_iff.1 h
  have hE := natL_each hl hnd hr
  have := refA_at hE (k := k) (i := (i : Int)) (by rw [natL_get hk, he]) n (Nat.le_refl _) (by omega)
  exact this
/-- The order of nodes: all of them, what is related in the order. -/
theorem ordO_each {n : Nat} {u : List (List Bool)} (hs : Sq n u) (ha : acyc n u = true) : IsEach n (natL (ordO n u n [])) ∧ ∀ i j, i < n → j < n → atT u i j = true → bfA n i j (natL (ordO n u n [])) = true := by
  obtain ⟨hO, hl⟩ := ordO_ok hs ha n [] (OrdI.nil n u) (by simp)
  refine ⟨natL_each hl hO.nd hO.rng, fun i j hi hj hij => ?_⟩
  have hE := natL_each hl hO.nd hO.rng
  obtain ⟨k, hk, he⟩ := hE.has hj
  have hkl : k < (ordO n u n []).length := by omega
  rw [natL_get hkl] at he
  have hjk : (ordO n u n [])[k]? = some j := by rw [List.getElem?_eq_getElem hkl]; congr 1; omega
  obtain ⟨p, hp1, hp2⟩ := hO.top k j i hjk hi hij
  unfold bfA
  rw [natL_ref hl hO.nd hO.rng hjk, natL_ref hl hO.nd hO.rng hp2]
  exact decide_eq_true (by omega)
theorem addTs_at {n : Nat} : ∀ (q : List (Nat × Nat)) {t : List (List Bool)}, Sq n t → (∀ x ∈ q, x.1 < n ∧ x.2 < n) → ∀ i j, atT (addTs t q) i j = true ↔ (atT t i j = true ∨ (j, i) ∈ q)
  | [], t, _, _, i, j => by simp [addTs]
  | x :: q, t, hs, h, i, j => by
    have hx := h x (List.mem_cons_self ..)
    have h1 := addTs_at q (addT_sq hs hx.2) (fun y hy => h y (List.mem_cons_of_mem _ hy)) i j
    show atT (addTs (addT t x) q) i j = true ↔ _
    rw [h1]
    unfold addT
    rw [atT_putT hs hx.2 hx.1]
    simp only [Bool.or_eq_true, decide_eq_true_eq, List.mem_cons, Prod.ext_iff]
    constructor
    · rintro ((⟨a, b⟩ | a) | a)
      · exact .inr (.inl ⟨b.symm, a.symm⟩)
      · exact .inl a
      · exact .inr (.inr a)
    · rintro (a | ⟨a, b⟩ | a)
      · exact .inl (.inr a)
      · exact .inl (.inl ⟨b.symm, a.symm⟩)
      · exact .inr a
/-- Reversed's list: an extension that has the pairs turned round. -/
def revO (n : Nat) (t : List (List Bool)) (q : List (Nat × Nat)) : List Int := natL (ordO n (addTs t q) n [])
theorem revO_ok {n : Nat} {t : List (List Bool)} (hs : Sq n t) (hp : IsPo n t) {q : List (Nat × Nat)} (hq : ∀ x ∈ q, x.1 < n ∧ x.2 < n) (ha : acyc n (addTs t q) = true) : extB n (belL n t) (revO n t q) = true ∧ ∀ x ∈ q, bfA n x.2 x.1 (revO n t q) = true := by
  obtain ⟨hE, hb⟩ := ordO_each (addTs_sq hs fun x hx => (hq x hx).2) ha
  refine ⟨(extB_bf hp).2 ⟨hE, fun i j hi hj hij => hb i j hi hj ((addTs_at q hs hq i j).2 (.inl hij))⟩, fun x hx => ?_⟩
  exact hb x.2 x.1 (hq x hx).2 (hq x hx).1 ((addTs_at q hs hq _ _).2 (.inr hx))
theorem realT_eq (n : Nat) (t : List (List Bool)) : realT n t = (dealtT n t).map (revO n t) := rfl
/-- What the search finds is a realizer. -/
theorem realT_rlz {n : Nat} {t : List (List Bool)} (hs : Sq n t) (hp : IsPo n t) (hn : n ≤ 8) : IsRlz n t (realT n t) := by
  have hd := dealt_ok hs hp hn
  have hx : ∀ l ∈ realT n t, extB n (belL n t) l = true := fun l hl => by
    rw [realT_eq] at hl
    obtain ⟨q, hq, rfl⟩ := List.mem_map.1 hl
    exact (revO_ok hs hp (hd.row q hq).2.1 (hd.row q hq).2.2).1
  refine (rlz_crit hs hp hx).2 ⟨fun e => ?_, fun x hxm => ?_⟩
  · obtain ⟨m, h1, h2, _⟩ := deals_len (n := n) (t := t)
    have := realT_len n t
    rw [e] at this; simp at this; omega
  · obtain ⟨q, hq, hxq⟩ := dealt_all hs hp hn hxm
    refine ⟨revO n t q, by rw [realT_eq]; exact List.mem_map_of_mem hq, ?_⟩
    exact (revO_ok hs hp (hd.row q hq).2.1 (hd.row q hq).2.2).2 x hxq
end Go.AM

namespace Go.Proofs.D
open Go.AM Go
set_option maxRecDepth 100000
set_option maxHeartbeats 4000000
theorem rset_r (b : List Bool) (hl : b.length ≤ 100000) : Reads Tryd.prog 60 true [.rsl 1 (bools b)] (.agg [.int .i64 b.length, .rsl 1 (words (setW b b.length))]) := by
 have hwn := wordsN_rng (n := (b.length : Int)) (by omega)
 have hwe : ((b.length : Int) + 63).tdiv 64 = wordsN b.length := by unfold wordsN; congr 1; omega
 refine Reads.bodyF (rs := [.cell 2 69]) Tryd.func60 rfl Tryd.ntmps60 rfl (by simp) ?_
 generalize hQr : retQ _ _ _ = Qr
 -- block 1
 refine AW.sg [0,2] [2] trivial ?_
 refine AW.sg [0,2,3] [2,3,11] (@hwe) ?_
 refine AW.seq fun K1 hK1 => ?_
 refine AW.sg [0,2,3,4] [2,3,11] trivial ?_
 refine AW.block ?_
 refine AW.loopE (fun mm ee ss kk => ∃ (j g v gw vw g2 v2 : Nat) (c2 : List AV), b.length - j = mm ∧ ee = [(0, .rsl 1 (bools b)), (2, .ptr ⟨2, g2, none⟩ 0 0), (3, .ptr ⟨3, g, none⟩ 0 0), (4, .int .i64 (j : Nat))] ∧ ss = [(2, some ⟨g2, v2, 2, [[.int .i64 0, .nilsl]]⟩), (3, some ⟨g, v, 2, [[.int .i64 b.length, .sl ⟨11, gw, none⟩ 0 (wordsN b.length).toNat none]]⟩), (11, some ⟨gw, vw, 1, words (setW b j)⟩)] ∧ (j ≤ b.length)) ?_ ?_
 -- init 1
 ·refine ⟨_, 0, ?_, ?_, ?_, ?_, ?_, ?_, [], rfl, ?henv, ?hstore, ?hst⟩
  case henv =>
   repeat' (first | rfl | refine env_cons ?_ ?_ | refine st_cons ?_ ?_ ?_ ?_ | refine int_eq ?_ | refine bool_eq ?_ | refine rsl_eq ?_ | refine osl_eq ?_ | refine sl_eq ?_ ?_ ?_ | refine ptr_eq ?_ ?_ ?_ | refine agg_eq ?_ | refine es_cons ?_ ?_ | refine row_cons ?_ ?_)
   all_goals (first | (simp; done) | omega | (simp; omega))
  case hstore =>
   repeat' (first | rfl | refine env_cons ?_ ?_ | refine st_cons ?_ ?_ ?_ ?_ | refine int_eq ?_ | refine bool_eq ?_ | refine rsl_eq ?_ | refine osl_eq ?_ | refine sl_eq ?_ ?_ ?_ | refine ptr_eq ?_ ?_ ?_ | refine agg_eq ?_ | refine es_cons ?_ ?_ | refine row_cons ?_ ?_)
   all_goals simp [setW, words]
  case hst =>
   first | trivial | omega | (simp; done) | (simp; omega)
 rintro mm ee ss kk ⟨j, g, v, gw, vw, g2, v2, c2, rfl, rfl, rfl, hI⟩
 generalize hQl1 : thenQ _ _ = Ql1
 refine AW.seq fun K2 hK2 => ?_
 refine AW.sg [0,2,3,4,16] [2,3,11] trivial ?_
 refine AW.cn ?_ ?_
 ·intro hb
  have hgb := bools_getD (l := b) (i := j) (by omega)
  have hwl := setW_len b j
  have hd := div64_rng (i := (j : Int)) (n := b.length) (by omega) (by omega)
  have hgw := words_getD (l := setW b j) (i := ((j : Int).tdiv 64).toNat) (by omega)
  have hsu := setW_succ b j
  refine AW.skip ?_
  refine hK2 _ _ _ ?_; clear hK2
  refine AW.seq fun K3 hK3 => ?_
  refine AW.block ?_
  refine AW.sg [0,2,3,4,22] [2,3,11] (@hgb) ?_
  refine AW.cn ?_ ?_
  ·intro hb
   rw [if_pos hb] at hsu
   refine AW.rd mixed 0 (fun _ => none) [0,2,3,4] [2,3,11] (e2 @hgw @hwl) ?_
   refine hK3 _ _ _ ?_; clear hK3
   refine AW.rg [0,2,3,4] [2,3,11] trivial ?_
   -- again 1
   rw [← hQl1]; change Exists _
   refine ⟨_, ?hm, j + 1, ?_, ?_, ?_, ?_, ?_, ?_, [], rfl, ?henv, ?hstore, ?hst⟩
   case henv =>
    repeat' (first | rfl | refine env_cons ?_ ?_ | refine st_cons ?_ ?_ ?_ ?_ | refine int_eq ?_ | refine bool_eq ?_ | refine rsl_eq ?_ | refine osl_eq ?_ | refine sl_eq ?_ ?_ ?_ | refine ptr_eq ?_ ?_ ?_ | refine agg_eq ?_ | refine es_cons ?_ ?_ | refine row_cons ?_ ?_)
    all_goals (first | (simp; done) | omega | (simp; omega))
   case hstore =>
    repeat' (first | rfl | refine env_cons ?_ ?_ | refine st_cons ?_ ?_ ?_ ?_ | refine int_eq ?_ | refine bool_eq ?_ | refine rsl_eq ?_ | refine osl_eq ?_ | refine sl_eq ?_ ?_ ?_ | refine ptr_eq ?_ ?_ ?_ | refine agg_eq ?_ | refine es_cons ?_ ?_ | refine row_cons ?_ ?_)
    all_goals (rw [hsu]; try simp [setBit])
   case hst =>
    first | trivial | omega | (simp; done) | (simp; omega)
   case hm => omega
  ·intro hb
   rw [if_neg (by rw [hb]; simp)] at hsu
   refine AW.skip ?_
   refine hK3 _ _ _ ?_; clear hK3
   refine AW.rg [0,2,3,4] [2,3,11] trivial ?_
   -- again 1
   rw [← hQl1]; change Exists _
   refine ⟨_, ?hm, j + 1, ?_, ?_, ?_, ?_, ?_, ?_, [], rfl, ?henv, ?hstore, ?hst⟩
   case henv =>
    repeat' (first | rfl | refine env_cons ?_ ?_ | refine st_cons ?_ ?_ ?_ ?_ | refine int_eq ?_ | refine bool_eq ?_ | refine rsl_eq ?_ | refine osl_eq ?_ | refine sl_eq ?_ ?_ ?_ | refine ptr_eq ?_ ?_ ?_ | refine agg_eq ?_ | refine es_cons ?_ ?_ | refine row_cons ?_ ?_)
    all_goals (first | (simp; done) | omega | (simp; omega))
   case hstore =>
    repeat' (first | rfl | refine env_cons ?_ ?_ | refine st_cons ?_ ?_ ?_ ?_ | refine int_eq ?_ | refine bool_eq ?_ | refine rsl_eq ?_ | refine osl_eq ?_ | refine sl_eq ?_ ?_ ?_ | refine ptr_eq ?_ ?_ ?_ | refine agg_eq ?_ | refine es_cons ?_ ?_ | refine row_cons ?_ ?_)
    all_goals (rw [hsu]; try simp [setBit])
   case hst =>
    first | trivial | omega | (simp; done) | (simp; omega)
   case hm => omega
 ·intro hb
  -- exit 0
  refine AW.kx [2,3] [2,3,11] ?_
  rw [← hQl1]
  refine hK1 _ _ _ ?_; clear hK1
  refine AW.sg [2] [2,11] trivial ?_
  -- ret 1
  rw [← hQr]
  refine AW.rt trivial ?_
  have hj : j = b.length := by omega
  subst hj
  rw [List.take_of_length_le (by rw [setW_len]; exact Nat.le_refl _)]
  exact Wk.refl _
theorem rmake_r (n : Nat) (t : List (List Bool)) (hs : Sq n t) (hn : n ≤ 512) : Reads Tryd.prog 30 false [.rsl 1 (rowsR t)] (relB t) := by
 have hlen := hs.len
 have hrl := rowsR_len t
 unfold relB
 refine Reads.body (rs := [.cell 2 24]) Tryd.func30 rfl Tryd.ntmps30 rfl (by simp) ?_
 generalize hQr : retQ _ _ _ = Qr
 -- block 2
 refine AW.sg [0,2] [2] (e2 @hrl @hlen) ?_
 refine AW.sg [0,2,3] [2,3] (e2 @hrl @hlen) ?_
 refine AW.seq fun K1 hK1 => ?_
 refine AW.sg [0,2,3,4] [2,3] (e2 @hrl @hlen) ?_
 refine AW.block ?_
 refine AW.nilCellK 3 0 0 200 2 ?_
 simp only [go_sem, reduceIte, zE]
 repeat refine cj ?_ ?_
 all_goals first | decide | skip
 refine AW.keep [0, 2, 3, 4] [2, 3, 200] ?_
 simp only [go_sem, reduceIte, zE]
 refine AW.loopE (fun mm ee ss kk => ∃ (i g2 v2 g4 v4 g v : Nat), n - i = mm ∧ ee = [(0, .rsl 1 (rowsR t)), (2, .ptr ⟨2, g2, none⟩ 0 0), (3, .ptr ⟨3, g4, none⟩ 0 0), (4, .int .i64 (i : Nat))] ∧ ss = [(2, some ⟨g2, v2, 1, [[.nilsl]]⟩), (3, some ⟨g4, v4, 1, [[.sl ⟨200, g, none⟩ 0 i none]]⟩), (200, some ⟨g, v, 2, tabR (t.take i)⟩)] ∧ (i ≤ n)) ?_ ?_
 -- init 1
 ·exact ⟨_, 0, _, _, _, _, _, _, rfl, eD, eD, eT⟩
 rintro mm ee ss kk ⟨i, g2, v2, g4, v4, g, v, rfl, rfl, rfl, hI⟩
 generalize hQl1 : thenQ _ _ = Ql1
 refine AW.seq fun K2 hK2 => ?_
 refine AW.sg [0,2,3,4,8] [2,3,200] (e2 @hrl @hlen) ?_
 refine AW.cn ?_ ?_
 ·intro hb
  have hgr := rowsR_get (t := t) (i := i) (by omega)
  have hrw := hs.rowLen (i := i) (by omega)
  have hti : t.take (i + 1) = t.take i ++ [rowT t i] := by obtain ⟨h1, h2⟩ := List.getElem?_eq_some_iff.1 (rowT_get (t := t) (i := i) (by omega)); rw [List.take_succ_eq_append_getElem h1, h2]
  have htl : (t.take i).length = i := by simp; omega
  have htk : (tabR (t.take i)).take i = tabR (t.take i) := List.take_of_length_le (by rw [tabR_len]; omega)
  generalize hb' : rowT t i = b at *
  have hset := rset_r b (by omega)
  rw [hrw] at hset
  have hap : tabR (t.take i) ++ [[.int .i64 n, .rsl 1 (words (setW b n))]] = tabR (t.take i ++ [b]) := by simp [tabR, rowB, hrw]
  refine AW.skip ?_
  refine hK2 _ _ _ ?_; clear hK2
  refine AW.seq fun K3 hK3 => ?_
  refine AW.block ?_
  refine AW.rd mixed 0 (fun ii => if ii = 6 then some (.upd [] (fun _ => []) (fun _ => .agg [.int .i64 n, .rsl 1 (words (setW b n))])) else none) [0,2,3,4] [2,3,200] (e3 @hrl @hlen (e5 @hgr @htk @tabR_len @htl @hap)) ?_
  repeat with_reducible refine cj ?_ ?_
  all_goals try first | (exact hset.upd rfl) | omega | exact chk (by kernel_rfl) | exact ent (by kernel_rfl) | (simp [scP, scalar]; done) | exact scP_words _ | exact scP_ints _ | exact scP_bools _
  refine hK3 _ _ _ ?_; clear hK3
  refine AW.rg [0,2,3,4] [2,3,200] (e2 @hrl @hlen) ?_
  -- again 1
  rw [← hQl1]; change Exists _
  refine ⟨_, ?hm, i + 1, ?_, ?_, ?_, ?_, ?_, ?_, rfl, ?henv, ?hstore, ?hst⟩
  case henv =>
   repeat' (first | rfl | refine env_cons ?_ ?_ | refine st_cons ?_ ?_ ?_ ?_ | refine int_eq ?_ | refine bool_eq ?_ | refine rsl_eq ?_ | refine osl_eq ?_ | refine sl_eq ?_ ?_ ?_ | refine ptr_eq ?_ ?_ ?_ | refine agg_eq ?_ | refine es_cons ?_ ?_ | refine row_cons ?_ ?_)
   all_goals (first | (simp; done) | omega | (simp; omega))
  case hstore =>
   repeat' (first | rfl | refine env_cons ?_ ?_ | refine st_cons ?_ ?_ ?_ ?_ | refine int_eq ?_ | refine bool_eq ?_ | refine rsl_eq ?_ | refine osl_eq ?_ | refine sl_eq ?_ ?_ ?_ | refine ptr_eq ?_ ?_ ?_ | refine agg_eq ?_ | refine es_cons ?_ ?_ | refine row_cons ?_ ?_)
   all_goals (rw [hti])
  case hst =>
   first | trivial | omega | (simp; done) | (simp; omega)
  case hm => omega
 ·intro hb
  -- exit 0
  refine AW.exit ?_
  rw [← hQl1]
  refine hK1 _ _ _ ?_; clear hK1
  refine AW.sg [2] [2,200] (e2 @hrl @hlen) ?_
  -- ret 1
  rw [← hQr]
  refine AW.rt (e2 @hrl @hlen) ?_
  have hi : i = n := by omega
  subst hi
  rw [List.take_of_length_le (by omega : t.length ≤ i)]
  refine Wk.of_eq ?_
  rw [List.take_of_length_le (by rw [tabR_len]; omega), vwc_tabR]
def stdF (n i k : Nat) : Bool := decide (i < n) && decide (n ≤ k) && !decide (k = n + i)
def stdT (n : Nat) : List (List Bool) := tabF (2 * n) (stdF n)
theorem stdT_sq (n : Nat) : Sq (2 * n) (stdT n) := tabF_sq _ _
theorem same_g (n : Nat) (t : List (List Bool)) (hs : Sq n t) (hn : n ≤ 512) : Reads Tryd.prog 27 false [relB t, relB t] (.bool true) := by
 have hlt := tabR_len t
 have hlen := hs.len
 unfold relB
 refine Reads.body (rs := [.tmp 4]) Tryd.func27 rfl Tryd.ntmps27 rfl (by simp) ?_
 generalize hQr : retQ _ _ _ = Qr
 -- block 3
 refine AW.sg [2,3] [2,3] (e2 @hlt @hlen) ?_
 refine AW.seq fun K1 hK1 => ?_
 refine AW.sg [2,3,12] [2,3] (e2 @hlt @hlen) ?_
 refine AW.cn ?_ ?_
 ·intro hb
  exfalso; simp at hb
 ·intro hb
  refine AW.skip ?_
  refine hK1 _ _ _ ?_; clear hK1
  refine AW.seq fun K2 hK2 => ?_
  refine AW.sg [2,3,5] [2,3] (e2 @hlt @hlen) ?_
  refine AW.block ?_
  refine AW.loopE (fun mm ee ss kk => ∃ (i g2 v2 g3 v3 : Nat), n - i = mm ∧ ee = [(2, .ptr ⟨2, g2, none⟩ 0 0), (3, .ptr ⟨3, g3, none⟩ 0 0), (5, .int .i64 (i : Nat))] ∧ ss = [(2, some ⟨g2, v2, 1, [[.rsl 2 (tabR t)]]⟩), (3, some ⟨g3, v3, 1, [[.rsl 2 (tabR t)]]⟩)] ∧ (i ≤ n)) ?_ ?_
  -- init 1
  ·exact ⟨_, 0, _, _, _, _, rfl, eD, eD, eT⟩
  rintro mm ee ss kk ⟨i, g2, v2, g3, v3, rfl, rfl, rfl, hI⟩
  generalize hQl1 : thenQ _ _ = Ql1
  refine AW.seq fun K3 hK3 => ?_
  refine AW.sg [2,3,5,17] [2,3] (e2 @hlt @hlen) ?_
  refine AW.cn ?_ ?_
  ·intro hb
   have hgi := tabR_get (t := t) (i := i) (by omega)
   have hri := hs.rowLen (i := i) (by omega)
   have hss := rsame_r n (setW (rowT t i) n) (by have := setB_len (b := rowT t i) (by omega); rw [hri] at this; omega)
   refine AW.skip ?_
   refine hK3 _ _ _ ?_; clear hK3
   refine AW.seq fun K4 hK4 => ?_
   refine AW.block ?_
   refine AW.sd mixed 0 (fun ii => if ii = 10 then some (.reads false (.bool true)) else none) [2,3,5,31] [2,3] (e5 @hlt @hlen @hgi @rowB.eq_1 @hri) ?_
   repeat with_reducible refine cj ?_ ?_
   all_goals try first | (exact hss) | omega | exact chk (by kernel_rfl) | exact ent (by kernel_rfl)
   refine AW.cn ?_ ?_
   ·intro hb
    exfalso; simp at hb
   ·intro hb
    refine AW.skip ?_
    refine hK4 _ _ _ ?_; clear hK4
    refine AW.rg [2,3,5] [2,3] (e2 @hlt @hlen) ?_
    -- again 1
    rw [← hQl1]; change Exists _
    exact ⟨_, eO, i + 1, _, _, _, _, rfl, eD, eD, eT⟩
  ·intro hb
   -- exit 0
   refine AW.kx [] [] ?_
   rw [← hQl1]
   refine hK2 _ _ _ ?_; clear hK2
   refine AW.sg [4] [] (e2 @hlt @hlen) ?_
   -- ret 3
   rw [← hQr]
   refine AW.rt (e2 @hlt @hlen) ?_
   exact Wk.refl _
/-- The reference's table of the standard example, while it is filled: rows up to i, in the row i up to the number k. -/
def stG (n i k a b : Nat) : Bool := if a < i ∨ (a = i ∧ b < n + k) then stdF n a b else false
def stP (n i k : Nat) : List (List Bool) := tabF (2 * n) (stG n i k)
theorem stP_sq (n i k : Nat) : Sq (2 * n) (stP n i k) := tabF_sq _ _
theorem stP_zero (n : Nat) : stP n 0 0 = List.replicate (2 * n) (List.replicate (2 * n) false) := by
 refine tab_ext (stP_sq n 0 0) (Sq.rep _) fun i j hi hj => ?_
 rw [atT_rep, stP, atT_tabF hi hj]
 unfold stG stdF
 by_cases h : i = 0
 ·subst h
  by_cases h2 : j < n
  ·rw [if_pos (by omega), decide_eq_false (by omega : ¬ n ≤ j)]; simp
  ·rw [if_neg (by omega)]
 ·rw [if_neg (by omega)]
theorem stP_next (n i : Nat) (hi : i < n) : stP n i n = stP n (i + 1) 0 := by
 refine tab_ext (stP_sq _ _ _) (stP_sq _ _ _) fun a b ha hb => ?_
 rw [stP, stP, atT_tabF ha hb, atT_tabF ha hb]
 unfold stG
 by_cases h : a < i + 1
 ·rw [if_pos (by omega), if_pos (by omega)]
 ·by_cases h2 : a = i + 1 ∧ b < n + 0
  ·rw [if_neg (by omega), if_pos (by omega)]
   unfold stdF
   rw [decide_eq_false (by omega : ¬ n ≤ b)]; simp
  ·rw [if_neg (by omega), if_neg (by omega)]
theorem stP_all (n : Nat) : stP n n 0 = stdT n := by
 refine tab_ext (stP_sq _ _ _) (stdT_sq n) fun a b ha hb => ?_
 rw [stP, stdT, atT_tabF ha hb, atT_tabF ha hb]
 unfold stG
 by_cases h : a < n
 ·rw [if_pos (by omega)]
 ·unfold stdF
  rw [decide_eq_false h]; simp
theorem stP_step (n i k : Nat) (hi : i < n) (hk : k < n) : (stP n i k).set i ((rowT (stP n i k) i).set (n + k) (!decide (i = k))) = stP n i (k + 1) := by
 have h1 := (stP_sq n i k).rowLen (i := i) (by omega)
 refine tab_ext ((stP_sq n i k).set i (by simpa using h1)) (stP_sq _ _ _) fun a b ha hb => ?_
 have hl := (stP_sq n i k).len
 unfold atT
 rw [rowT_set]
 by_cases e : i = a
 ·subst e
  rw [if_pos ⟨rfl, by omega⟩]
  by_cases e2 : n + k = b
  ·subst e2
   rw [Go.AM.getD_set_eq (by omega)]
   show _ = atT (stP n i (k + 1)) i (n + k)
   rw [stP, atT_tabF ha hb]
   unfold stG stdF
   rw [if_pos (by omega), decide_eq_true hi, decide_eq_true (by omega : n ≤ n + k)]
   simp only [Bool.true_and]
   congr 1
   exact decide_eq_decide.2 (by omega)
  ·rw [Go.AM.getD_set_ne e2]
   show atT (stP n i k) i b = atT (stP n i (k + 1)) i b
   rw [stP, stP, atT_tabF ha hb, atT_tabF ha hb]
   unfold stG
   by_cases h : b < n + k
   ·rw [if_pos (by omega), if_pos (by omega)]
   ·rw [if_neg (by omega), if_neg (by omega)]
 ·rw [if_neg (fun h => e h.1)]
  show atT (stP n i k) a b = atT (stP n i (k + 1)) a b
  rw [stP, stP, atT_tabF ha hb, atT_tabF ha hb]
  unfold stG
  by_cases h : a < i
  ·rw [if_pos (by omega), if_pos (by omega)]
  ·rw [if_neg (by omega), if_neg (by omega)]
end Go.Proofs.D

namespace Go.Proofs.D
open Go.AM Go
set_option maxRecDepth 100000
set_option maxHeartbeats 4000000
theorem bset (b : List Bool) (i : Nat) (x : Bool) : (bools b).set i [.bool x] = bools (b.set i x) := bools_set b i x
/-- Rows that are made so far; the others are empty. -/
def mkRows (N k : Nat) : List (List Bool) := List.replicate k (List.replicate N false) ++ List.replicate (N - k) []
theorem mkRows_len {N k : Nat} (hk : k ≤ N) : (mkRows N k).length = N := by simp [mkRows]; omega
theorem mkRows_set {N k : Nat} (hk : k < N) : (mkRows N k).set k (List.replicate N false) = mkRows N (k + 1) := by
 unfold mkRows
 obtain ⟨j, hj⟩ : ∃ j, N - k = j + 1 := ⟨N - k - 1, by omega⟩
 rw [hj, show N - (k + 1) = j by omega, List.replicate_succ, List.replicate_succ', List.set_append_right _ _ (by simp)]
 simp
theorem rstd_r (n : Nat) (hn : n ≤ 256) : Reads Tryd.prog 28 false [.int .i64 n] (relB (stdT n)) := by
 have hmk := rmake_r (2 * n) (stdT n) (stdT_sq n) (by omega)
 have hz : List.replicate (2 * n) [AV.bool false] = bools (List.replicate (2 * n) false) := by simp [bools]
 have h2n : ((2 : Int) * (n : Int)).toNat = 2 * n := by omega
 unfold relB at *
 refine Reads.body (rs := [.cell 2 24]) Tryd.func28 rfl Tryd.ntmps28 rfl (by simp) ?_
 generalize hQr : retQ _ _ _ = Qr
 -- block 1
 refine AW.sg [0,2] [2,9] (@h2n) ?_
 refine AW.sg [0,2,3] [2,9] (@h2n) ?_
 refine AW.nils_own (pid := 9) 1 (rowsO (mkRows (2 * n) 0)) (by simp only [go_sem, reduceIte, zE]; rfl) (show (1 : Nat) ≠ mapSz by decide) (by simp [rowsO, mkRows]) ?_ ?_
 ·intro i hi
  simp only [List.length_replicate] at hi
  have h1 : (List.replicate (2 * n) [AV.nilsl]).getD i [] = [.nilsl] := by simp [List.getD_eq_getElem?_getD, hi]
  rw [h1, rowsO_get (by rw [mkRows_len (by omega)]; exact hi)]
  refine ⟨rfl, fun j => ?_⟩
  cases j with
  | zero => exact .inr ⟨rfl, by simp [rowT, mkRows, List.getD_eq_getElem?_getD, hi, bools]⟩
  | succ j => exact .inl rfl
 refine AW.keep [0, 2, 3] [2, 9] ?_
 simp only [go_sem, reduceIte, zE]
 refine AW.seq fun K1 hK1 => ?_
 refine AW.sg [0,2,3,4] [2,9] (@h2n) ?_
 refine AW.block ?_
 refine AW.loopE (fun mm ee ss kk => ∃ (k g2 v2 g v : Nat), 2 * n - k = mm ∧ ee = [(0, .int .i64 n), (2, .ptr ⟨2, g2, none⟩ 0 0), (3, .sl ⟨9, g, none⟩ 0 (2 * n) none), (4, .int .i64 (k : Nat))] ∧ ss = [(2, some ⟨g2, v2, 1, [[.nilsl]]⟩), (9, some ⟨g, v, 1, rowsO (mkRows (2 * n) k)⟩)] ∧ (k ≤ 2 * n)) ?_ ?_
 -- init 1
 ·exact ⟨_, 0, _, _, _, _, rfl, eD, eD, eT⟩
 rintro mm ee ss kk ⟨k, g2, v2, g, v, rfl, rfl, rfl, hI⟩
 generalize hQl1 : thenQ _ _ = Ql1
 refine AW.seq fun K2 hK2 => ?_
 refine AW.sg [0,2,3,4,13] [2,9] (@h2n) ?_
 refine AW.cn ?_ ?_
 ·intro hb
  have hml := mkRows_len (N := 2 * n) (k := k) (by omega)
  have hms := mkRows_set (N := 2 * n) (k := k) (by omega)
  have hrl := rowsO_len (mkRows (2 * n) k)
  rw [hml] at hrl
  have hrg := rowsO_get (t := mkRows (2 * n) k) (i := k) (by rw [hml]; omega)
  have hro := rowsO_set (mkRows (2 * n) k) k (List.replicate (2 * n) false)
  rw [hms] at hro
  have hcl : ∀ a : List AV, ((rowsO (mkRows (2 * n) k)).set k a).getD k [] = a := fun a => Go.AM.getD_set_eq (by omega) _ _
  have hsl : ∀ a : List AV, ((rowsO (mkRows (2 * n) k)).set k a).length = 2 * n := fun a => by rw [List.length_set]; exact hrl
  have hss : ∀ a b : List AV, ((rowsO (mkRows (2 * n) k)).set k a).set k b = (rowsO (mkRows (2 * n) k)).set k b := fun a b => List.set_set ..
  refine AW.skip ?_
  refine hK2 _ _ _ ?_; clear hK2
  refine AW.seq fun K3 hK3 => ?_
  refine AW.block ?_
  refine AW.rg [0,2,3,4] [2,9,20] (e3 @h2n @hrl @hrg) ?_
  refine hK3 _ _ _ ?_; clear hK3
  refine AW.adoptK 9 k 0 20 ?_
  simp only [go_sem, reduceIte, zE, hcl, hsl, hss, hz, hro]
  refine ⟨noOsl_bools _, ?_⟩
  refine AW.keep [0, 2, 3, 4] [2, 9] ?_
  simp only [go_sem, reduceIte, zE]
  refine AW.rg [0,2,3,4] [2,9] (@h2n) ?_
  -- again 1
  rw [← hQl1]; change Exists _
  exact ⟨_, eO, k + 1, _, _, _, _, rfl, eD, eD, eT⟩
 ·intro hb
  have hk : k = 2 * n := by omega
  have hp0 : mkRows (2 * n) (2 * n) = stP n 0 0 := by rw [stP_zero]; simp [mkRows]
  rw [hk, hp0]
  -- exit 0
  refine AW.exit ?_
  rw [← hQl1]
  refine hK1 _ _ _ ?_; clear hK1
  refine AW.seq fun K4 hK4 => ?_
  refine AW.sg [0,2,3,5] [2,9] (@h2n) ?_
  refine AW.block ?_
  refine AW.loopE (fun mm ee ss kk => ∃ (i g2 v2 g v : Nat), n - i = mm ∧ ee = [(0, .int .i64 n), (2, .ptr ⟨2, g2, none⟩ 0 0), (3, .sl ⟨9, g, none⟩ 0 (2 * n) none), (5, .int .i64 (i : Nat))] ∧ ss = [(2, some ⟨g2, v2, 1, [[.nilsl]]⟩), (9, some ⟨g, v, 1, rowsO (stP n i 0)⟩)] ∧ (i ≤ n)) ?_ ?_
  -- init 2
  ·exact ⟨_, 0, _, _, _, _, rfl, eD, eD, eT⟩
  rintro mm ee ss kk ⟨i, g2, v2, g, v, rfl, rfl, rfl, hI⟩
  generalize hQl2 : thenQ _ _ = Ql2
  refine AW.seq fun K5 hK5 => ?_
  refine AW.sg [0,2,3,5,24] [2,9] (@h2n) ?_
  refine AW.cn ?_ ?_
  ·intro hb
   refine AW.skip ?_
   refine hK5 _ _ _ ?_; clear hK5
   refine AW.seq fun K6 hK6 => ?_
   refine AW.block ?_
   refine AW.sg [0,2,3,5,6] [2,9] (@h2n) ?_
   refine AW.block ?_
   refine AW.loopE (fun mm ee ss kk => ∃ (k g2 v2 g v : Nat), n - k = mm ∧ ee = [(0, .int .i64 n), (2, .ptr ⟨2, g2, none⟩ 0 0), (3, .sl ⟨9, g, none⟩ 0 (2 * n) none), (5, .int .i64 (i : Nat)), (6, .int .i64 (k : Nat))] ∧ ss = [(2, some ⟨g2, v2, 1, [[.nilsl]]⟩), (9, some ⟨g, v, 1, rowsO (stP n i k)⟩)] ∧ (k ≤ n)) ?_ ?_
   -- init 3
   ·exact ⟨_, 0, _, _, _, _, rfl, eD, eD, eT⟩
   rintro mm ee ss kk ⟨k, g2, v2, g, v, rfl, rfl, rfl, hI⟩
   generalize hQl3 : thenQ _ _ = Ql3
   refine AW.seq fun K7 hK7 => ?_
   refine AW.sg [0,2,3,5,6,29] [2,9] (@h2n) ?_
   refine AW.cn ?_ ?_
   ·intro hb
    have hin : i < n := by omega
    have hsq := stP_sq n i k
    have hrl := rowsO_len (stP n i k)
    rw [hsq.len] at hrl
    have hrg := rowsO_get (t := stP n i k) (i := i) (by rw [hsq.len]; omega)
    have hbl := bools_len (rowT (stP n i k) i)
    rw [hsq.rowLen (by omega)] at hbl
    have hst := stP_step n i k hin (by omega)
    have hro := rowsO_set (stP n i k) i ((rowT (stP n i k) i).set (n + k) (!decide (i = k)))
    rw [hst] at hro
    have hnk : ((n : Int) + (k : Int)).toNat = n + k := by omega
    have hij : decide ((i : Int) = (k : Int)) = decide (i = k) := decide_eq_decide.2 (by omega)
    refine AW.skip ?_
    refine hK7 _ _ _ ?_; clear hK7
    refine AW.seq fun K8 hK8 => ?_
    refine AW.block ?_
    refine AW.rg [0,2,3,5,6] [2,9] (e4 @h2n @hrl @hrg (e5 @hbl @hnk @hij @bset @hro)) ?_
    refine hK8 _ _ _ ?_; clear hK8
    refine AW.rg [0,2,3,5,6] [2,9] (@h2n) ?_
    -- again 3
    rw [← hQl3]; change Exists _
    exact ⟨_, eO, k + 1, _, _, _, _, rfl, eD, eD, eT⟩
   ·intro hb
    have hk : k = n := by omega
    rw [hk]
    -- exit 4
    refine AW.exit ?_
    rw [← hQl3]
    refine hK6 _ _ _ ?_; clear hK6
    refine AW.rg [0,2,3,5] [2,9] (@h2n) ?_
    -- again 2
    rw [← hQl2]; change Exists _
    refine ⟨_, ?hm, i + 1, ?_, ?_, ?_, ?_, rfl, ?henv, ?hstore, ?hst⟩
    case henv =>
     repeat' (first | rfl | refine env_cons ?_ ?_ | refine st_cons ?_ ?_ ?_ ?_ | refine int_eq ?_ | refine bool_eq ?_ | refine rsl_eq ?_ | refine osl_eq ?_ | refine sl_eq ?_ ?_ ?_ | refine ptr_eq ?_ ?_ ?_ | refine agg_eq ?_ | refine es_cons ?_ ?_ | refine row_cons ?_ ?_)
     all_goals (first | (simp; done) | omega | (simp; omega))
    case hstore =>
     repeat' (first | rfl | refine env_cons ?_ ?_ | refine st_cons ?_ ?_ ?_ ?_ | refine int_eq ?_ | refine bool_eq ?_ | refine rsl_eq ?_ | refine osl_eq ?_ | refine sl_eq ?_ ?_ ?_ | refine ptr_eq ?_ ?_ ?_ | refine agg_eq ?_ | refine es_cons ?_ ?_ | refine row_cons ?_ ?_)
     all_goals (rw [stP_next n i (by omega)])
    case hst =>
     first | trivial | omega | (simp; done) | (simp; omega)
    case hm => omega
  ·intro hb
   have hi : i = n := by omega
   rw [hi, stP_all]
   have htk : (rowsO (stdT n)).take (2 * n) = rowsO (stdT n) := List.take_of_length_le (by rw [rowsO_len, (stdT_sq n).len]; omega)
   refine AW.freezeK [9] [3] [2] [2] ?_
   simp only [go_sem, reduceIte, zE, htk, vwc_rowsO]
   -- exit 2
   refine AW.exit ?_
   rw [← hQl2]
   refine hK4 _ _ _ ?_; clear hK4
   refine AW.so 0 (fun ii => if ii = 1 then some (.reads false (.agg [.rsl 2 (tabR (stdT n))])) else none) [2] [2] (@h2n) ?_
   repeat with_reducible refine cj ?_ ?_
   all_goals try first | (exact hmk) | omega | exact ent (by kernel_rfl)
   -- ret 1
   rw [← hQr]
   refine AW.rt (@h2n) ?_
   exact Wk.of_eq rfl
end Go.Proofs.D

namespace Go.Proofs.D
open Go.AM Go
set_option maxRecDepth 100000
set_option maxHeartbeats 4000000
/-- The numbers of a row of the standard example, up to j. -/
def slN (n i j : Nat) : List Nat := ((List.range j).filter fun k => decide (i < n) && !decide (k = i)).map (n + ·)
theorem slN_succ (n i j : Nat) : slN n i (j + 1) = slN n i j ++ if (decide (i < n) && !decide (j = i)) = true then [n + j] else [] := by
 unfold slN
 rw [List.range_succ, List.filter_append, List.map_append]
 simp only [List.filter_cons, List.filter_nil]
 split <;> rfl
theorem slN_le (n i j : Nat) : (slN n i j).length ≤ j := by
 unfold slN; rw [List.length_map]
 have := List.length_filter_le (fun k => decide (i < n) && !decide (k = i)) (List.range j)
 simpa using this
theorem slN_row (n i : Nat) (hi : i < 2 * n) : setR (2 * n) (fun k => decide (k ∈ slN n i n)) = rowT (stdT n) i := by
 rw [stdT, rowT_tabF hi]
 refine setR_ext fun k hk => ?_
 rw [Bool.eq_iff_iff, decide_eq_true_eq]
 unfold slN stdF
 simp only [List.mem_map, List.mem_filter, List.mem_range, Bool.and_eq_true, decide_eq_true_eq, Bool.not_eq_true', decide_eq_false_iff_not]
 constructor
 ·rintro ⟨a, ⟨h1, h2, h3⟩, rfl⟩
  exact ⟨⟨h2, by omega⟩, by omega⟩
 ·rintro ⟨⟨h1, h2⟩, h3⟩
  exact ⟨k - n, ⟨by omega, h1, by omega⟩, by omega⟩
theorem std_r (n : Nat) (h1 : 1 ≤ n) (hn : n ≤ 256) : Reads Tryd.prog 26 false [.int .i64 n] (.tup [relB (stdT n), .int .i64 0]) := by
 have hof := fun (l : List Int) hl hr => of_r (2 * (n : Int)) l (by omega) (by omega) hl hr
 have hsq := stdT_sq n
 have hTl : (stdT n).length = 2 * n := hsq.len
 have h2n : ((2 : Int) * (n : Int)) = ((2 * n : Nat) : Int) := by omega
 unfold relB
 refine Reads.body (rs := [.cell 2 24, .tmp 3]) Tryd.func26 rfl Tryd.ntmps26 rfl (by simp) ?_
 generalize hQr : retQ _ _ _ = Qr
 -- block 2
 refine AW.sg [0,2] [2] trivial ?_
 refine AW.seq fun K1 hK1 => ?_
 refine AW.seq fun K2 hK2 => ?_
 refine AW.regionK 0 (fun _ => none) [0, 2, 15] [2] ?_
 simp only [go_sem, reduceIte, reduceCtorEq, zA, zM, zE, zL, zD, zS, zP, zB, zI, zR]
 repeat with_reducible refine cj ?_ ?_
 all_goals try first | omega | (intros; (repeat' apply And.intro) <;> first | assumption | omega | decide) | (intro hgd; exact absurd hgd (by decide)) | rfl | (simp only [go_sem, reduceIte, reduceCtorEq, zA, zM, zE, zL, zD, zS, zP, zB, zI, zR]; done) | (intro _hgd; simp_all [go_sem]; done)
 refine hK2 _ _ _ ?_; clear hK2
 refine AW.cn ?_ ?_
 ·intro hb
  exfalso; omega
 ·intro hb
  refine AW.skip ?_
  refine hK1 _ _ _ ?_; clear hK1
  refine AW.sg [0,2,4] [2,4] trivial ?_
  refine AW.seq fun K3 hK3 => ?_
  refine AW.sg [0,2,4,18,19] [2,4] trivial ?_
  refine AW.block ?_
  refine AW.nilCellK 4 0 0 201 2 ?_
  simp only [go_sem, reduceIte, zE]
  repeat refine cj ?_ ?_
  all_goals first | decide | skip
  refine AW.keep [0, 2, 4, 18, 19] [2, 4, 201] ?_
  simp only [go_sem, reduceIte, zE]
  refine AW.loopE (fun mm ee ss kk => ∃ (i g2 v2 g4 v4 g v : Nat), 2 * n - i = mm ∧ ee = [(0, .int .i64 n), (2, .ptr ⟨2, g2, none⟩ 0 0), (4, .ptr ⟨4, g4, none⟩ 0 0), (18, .int .i64 (2 * (n : Int))), (19, .int .i64 (i : Nat))] ∧ ss = [(2, some ⟨g2, v2, 1, [[.nilsl]]⟩), (4, some ⟨g4, v4, 1, [[.sl ⟨201, g, none⟩ 0 i none]]⟩), (201, some ⟨g, v, 2, tabR ((stdT n).take i)⟩)] ∧ (i ≤ 2 * n)) ?_ ?_
  -- init 1
  ·exact ⟨_, 0, _, _, _, _, _, _, rfl, eD, eD, eT⟩
  rintro mm ee ss kk ⟨i, g2, v2, g4, v4, g, v, rfl, rfl, rfl, hI⟩
  generalize hQl1 : thenQ _ _ = Ql1
  refine AW.sg [0,2,4,18,19,20] [2,4,201] trivial ?_
  refine AW.seq fun K4 hK4 => ?_
  refine AW.cn ?_ ?_
  ·intro hb
   have hin : i < 2 * n := by omega
   have hTi := slN_row n i hin
   have htT : (stdT n).take (i + 1) = (stdT n).take i ++ [rowT (stdT n) i] := take_succT (by omega)
   rw [← hTi] at htT
   generalize hTT : (stdT n).take i = T at *
   have hTlen : T.length = i := by rw [← hTT]; simp; omega
   refine AW.skip ?_
   refine hK4 _ _ _ ?_; clear hK4
   refine AW.seq fun K5 hK5 => ?_
   refine AW.block ?_
   refine AW.sg [0,2,4,5,18,19] [2,4,201] trivial ?_
   refine AW.sg [0,2,4,5,6,18,19] [2,4,201] trivial ?_
   refine AW.nilOwn 6 202 1 rfl ?_
   refine AW.keep [0, 2, 4, 5, 6, 18, 19] [2, 4, 201, 202] ?_
   simp only [go_sem, reduceIte, zE]
   refine AW.seq fun K6 hK6 => ?_
   refine AW.sg [0,2,4,5,6,18,19,22,23] [2,4,201,202] trivial ?_
   refine AW.block ?_
   refine AW.loopE (fun mm ee ss kk => ∃ (j g2 v2 g4 v4 g v gs vs : Nat), n - j = mm ∧ ee = [(0, .int .i64 n), (2, .ptr ⟨2, g2, none⟩ 0 0), (4, .ptr ⟨4, g4, none⟩ 0 0), (5, .int .i64 (i : Nat)), (6, .sl ⟨202, gs, none⟩ 0 (slN n i j).length none), (18, .int .i64 (2 * (n : Int))), (19, .int .i64 (i : Nat)), (22, .int .i64 n), (23, .int .i64 (j : Nat))] ∧ ss = [(2, some ⟨g2, v2, 1, [[.nilsl]]⟩), (4, some ⟨g4, v4, 1, [[.sl ⟨201, g, none⟩ 0 i none]]⟩), (201, some ⟨g, v, 2, tabR T⟩), (202, some ⟨gs, vs, 1, ints ((slN n i j).map fun k : Nat => (k : Int))⟩)] ∧ (j ≤ n)) ?_ ?_
   -- init 2
   ·exact ⟨_, 0, _, _, _, _, _, _, _, _, rfl, eD, eD, eT⟩
   rintro mm ee ss kk ⟨j, g2, v2, g4, v4, g, v, gs, vs, rfl, rfl, rfl, hI⟩
   generalize hQl2 : thenQ _ _ = Ql2
   have hfl := slN_le n i j
   refine AW.sg [0,2,4,5,6,18,19,22,23,24] [2,4,201,202] trivial ?_
   refine AW.seq fun K7 hK7 => ?_
   refine AW.cn ?_ ?_
   ·intro hb
    have hjn : j < n := by omega
    have hrs := slN_succ n i j
    have hij : decide ((j : Int) = (i : Int)) = decide (j = i) := decide_eq_decide.2 (by omega)
    have hin3 : decide ((i : Int) < (n : Int)) = decide (i < n) := decide_eq_decide.2 (by omega)
    have hft : (ints ((slN n i j).map fun k : Nat => (k : Int))).take (slN n i j).length = ints ((slN n i j).map fun k : Nat => (k : Int)) := List.take_of_length_le (by rw [ints_len, List.length_map]; omega)
    have hnj : (n : Int) + (j : Int) = ((n + j : Nat) : Int) := by omega
    generalize hB : (decide (i < n) && !decide (j = i)) = B at *
    refine AW.skip ?_
    refine hK7 _ _ _ ?_; clear hK7
    refine AW.seq fun K8 hK8 => ?_
    refine AW.block ?_
    refine AW.sg [0,2,4,5,6,7,18,19,22,23] [2,4,201,202] trivial ?_
    refine AW.seq fun K9 hK9 => ?_
    refine AW.regionK 0 (fun _ => none) [0, 2, 4, 5, 6, 7, 18, 19, 22, 23, 33] [2, 4, 201, 202] ?_
    simp only [go_sem, reduceIte, reduceCtorEq, zA, zM, zE, zL, zD, zS, zP, zB, zI, zR, hij, hin3, hB]
    repeat with_reducible refine cj ?_ ?_
    all_goals try first | omega | (intros; (repeat' apply And.intro) <;> first | assumption | omega | decide) | (intro hgd; exact absurd hgd (by decide)) | rfl | (simp only [go_sem, reduceIte, reduceCtorEq, zA, zM, zE, zL, zD, zS, zP, zB, zI, zR, hij, hin3, hB]; done) | (intro _hgd; simp_all [go_sem]; done)
    refine hK9 _ _ _ ?_; clear hK9
    have hJ4 : ∀ (gj vj : Nat) (kk : Nat), K8 [(0, .int .i64 n), (2, .ptr ⟨2, g2, none⟩ 0 0), (4, .ptr ⟨4, g4, none⟩ 0 0), (5, .int .i64 (i : Nat)), (6, .sl ⟨202, gj, none⟩ 0 (slN n i (j + 1)).length none), (18, .int .i64 (2 * (n : Int))), (19, .int .i64 (i : Nat)), (22, .int .i64 n), (23, .int .i64 (j : Nat))] [(2, some ⟨g2, v2, 1, [[.nilsl]]⟩), (4, some ⟨g4, v4, 1, [[.sl ⟨201, g, none⟩ 0 i none]]⟩), (201, some ⟨g, v, 2, tabR T⟩), (202, some ⟨gj, vj, 1, ints ((slN n i (j + 1)).map fun k : Nat => (k : Int))⟩)] kk := by
     intro gj vj kk
     refine hK8 _ _ _ ?_; clear hK8
     refine AW.rg [0,2,4,5,6,18,19,22,23] [2,4,201,202] trivial ?_
     -- again 2
     rw [← hQl2]; change Exists _
     exact ⟨_, eO, j + 1, _, _, _, _, _, _, _, _, rfl, eD, eD, eT⟩
    refine AW.cn ?_ ?_
    ·intro hb
     rw [hb, if_pos rfl] at hrs
     simp only [hrs, List.length_append, List.length_cons, List.length_nil, Nat.zero_add, List.map_append, List.map_cons, List.map_nil] at hJ4
     refine AW.regionK 0 (fun _ => none) [0, 2, 4, 5, 6, 18, 19, 22, 23] [2, 4, 201, 202] ?_
     simp only [go_sem, reduceIte, reduceCtorEq, zA, zM, zE, zL, zD, zS, zP, zB, zI, zR, hft, hnj, ints_app]
     repeat with_reducible refine cj ?_ ?_
     all_goals try first | omega | (simp [scP, scalar]; done) | exact scP_words _ | exact scP_ints _ | exact scP_bools _
     exact hJ4 _ _ _
    ·intro hb
     rw [hb, if_neg (by simp), List.append_nil] at hrs
     simp only [hrs] at hJ4
     refine AW.kp [0,2,4,5,6,18,19,22,23] [2,4,201,202] ?_
     refine AW.skip ?_
     exact hJ4 _ _ _
   ·intro hb
    have hjn : j = n := by omega
    rw [hjn] at hfl ⊢
    have hft : (ints ((slN n i n).map fun k : Nat => (k : Int))).take (slN n i n).length = ints ((slN n i n).map fun k : Nat => (k : Int)) := List.take_of_length_le (by rw [ints_len, List.length_map]; omega)
    have hft2 : ((slN n i n).map fun k : Nat => (k : Int)).take (slN n i n).length = (slN n i n).map fun k : Nat => (k : Int) := List.take_of_length_le (by rw [List.length_map]; omega)
    have hin2 : ∀ y ∈ (slN n i n).map (fun k : Nat => (k : Int)), 0 ≤ y ∧ y < ((2 * n : Nat) : Int) := fun y hy => by
     obtain ⟨k, hk, rfl⟩ := List.mem_map.1 hy
     unfold slN at hk
     simp only [List.mem_map, List.mem_filter, List.mem_range] at hk
     omega
    have hofi := hof ((slN n i n).map fun k : Nat => (k : Int)) (by rw [List.length_map]; omega) (by rw [h2n]; exact hin2)
    rw [h2n, ofW_row hin2, rowL_nats] at hofi
    rw [← h2n] at hofi
    have hrl := setR_len (2 * n) (fun k => decide (k ∈ slN n i n))
    generalize hRR : setR (2 * n) (fun k => decide (k ∈ slN n i n)) = R at *
    have htr : (tabR T).take i = tabR T := List.take_of_length_le (by rw [tabR_len]; omega)
    have har : tabR T ++ [[.int .i64 (2 * (n : Int)), .rsl 1 (words (setW R (2 * n)))]] = tabR (T ++ [R]) := by rw [h2n]; simp [tabR, rowB, hrl]
    have htl2 := tabR_len T
    -- exit 2
    refine AW.kx [0,2,4,6,18,19] [2,4,201,202] ?_
    rw [← hQl2]
    refine hK6 _ _ _ ?_; clear hK6
    refine AW.so 0 (fun ii => if ii = 3 then some (.reads true (.tup [.agg [.int .i64 (2 * (n : Int)), .rsl 1 (words (setW R (2 * n)))], .int .i64 0])) else none) [0,2,4,8,9,18,19] [2,4,8,201] (e2 @hft @hft2) ?_
    repeat with_reducible refine cj ?_ ?_
    all_goals try first | (exact hofi) | omega | exact ent (by kernel_rfl)
    refine AW.seq fun K10 hK10 => ?_
    refine AW.sg [0,2,4,8,9,18,19,49] [2,4,8,201] trivial ?_
    refine AW.cn ?_ ?_
    ·intro hb
     exfalso; simp at hb
    ·intro hb
     refine AW.skip ?_
     refine hK10 _ _ _ ?_; clear hK10
     refine AW.regionK 0 (fun _ => none) [0, 2, 4, 18, 19] [2, 4, 201] ?_
     simp only [go_sem, reduceIte, reduceCtorEq, zA, zM, zE, zL, zD, zS, zP, zB, zI, zR, htr, har]
     repeat with_reducible refine cj ?_ ?_
     all_goals try first | omega | (simp [scP, scalar]; done) | exact scP_words _ | exact scP_ints _ | exact scP_bools _
     refine hK5 _ _ _ ?_; clear hK5
     refine AW.rg [0,2,4,18,19] [2,4,201] trivial ?_
     -- again 1
     rw [← hQl1]; change Exists _
     refine ⟨_, ?hm, i + 1, ?_, ?_, ?_, ?_, ?_, ?_, rfl, ?henv, ?hstore, ?hst⟩
     case henv =>
      repeat' (first | rfl | refine env_cons ?_ ?_ | refine st_cons ?_ ?_ ?_ ?_ | refine int_eq ?_ | refine bool_eq ?_ | refine rsl_eq ?_ | refine osl_eq ?_ | refine sl_eq ?_ ?_ ?_ | refine ptr_eq ?_ ?_ ?_ | refine agg_eq ?_ | refine es_cons ?_ ?_ | refine row_cons ?_ ?_)
      all_goals (first | (simp; done) | omega | (simp; omega))
     case hstore =>
      repeat' (first | rfl | refine env_cons ?_ ?_ | refine st_cons ?_ ?_ ?_ ?_ | refine int_eq ?_ | refine bool_eq ?_ | refine rsl_eq ?_ | refine osl_eq ?_ | refine sl_eq ?_ ?_ ?_ | refine ptr_eq ?_ ?_ ?_ | refine agg_eq ?_ | refine es_cons ?_ ?_ | refine row_cons ?_ ?_)
      all_goals (rw [htT])
     case hst =>
      first | trivial | omega | (simp; done) | (simp; omega)
     case hm => omega
  ·intro hb
   have hin : i = 2 * n := by omega
   rw [hin, List.take_of_length_le (by omega)]
   have htT : (tabR (stdT n)).take (2 * n) = tabR (stdT n) := List.take_of_length_le (by rw [tabR_len]; omega)
   -- exit 0
   refine AW.kx [2,4] [2,4,201] ?_
   rw [← hQl1]
   refine hK3 _ _ _ ?_; clear hK3
   refine AW.sg [2,3] [2,201] trivial ?_
   -- ret 3
   rw [← hQr]
   refine AW.rt trivial ?_
   exact Wk.of_eq (by rw [htT, vwc_tabR])
end Go.Proofs.D

namespace Go.Proofs.D
open Go.AM Go
set_option maxRecDepth 100000
set_option maxHeartbeats 4000000
theorem eqpairs_r (a b : List (Int × Int)) (hla : a.length ≤ 9223372036854775807) : Reads Tryd.prog 16 false [.rsl 2 (a.map pairV), .rsl 2 (b.map pairV)] (.bool (decide (a = b))) := by
 refine Reads.body (rs := [.tmp 4]) Tryd.func16 rfl Tryd.ntmps16 rfl (by simp) ?_
 generalize hQr : retQ _ _ _ = Qr
 -- block 1
 refine AW.sg [0,1] [] trivial ?_
 refine AW.seq fun K1 hK1 => ?_
 refine AW.sg [0,1,10] [] trivial ?_
 refine AW.cn ?_ ?_
 ·intro hb
  rw [← Ne, Ne, Int.natCast_inj] at hb
  refine AW.sg [4] [] trivial ?_
  -- ret 1
  rw [← hQr]
  refine AW.rt trivial ?_
  exact Wk.of_eq (by rw [decide_eq_false]; rintro rfl; exact hb rfl)
 ·intro hb
  have hlen : a.length = b.length := by omega
  refine AW.skip ?_
  refine hK1 _ _ _ ?_; clear hK1
  refine AW.seq fun K2 hK2 => ?_
  refine AW.sg [0,1,12,13] [] trivial ?_
  refine AW.block ?_
  refine AW.loopE (fun mm ee ss kk => ∃ (j : Nat), a.length - j = mm ∧ ee = [(0, .rsl 2 (a.map pairV)), (1, .rsl 2 (b.map pairV)), (12, .int .i64 a.length), (13, .int .i64 (j : Nat))] ∧ ss = [] ∧ (j ≤ a.length ∧ a.take j = b.take j)) ?_ ?_
  -- init 1
  ·exact ⟨_, 0, rfl, eD, eD, eT⟩
  rintro mm ee ss kk ⟨j, rfl, rfl, rfl, hI⟩
  generalize hQl1 : thenQ _ _ = Ql1
  obtain ⟨hj, hall⟩ := hI
  refine AW.sg [0,1,12,13,14] [] trivial ?_
  refine AW.seq fun K3 hK3 => ?_
  refine AW.cn ?_ ?_
  ·intro hb
   obtain ⟨x, hx⟩ := getI (l := a) (j := j) (by omega)
   obtain ⟨y, hy⟩ := getI (l := b) (j := j) (by omega)
   have hgx := getV (f := pairV) hx
   have hgy := getV (f := pairV) hy
   refine AW.skip ?_
   refine hK3 _ _ _ ?_; clear hK3
   refine AW.seq fun K4 hK4 => ?_
   refine AW.block ?_
   refine AW.sg [0,1,5,12,13] [] trivial ?_
   refine AW.sd mixed 0 (fun _ => none) [0,1,12,13,24] [] (e3 @hgx @hgy @pairV.eq_1) ?_
   refine AW.cn ?_ ?_
   ·intro hb
    refine AW.sg [4] [] trivial ?_
    -- ret 2
    rw [← hQl1, ← hQr]
    refine AW.rt trivial ?_
    have hne : x ≠ y := by rintro rfl; simp at hb
    exact Wk.of_eq (by rw [decide_eq_false (eqB_ne hx hy hne)])
   ·intro hb
    have hxy : x = y := by obtain ⟨x1, x2⟩ := x; obtain ⟨y1, y2⟩ := y; simp at hb ⊢; omega
    subst hxy
    refine AW.skip ?_
    refine hK4 _ _ _ ?_; clear hK4
    refine AW.rg [0,1,12,13] [] trivial ?_
    -- again 1
    rw [← hQl1]; change Exists _
    exact ⟨_, eO, j + 1, rfl, eD, eD, (⟨by omega, take_succ_eqA hx hy hall⟩)⟩
  ·intro hb
   -- exit 0
   refine AW.kx [] [] ?_
   rw [← hQl1]
   refine hK2 _ _ _ ?_; clear hK2
   refine AW.sg [4] [] trivial ?_
   -- ret 3
   rw [← hQr]
   refine AW.rt trivial ?_
   exact Wk.of_eq (by rw [List.take_of_length_le (by omega), List.take_of_length_le (by omega)] at hall; rw [decide_eq_true hall])
end Go.Proofs.D

namespace Go.Proofs.D
open Go.AM Go
set_option maxRecDepth 100000
set_option maxHeartbeats 4000000
def t2 : List (List Bool) := [[false, false], [false, false]]
theorem t2_std : stdT 1 = t2 := by decide +kernel
theorem t2_sq : Sq 2 t2 := ⟨rfl, by decide⟩
theorem t2_po : poB 2 t2 = true := by decide +kernel
theorem t2_crit : critT 2 t2 = [(0, 1), (1, 0)] := by decide +kernel
theorem t2_dim : (dealtT 2 t2).length = 2 := by decide +kernel
theorem t2_rlz : rlzB 2 t2 [[0, 1], [1, 0]] = true := by decide +kernel
theorem t2_not : rlzB 2 t2 [[0, 1]] = false := by decide +kernel
theorem t2_tab : tabR t2 = [[.int .i64 2, .rsl 1 [[.int .u64 0]]], [.int .i64 2, .rsl 1 [[.int .u64 0]]]] := by
 have h0 : setW [false, false] 2 = [0] := by decide +kernel
 simp [tabR, t2, rowB, h0, words]
theorem awake_r : Reads Tryd.prog 10 false [] (.bool true) := by
 have hs1 := std_r 1 (by decide) (by decide)
 have hs2 := rstd_r 1 (by decide)
 have hsm := same_g 2 t2 t2_sq (by decide)
 have hc := crit_g 2 t2 t2_sq (by decide) t2_po
 have hd := dim_g 2 t2 t2_sq (by decide) t2_po
 have he := Reads.flat (eqpairs_r [(0, 1), (1, 0)] [(0, 1), (1, 0)] (by decide)) rfl
 have hr1 := Reads.flat (realizes_g 2 t2 t2_sq (by decide) t2_po [[0, 1], [1, 0]] (by decide) (by decide)) rfl
 have hr2 := Reads.flat (realizes_g 2 t2 t2_sq (by decide) t2_po [[0, 1]] (by decide) (by decide)) rfl
 rw [t2_std] at hs1 hs2
 rw [t2_crit] at hc
 rw [t2_dim] at hd
 rw [t2_rlz] at hr1
 rw [t2_not] at hr2
 unfold relB at *
 rw [t2_tab] at *
 simp only [ints, lisR, prs, natP, pairV, List.map_cons, List.map_nil, decide_true] at *
 refine Reads.body (rs := [.tmp 0]) Tryd.func10 rfl Tryd.ntmps10 rfl (by simp) ?_
 generalize hQr : retQ _ _ _ = Qr
 -- block 1
 refine AW.sg [] [] trivial ?_
 refine AW.so 0 (fun ii => if ii = 0 then some (.reads false (.tup [.agg [.rsl 2 [[.int .i64 2, .rsl 1 [[.int .u64 0]]], [.int .i64 2, .rsl 1 [[.int .u64 0]]]]], .int .i64 0])) else none) [1,2] [1] trivial ?_
 repeat with_reducible refine cj ?_ ?_
 all_goals try first | (exact hs1) | omega | exact ent (by kernel_rfl)
 refine AW.seq fun K1 hK1 => ?_
 refine AW.sd mixed 0 (fun ii => if ii = 4 then some (.reads false (.agg [.rsl 2 [[.int .i64 2, .rsl 1 [[.int .u64 0]]], [.int .i64 2, .rsl 1 [[.int .u64 0]]]]])) else if ii = 5 then some (.reads false (.bool true)) else none) [1,18] [1] trivial ?_
 repeat with_reducible refine cj ?_ ?_
 all_goals try first | (first | exact hs2 | exact hsm | (intro hh; exact ⟨hh, hs2⟩) | (intro hh; exact ⟨hh, hsm⟩) | exact fun _ => hs2 | exact fun _ => hsm) | (intros; (repeat' apply And.intro) <;> first | assumption | (first | exact hs2 | exact hsm | (intro hh; exact ⟨hh, hs2⟩) | (intro hh; exact ⟨hh, hsm⟩) | exact fun _ => hs2 | exact fun _ => hsm)) | omega | exact chk (by kernel_rfl) | exact ent (by kernel_rfl) | (intro hgd; exact absurd hgd (by decide)) | rfl | exact gD | (intro _hgd; simp_all [go_sem]; done)
 refine AW.cn ?_ ?_
 ·intro hb
  simp at hb
 ·intro hb
  refine AW.skip ?_
  refine hK1 _ _ _ ?_; clear hK1
  refine AW.so 0 (fun ii => if ii = 1 then some (.reads false (.tup [.rsl 2 [[.int .i64 ((0 : Nat) : Int), .int .i64 ((1 : Nat) : Int)], [.int .i64 ((1 : Nat) : Int), .int .i64 ((0 : Nat) : Int)]], .int .i64 ((0 : Nat) : Int)])) else none) [1,3,4] [1] trivial ?_
  repeat with_reducible refine cj ?_ ?_
  all_goals try first | (exact hc) | omega | exact ent (by kernel_rfl)
  refine AW.so 0 (fun ii => if ii = 1 then some (.reads false (.tup [.int .i64 ((2 : Nat) : Int), .int .i64 ((0 : Nat) : Int)])) else none) [1,3,4,5,6] [1] trivial ?_
  repeat with_reducible refine cj ?_ ?_
  all_goals try first | (exact hd) | omega | exact ent (by kernel_rfl)
  refine AW.so 0 (fun ii => if ii = 7 then some (.reads true (.bool true)) else if ii = 22 then some (.reads true (.bool true)) else if ii = 28 then some (.reads true (.bool false)) else none) [0] [] trivial ?_
  repeat with_reducible refine cj ?_ ?_
  all_goals try first | (first | exact he | exact hr1 | exact hr2 | exact fun _ => he | exact fun _ => hr1 | exact fun _ => hr2) | (intros; (repeat' apply And.intro) <;> first | assumption | (first | exact he | exact hr1 | exact hr2 | exact fun _ => he | exact fun _ => hr1 | exact fun _ => hr2)) | omega | exact ent (by kernel_rfl) | (intro hgd; exact absurd hgd (by decide)) | rfl | exact gD | (intro _hgd; simp_all [go_sem]; done)
  -- ret 2
  rw [← hQr]
  refine AW.rt trivial ?_
  exact Wk.of_eq (by simp)
end Go.Proofs.D

namespace Go.Proofs.D
open Go.AM Go
set_option maxRecDepth 100000
set_option maxHeartbeats 4000000
/-- What is no order is refused by both. -/
theorem bad_valid (rs : List USet) (hl : longR rs) (hsm : greatB rs = false) (hok : ∀ x ∈ rs, okW x.W) (hb : BadP rs) : Reads Tryd.prog 40 false [relV rs] (.bool false) ∧ Reads Tryd.prog 15 false [relV rs] (.bool false) := by
 obtain ⟨h20, hw⟩ := great_f hsm
 rcases hb with hv | ⟨t, ht, hs, hn, hp⟩
 ·exact ⟨pvalid_e rs hl hv, poset_e rs hl.1 (fun x hx => by have := hw x hx; omega) hok hv⟩
 ·have h1 := pvalid_g _ t hs hn
  have h2 := poset_g _ t hs hn
  rw [hp, relB_SB, ← ht] at h1 h2
  exact ⟨h1, h2⟩
end Go.Proofs.D

/- The reference's reversal: step by step the least element that is free. -/
namespace Go.AM
theorem OrdI.acyc {n : Nat} {u : List (List Bool)} (hs : Sq n u) {r : List Nat} (h : OrdI n u r) (hl : r.length = n) : AM.acyc n u = true := by
  have hE := natL_each hl h.nd h.rng
  refine acyc_iff.2 fun i hi => Bool.eq_false_iff.2 fun hw => ?_
  have := warsh_least hs (S := fun i j => bfA n i j (natL r) = true) (fun i j hi hj hij => ?_) (fun i k j _ _ _ h1 h2 => bfA_trans h1 h2) hi hi hw
  · rw [bfA_irr] at this; cases this
  · obtain ⟨k, hk, he⟩ := hE.has hj
    have hkl : k < r.length := by omega
    rw [natL_get hkl] at he
    have hjk : r[k]? = some j := by rw [List.getElem?_eq_getElem hkl]; congr 1; omega
    obtain ⟨p, hp1, hp2⟩ := h.top k j i hjk hi hij
    unfold bfA
    rw [natL_ref hl h.nd h.rng hjk, natL_ref hl h.nd h.rng hp2]
    exact decide_eq_true (by omega)
end Go.AM

namespace Go.Proofs.D
open Go.AM Go
set_option maxRecDepth 100000
set_option maxHeartbeats 4000000
end Go.Proofs.D

namespace Go.Proofs.D
open Go.AM Go
set_option maxRecDepth 100000
set_option maxHeartbeats 4000000
end Go.Proofs.D

namespace Go.Proofs.D
open Go.AM Go
set_option maxRecDepth 100000
set_option maxHeartbeats 4000000
end Go.Proofs.D

/- The reference's deal, with the classes that it leaves. -/
namespace Go.AM
/-- What is dealt are pairs in range, few in each class. -/
structure RqOk (n i : Nat) (cs : List (List (Nat × Nat))) : Prop where
  rng : ∀ k, ∀ x ∈ cs.getD k [], x.1 < n ∧ x.2 < n
  le : ∀ k, (cs.getD k []).length ≤ i
theorem RqOk.step {n i : Nat} {cs : List (List (Nat × Nat))} (h : RqOk n i cs) {x : Nat × Nat} (hx : x.1 < n ∧ x.2 < n) {c : Nat} (hc : c < cs.length) : RqOk n (i + 1) (cs.set c (cs.getD c [] ++ [x])) := by
  refine ⟨fun k y hy => ?_, fun k => ?_⟩
  · by_cases e : c = k
    · subst e
      rw [getD_set_eq hc] at hy
      rcases List.mem_append.1 hy with hy | hy
      · exact h.rng c y hy
      · rw [List.mem_singleton.1 hy]; exact hx
    · rw [getD_set_ne e] at hy; exact h.rng k y hy
  · by_cases e : c = k
    · subst e
      rw [getD_set_eq hc]
      have := h.le c
      simp only [List.length_append, List.length_singleton]; omega
    · rw [getD_set_ne e]; have := h.le k; omega
theorem RqOk.rep (n t : Nat) : RqOk n 0 (List.replicate t []) := by
  have h : ∀ k, (List.replicate t ([] : List (Nat × Nat))).getD k [] = [] := fun k => by
    rw [List.getD_eq_getElem?_getD, List.getElem?_replicate]; split <;> rfl
  exact ⟨fun k x hx => by rw [h k] at hx; simp at hx, fun k => by rw [h k]; simp⟩
end Go.AM

/- A root whose cells hold nil slices: the cells may be read as empty slices. -/
namespace Go.AM
end Go.AM

namespace Go.Proofs.D
open Go.AM Go
set_option maxRecDepth 100000
set_option maxHeartbeats 4000000
end Go.Proofs.D

namespace Go.Proofs.D
open Go.AM Go
set_option maxRecDepth 100000
set_option maxHeartbeats 4000000
end Go.Proofs.D

namespace Go.Proofs.D
open Go.AM Go
set_option maxRecDepth 100000
set_option maxHeartbeats 4000000
end Go.Proofs.D

namespace Go.Proofs.D
open Go.AM Go
set_option maxRecDepth 100000
set_option maxHeartbeats 4000000
end Go.Proofs.D

/- The critical pairs that a list turns round can be turned round together, by a list that does not come after it. -/
namespace Go.AM
theorem acyc_of_bf {n : Nat} {u : List (List Bool)} (hs : Sq n u) {l : List Int} (h : ∀ i j, i < n → j < n → atT u i j = true → bfA n i j l = true) : acyc n u = true := by
  refine acyc_iff.2 fun i hi => Bool.eq_false_iff.2 fun hw => ?_
  have := warsh_least hs (S := fun i j => bfA n i j l = true) (fun i j hi hj hij => h i j hi hj hij) (fun i k j _ _ _ h1 h2 => bfA_trans h1 h2) hi hi hw
  rw [bfA_irr] at this; cases this
end Go.AM

namespace Go.Proofs.D
open Go.AM Go
set_option maxRecDepth 100000
set_option maxHeartbeats 4000000
end Go.Proofs.D

/- The dimension as the least number of ranks that tell an order. -/
namespace Go.AM
structure PoD (lt : Nat → Nat → Bool) (D : Nat → Prop) : Prop where
  irr : ∀ i, D i → lt i i = false
  trans : ∀ i j k, D i → D j → D k → lt i j = true → lt j k = true → lt i k = true
structure RkOk (lt : Nat → Nat → Bool) (D : Nat → Prop) (r : Nat → Nat) : Prop where
  up : ∀ i j, D i → D j → lt i j = true → r i < r j
  inj : ∀ i j, D i → D j → i ≠ j → r i ≠ r j
structure IsDim (lt : Nat → Nat → Bool) (D : Nat → Prop) (rs : List (Nat → Nat)) : Prop where
  ne : rs ≠ []
  ok : ∀ r ∈ rs, RkOk lt D r
  rev : ∀ i j, D i → D j → i ≠ j → lt i j = false → ∃ r ∈ rs, r j < r i
def DimLe (lt : Nat → Nat → Bool) (D : Nat → Prop) (m : Nat) : Prop := ∃ rs, IsDim lt D rs ∧ rs.length = m
theorem IsDim.sub {lt : Nat → Nat → Bool} {D D' : Nat → Prop} {rs : List (Nat → Nat)} (h : IsDim lt D rs) (hd : ∀ i, D' i → D i) : IsDim lt D' rs :=
  ⟨h.ne, fun r hr => ⟨fun i j hi hj => (h.ok r hr).up i j (hd i hi) (hd j hj), fun i j hi hj => (h.ok r hr).inj i j (hd i hi) (hd j hj)⟩, fun i j hi hj => h.rev i j (hd i hi) (hd j hj)⟩
theorem DimLe.sub {lt : Nat → Nat → Bool} {D D' : Nat → Prop} {m : Nat} (h : DimLe lt D m) (hd : ∀ i, D' i → D i) : DimLe lt D' m := by
  obtain ⟨rs, h1, h2⟩ := h
  exact ⟨rs, h1.sub hd, h2⟩
theorem DimLe.succ {lt : Nat → Nat → Bool} {D : Nat → Prop} {m : Nat} (h : DimLe lt D m) : DimLe lt D (m + 1) := by
  obtain ⟨rs, h1, h2⟩ := h
  obtain ⟨r, hr⟩ := List.exists_mem_of_ne_nil _ h1.ne
  refine ⟨r :: rs, ⟨by simp, fun s hs => ?_, fun i j hi hj hij hl => ?_⟩, by simp [h2]⟩
  · rcases List.mem_cons.1 hs with rfl | hs
    · exact h1.ok _ hr
    · exact h1.ok s hs
  · obtain ⟨s, hs, hb⟩ := h1.rev i j hi hj hij hl
    exact ⟨s, List.mem_cons_of_mem _ hs, hb⟩
theorem DimLe.mono {lt : Nat → Nat → Bool} {D : Nat → Prop} {m : Nat} (h : DimLe lt D m) : ∀ {k : Nat}, m ≤ k → DimLe lt D k := by
  intro k hk
  induction k with
  | zero => obtain rfl : m = 0 := by omega
            exact h
  | succ k ih =>
    by_cases e : m = k + 1
    · exact e ▸ h
    · exact (ih (by omega)).succ
/-! ### From ranks to lists, and back. -/
def rkT (n : Nat) (r : Nat → Nat) : List (List Bool) := tabF n fun i j => decide (r i < r j)
theorem rkT_acyc (n : Nat) (r : Nat → Nat) : acyc n (rkT n r) = true := by
  refine acyc_iff.2 fun i hi => Bool.eq_false_iff.2 fun hw => ?_
  have := warsh_least (tabF_sq n _) (S := fun i j => r i < r j) (fun i j hi hj h => by rw [atT_tabF hi hj] at h; exact of_decide_eq_true h) (fun i k j _ _ _ h1 h2 => Nat.lt_trans h1 h2) hi hi hw
  exact Nat.lt_irrefl _ this
def rkL (n : Nat) (r : Nat → Nat) : List Int := natL (ordO n (rkT n r) n [])
theorem rkL_ok (n : Nat) (r : Nat → Nat) : IsEach n (rkL n r) ∧ ∀ i j, i < n → j < n → r i < r j → bfA n i j (rkL n r) = true := by
  obtain ⟨h1, h2⟩ := ordO_each (tabF_sq n _) (rkT_acyc n r)
  exact ⟨h1, fun i j hi hj h => h2 i j hi hj (by rw [atT_tabF hi hj]; exact decide_eq_true h)⟩
theorem IsDim.lists {n : Nat} {t : List (List Bool)} (hp : IsPo n t) {rs : List (Nat → Nat)} (h : IsDim (atT t) (· < n) rs) : IsRlz n t (rs.map (rkL n)) := by
  refine ⟨by simpa using h.ne, fun l hl => ?_, fun i j hi hj hij ha => ?_⟩
  · obtain ⟨r, hr, rfl⟩ := List.mem_map.1 hl
    obtain ⟨hE, hb⟩ := rkL_ok n r
    exact (extB_bf hp).2 ⟨hE, fun i j hi hj ha => hb i j hi hj ((h.ok r hr).up i j hi hj ha)⟩
  · obtain ⟨r, hr, hb⟩ := h.rev i j hi hj hij ha
    exact ⟨rkL n r, List.mem_map_of_mem hr, (rkL_ok n r).2 j i hj hi hb⟩
def lsR (n : Nat) (l : List Int) (i : Nat) : Nat := (refA l (i : Nat) n).toNat
theorem lsR_lt {n : Nat} {l : List Int} (hE : IsEach n l) {i j : Nat} (hi : i < n) (hj : j < n) : (lsR n l i < lsR n l j) ↔ bfA n i j l = true := by
  obtain ⟨k, hk, he⟩ := hE.has hi
  obtain ⟨m, hm, hf⟩ := hE.has hj
  unfold lsR bfA
  rw [refA_at hE he n (Nat.le_refl _) hk, refA_at hE hf n (Nat.le_refl _) hm, decide_eq_true_eq]
  omega
theorem IsRlz.ranks {n : Nat} {t : List (List Bool)} (hp : IsPo n t) {ls : List (List Int)} (h : IsRlz n t ls) : IsDim (atT t) (· < n) (ls.map (lsR n)) := by
  refine ⟨by simpa using h.ne, fun r hr => ?_, fun i j hi hj hij ha => ?_⟩
  · obtain ⟨l, hl, rfl⟩ := List.mem_map.1 hr
    obtain ⟨hE, hb⟩ := (extB_bf hp).1 (h.ext l hl)
    refine ⟨fun i j hi hj ha => (lsR_lt hE hi hj).2 (hb i j hi hj ha), fun i j hi hj hij e => ?_⟩
    have h1 : ¬ lsR n l i < lsR n l j := by omega
    have h2 : ¬ lsR n l j < lsR n l i := by omega
    rw [lsR_lt hE hi hj] at h1
    rw [lsR_lt hE hj hi] at h2
    rw [bfA_or hE hi hj hij] at h2
    cases e : bfA n i j l with
    | true => exact h1 e
    | false => rw [e] at h2; exact h2 rfl
  · obtain ⟨l, hl, hb⟩ := h.rev i j hi hj hij ha
    obtain ⟨hE, _⟩ := (extB_bf hp).1 (h.ext l hl)
    exact ⟨lsR n l, List.mem_map_of_mem hl, (lsR_lt hE hj hi).2 hb⟩
/-! ### The search finds as few classes as there are. -/
theorem deal_col {n : Nat} {t : List (List Bool)} (hs : Sq n t) (hp : IsPo n t) (hn : n ≤ 8) {P : List (Nat × Nat)} (hP : ∀ x ∈ P, x.1 < n ∧ x.2 < n ∧ leT t x.1 x.2 = false) {m : Nat} (col : Nat × Nat → Nat) (L : Nat → List Int)
    (hL : ∀ c, c < m → extB n (belL n t) (L c) = true) (hc : ∀ x ∈ P, col x < m ∧ bfA n x.2 x.1 (L (col x)) = true) :
    ∀ (ps : List (Nat × Nat)) (i : Nat) (cl : List (List Nat)) (de : List (List (Nat × Nat))) (s : List Nat), P.drop i = ps → SI n t P i cl de → s.length = de.length → s.Nodup → (∀ c ∈ s, c < m) → (∀ k, k < de.length → ∀ x ∈ de.getD k [], col x = s.getD k 0) → (dealP m (startT n t) ps cl de).isSome = true
  | [], _, _, _, _, _, _, _, _, _, _ => rfl
  | x :: ps, i, cl, de, s, hd, hI, hsl, hnd, hsm, hco => by
    have hx : P[i]? = some x := by
      have := congrArg (fun l => l[0]?) hd
      simpa using this
    have hps : P.drop (i + 1) = ps := by
      have := congrArg List.tail hd
      simpa using this
    have hxP := List.mem_of_getElem? hx
    obtain ⟨h1, h2, h3⟩ := hP x hxP
    obtain ⟨hcm, hcb⟩ := hc x hxP
    have hl := hI.len
    rw [dealP]
    rcases Classical.em (col x ∈ s) with hmem | hmem
    · -- its class is there
      obtain ⟨k, hk, hke⟩ := mem_get hmem 0
      have hkd : k < de.length := by omega
      have hci := hI.ci k hkd
      have hac : acyc n (addTs t (de.getD k [] ++ [x])) = true := by
        have hr : ∀ y ∈ de.getD k [] ++ [x], y.1 < n ∧ y.2 < n := fun y hy => by
          rcases List.mem_append.1 hy with hy | hy
          · exact hci.rng y hy
          · rw [List.mem_singleton.1 hy]; exact ⟨h1, h2⟩
        refine acyc_of_bf (addTs_sq hs fun y hy => (hr y hy).2) (l := L (col x)) fun a b ha hb hab => ?_
        rcases (addTs_at _ hs hr a b).1 hab with hab | hab
        · exact ext_bf hp (hL _ hcm) ha hb hab
        · rcases List.mem_append.1 hab with hab | hab
          · have e1 := hco k hkd _ hab
            have e2 := (hc _ (hI.from_ k _ hab)).2
            rw [e1, hke] at e2
            exact e2
          · rw [← List.mem_singleton.1 hab] at hcb ⊢; exact hcb
      have hbad : badC (cl.getD k []) x.2 x.1 = false := by
        have := hci.bad hs hn h1 h2
        rw [hac] at this
        simpa using this.symm
      have hput := hI.put hs hn (fun y hy => ⟨(hP y hy).1, (hP y hy).2.1⟩) hx (j := k) (by omega) hbad
      have hrec := deal_col hs hp hn hP col L hL hc ps (i + 1) _ _ s hps hput (by simp [addP, hsl]) hnd hsm (fun k' hk' y hy => by
        rw [addP_get hkd] at hy
        split at hy
        · rename_i e; subst e
          rcases List.mem_append.1 hy with hy | hy
          · exact hco k hkd y hy
          · rw [List.mem_singleton.1 hy, hke]
        · exact hco k' (by simpa [addP] using hk') y hy)
      have := dealK_isSome (rec := dealP m (startT n t) ps) (x := x) cl.length 0 k (Nat.zero_le _) (by omega) hbad hrec
      split
      · rfl
      · rename_i hnone; rw [hnone] at this; cases this
    · -- a new class
      have hlt : s.length < m := by
        have := nodup_nat m (col x :: s) (List.nodup_cons.2 ⟨hmem, hnd⟩) (fun c hcs => by
          rcases List.mem_cons.1 hcs with rfl | hcs
          · exact hcm
          · exact hsm c hcs)
        simp at this; omega
      have hg := hI.grow hs hp hn hP hx
      have hrec := deal_col hs hp hn hP col L hL hc ps (i + 1) _ _ (s ++ [col x]) hps hg (by simp [hsl]) (by
          rw [List.nodup_append]
          refine ⟨hnd, by simp, fun a ha b hb e => ?_⟩
          rw [List.mem_singleton.1 hb] at e
          exact hmem (e ▸ ha)) (fun c hcs => by
          rcases List.mem_append.1 hcs with hcs | hcs
          · exact hsm c hcs
          · rw [List.mem_singleton.1 hcs]; exact hcm) (fun k hk y hy => by
          rw [snoc_get] at hy ⊢
          rw [hsl]
          split at hy
          · rename_i hk2; rw [if_pos hk2]; exact hco k hk2 y hy
          · rename_i hk2
            rw [if_neg hk2]
            split at hy
            · rename_i hk3; rw [if_pos hk3, List.mem_singleton.1 hy]
            · simp at hy)
      split
      · rfl
      · rw [if_neg (by omega)]; exact hrec
theorem rlz_dim {n : Nat} {t : List (List Bool)} (hs : Sq n t) (hp : IsPo n t) (hn : n ≤ 8) {ls : List (List Int)} (h : IsRlz n t ls) : (dealtT n t).length ≤ ls.length := by
  obtain ⟨m, h1, h2, h3, h4⟩ := deals_len (n := n) (t := t)
  rcases Nat.lt_or_ge ls.length m with hlt | hge
  · exfalso
    have hl1 : 1 ≤ ls.length := by
      have := h.ne
      cases ls with
      | nil => exact absurd rfl this
      | cons a l => simp
    have hnone := h4 ls.length hl1 hlt
    have hcr := ((rlz_crit hs hp h.ext).1 h).2
    have hcol : ∀ x : Nat × Nat, ∃ c, x ∈ critT n t → c < ls.length ∧ bfA n x.2 x.1 (ls.getD c []) = true := fun x => by
      rcases Classical.em (x ∈ critT n t) with hx | hx
      · obtain ⟨l, hl, hb⟩ := hcr x hx
        obtain ⟨c, hc, he⟩ := mem_get hl []
        exact ⟨c, fun _ => ⟨hc, by rw [he]; exact hb⟩⟩
      · exact ⟨0, fun h => absurd h hx⟩
    have := deal_col hs hp hn (P := critT n t) (fun x hx => critT_inc hx) (m := ls.length) (fun x => (hcol x).choose) (fun c => ls.getD c []) (fun c hc => h.ext _ (mem_getD hc _)) (fun x hx => (hcol x).choose_spec hx)
      (critT n t) 0 [] [] [] rfl (SI.nil n t _) rfl List.nodup_nil (by simp) (by simp)
    rw [hnone] at this; cases this
  · omega
theorem dim_le {n : Nat} {t : List (List Bool)} (hs : Sq n t) (hp : IsPo n t) (hn : n ≤ 8) {m : Nat} (h : DimLe (atT t) (· < n) m) : (dealtT n t).length ≤ m := by
  obtain ⟨rs, h1, h2⟩ := h
  have := rlz_dim hs hp hn (h1.lists hp)
  rw [List.length_map, h2] at this
  exact this
theorem dim_at {n : Nat} {t : List (List Bool)} (hs : Sq n t) (hp : IsPo n t) (hn : n ≤ 8) : DimLe (atT t) (· < n) (dealtT n t).length :=
  ⟨_, (realT_rlz hs hp hn).ranks hp, by rw [List.length_map, realT_len]⟩
end Go.AM

/- How the dimension changes with the elements. -/
namespace Go.AM
theorem bnd_ex (r : Nat → Nat) : ∀ n, ∃ N, ∀ i, i < n → r i < N
  | 0 => ⟨0, fun i h => by omega⟩
  | n + 1 => by
    obtain ⟨N, hN⟩ := bnd_ex r n
    refine ⟨N + r n + 1, fun i hi => ?_⟩
    by_cases e : i = n
    · subst e; omega
    · have := hN i (by omega); omega
/-- First by a key, then by a rank. -/
def lexR (f : Nat → Nat) (N : Nat) (r : Nat → Nat) (i : Nat) : Nat := f i * N + r i
theorem lex_lt {f : Nat → Nat} {N : Nat} {r : Nat → Nat} {i j : Nat} (hi : r i < N) (h : f i < f j) : lexR f N r i < lexR f N r j := by
  unfold lexR
  have : (f i + 1) * N ≤ f j * N := Nat.mul_le_mul_right N h
  rw [Nat.add_mul, Nat.one_mul] at this
  omega
theorem lex_eq {f : Nat → Nat} {N : Nat} {r : Nat → Nat} {i j : Nat} (h : f i = f j) (hr : r i < r j) : lexR f N r i < lexR f N r j := by
  unfold lexR; rw [h]; omega
/-- A key that the order raises, and a rank that tells what has the same key. -/
theorem lex_ok {lt : Nat → Nat → Bool} {D : Nat → Prop} {f : Nat → Nat} {N : Nat} {r : Nat → Nat} (hN : ∀ i, D i → r i < N) (hf : ∀ i j, D i → D j → lt i j = true → f i ≤ f j) (hr : ∀ i j, D i → D j → lt i j = true → f i = f j → r i < r j)
    (hi : ∀ i j, D i → D j → i ≠ j → f i = f j → r i ≠ r j) : RkOk lt D (lexR f N r) := by
  refine ⟨fun i j di dj h => ?_, fun i j di dj hij e => ?_⟩
  · rcases Nat.lt_or_eq_of_le (hf i j di dj h) with h1 | h1
    · exact lex_lt (hN i di) h1
    · exact lex_eq h1 (hr i j di dj h h1)
  · rcases Nat.lt_trichotomy (f i) (f j) with h1 | h1 | h1
    · have := lex_lt (f := f) (r := r) (hN i di) h1; omega
    · have h2 := hi i j di dj hij h1
      unfold lexR at e
      rw [h1] at e
      omega
    · have := lex_lt (f := f) (r := r) (hN j dj) h1; omega
section
variable {lt : Nat → Nat → Bool} {D : Nat → Prop} {n : Nat}
def wo (D : Nat → Prop) (x : Nat) (i : Nat) : Prop := D i ∧ i ≠ x
/-- The greatest of some values. -/
def supR (p : Nat → Bool) (g : Nat → Nat) : Nat → Nat
  | 0 => 0
  | n + 1 => max (supR p g n) (if p n = true then g n else 0)
theorem supR_le {p : Nat → Bool} {g : Nat → Nat} {B : Nat} : ∀ n, (∀ z, z < n → p z = true → g z ≤ B) → supR p g n ≤ B
  | 0, _ => Nat.zero_le _
  | n + 1, h => by
    unfold supR
    have := supR_le (p := p) (g := g) (B := B) n fun z hz => h z (by omega)
    split
    · rename_i hp; have := h n (by omega) hp; omega
    · omega
theorem le_supR {p : Nat → Bool} {g : Nat → Nat} {z : Nat} (hp : p z = true) : ∀ n, z < n → g z ≤ supR p g n
  | 0, h => by omega
  | n + 1, h => by
    unfold supR
    by_cases e : z = n
    · subst e; rw [if_pos hp]; omega
    · have := le_supR (g := g) hp n (by omega); omega
theorem ltpos {lt : Nat → Nat → Bool} {i j : Nat} (h : lt i j = false) (h2 : lt i j = true) : False := by rw [h] at h2; cases h2
/-- An element put directly above what is below it. -/
def putR (lt : Nat → Nat → Bool) (n : Nat) (r : Nat → Nat) (x : Nat) (z : Nat) : Nat := if z = x then 2 * supR (fun y => lt y x) (fun y => r y + 1) n else 2 * r z + 1
theorem putR_ok (hp : PoD lt D) (hD : ∀ i, lt i i = false) (hn : ∀ i j, lt i j = true → i < n) {x : Nat} (hx : D x) (hcl : ∀ y, lt y x = true → D y) {r : Nat → Nat} (h : RkOk lt (wo D x) r) : RkOk lt D (putR lt n r x) ∧ ∀ i j, wo D x i → wo D x j → r i < r j → putR lt n r x i < putR lt n r x j := by
  have hne : ∀ z, z ≠ x → putR lt n r x z = 2 * r z + 1 := fun z hz => by unfold putR; rw [if_neg hz]
  have hxx : putR lt n r x x = 2 * supR (fun y => lt y x) (fun y => r y + 1) n := by unfold putR; rw [if_pos rfl]
  refine ⟨⟨fun i j di dj hij => ?_, fun i j di dj hij => ?_⟩, fun i j hi hj hr => by rw [hne i hi.2, hne j hj.2]; omega⟩
  · by_cases ei : i = x
    · subst ei
      have ej : j ≠ i := fun e => by subst e; exact ltpos (hD j) hij
      rw [hxx, hne j ej]
      have : supR (fun y => lt y i) (fun y => r y + 1) n ≤ r j := supR_le n fun z _ hz => by
        have hzi : z ≠ i := fun e => by subst e; exact ltpos (hD z) hz
        have hzj := hp.trans z i j (hcl z hz) di dj hz hij
        have := h.up z j ⟨hcl z hz, hzi⟩ ⟨dj, ej⟩ hzj
        omega
      omega
    · by_cases ej : j = x
      · subst ej
        rw [hxx, hne i ei]
        have := le_supR (p := fun y => lt y j) (g := fun y => r y + 1) (z := i) hij n (hn i j hij)
        omega
      · rw [hne i ei, hne j ej]
        have := h.up i j ⟨di, ei⟩ ⟨dj, ej⟩ hij
        omega
  · by_cases ei : i = x
    · subst ei
      rw [hxx, hne j (fun e => hij e.symm)]; omega
    · by_cases ej : j = x
      · subst ej; rw [hxx, hne i ei]; omega
      · rw [hne i ei, hne j ej]
        have := h.inj i j ⟨di, ei⟩ ⟨dj, ej⟩ hij
        omega
/-- The key of an element: below x, x, or the others; and: not above x, x, or above. -/
def kLow (lt : Nat → Nat → Bool) (x z : Nat) : Nat := if z = x then 1 else if lt z x = true then 0 else 2
def kHigh (lt : Nat → Nat → Bool) (x z : Nat) : Nat := if z = x then 1 else if lt x z = true then 2 else 0
theorem kLow_x (lt : Nat → Nat → Bool) (x : Nat) : kLow lt x x = 1 := by unfold kLow; rw [if_pos rfl]
theorem kHigh_x (lt : Nat → Nat → Bool) (x : Nat) : kHigh lt x x = 1 := by unfold kHigh; rw [if_pos rfl]
theorem kLow_ne {lt : Nat → Nat → Bool} {x z : Nat} (h : z ≠ x) : kLow lt x z = if lt z x = true then 0 else 2 := by unfold kLow; rw [if_neg h]
theorem kHigh_ne {lt : Nat → Nat → Bool} {x z : Nat} (h : z ≠ x) : kHigh lt x z = if lt x z = true then 2 else 0 := by unfold kHigh; rw [if_neg h]
theorem key_ok {x : Nat} {r : Nat → Nat} (h : RkOk lt (wo D x) r) (hN : ∃ N, ∀ i, D i → r i < N) (f : Nat → Nat) (hf : ∀ i j, D i → D j → lt i j = true → f i ≤ f j) (hfx : ∀ z, z ≠ x → f z ≠ f x) (hD : ∀ i, lt i i = false) :
    ∃ N, RkOk lt D (lexR f N r) ∧ ∀ i, D i → r i < N := by
  obtain ⟨N, hN⟩ := hN
  refine ⟨N, lex_ok hN hf (fun i j di dj hij e => ?_) (fun i j di dj hij e => ?_), hN⟩
  · have hx : i ≠ x ∧ j ≠ x := by
      constructor
      · rintro rfl
        have : j ≠ i := fun e => by subst e; exact ltpos (hD j) hij
        exact hfx j this e.symm
      · rintro rfl
        have : i ≠ j := fun e => by subst e; exact ltpos (hD i) hij
        exact hfx i this e
    exact h.up i j ⟨di, hx.1⟩ ⟨dj, hx.2⟩ hij
  · have hx : i ≠ x ∧ j ≠ x := by
      constructor
      · rintro rfl; exact hfx j (fun e => hij e.symm) e.symm
      · rintro rfl; exact hfx i hij e
    exact h.inj i j ⟨di, hx.1⟩ ⟨dj, hx.2⟩ hij
theorem kLow_up (hp : PoD lt D) (hD : ∀ i, lt i i = false) {x : Nat} (hx : D x) (i j : Nat) (di : D i) (dj : D j) (hij : lt i j = true) : kLow lt x i ≤ kLow lt x j := by
  by_cases ei : i = x
  · subst ei
    have ej : j ≠ i := fun e => by subst e; exact ltpos (hD j) hij
    rw [kLow_x, kLow_ne ej, if_neg (fun h => ltpos (hD i) (hp.trans i j i di dj di hij h))]; omega
  · by_cases ej : j = x
    · subst ej; rw [kLow_x, kLow_ne ei, if_pos hij]; omega
    · rw [kLow_ne ei, kLow_ne ej]
      by_cases h : lt j x = true
      · rw [if_pos h, if_pos (hp.trans i j x di dj hx hij h)]; exact Nat.le_refl _
      · rw [if_neg h]; split <;> omega
theorem kHigh_up (hp : PoD lt D) (hD : ∀ i, lt i i = false) {x : Nat} (hx : D x) (i j : Nat) (di : D i) (dj : D j) (hij : lt i j = true) : kHigh lt x i ≤ kHigh lt x j := by
  by_cases ei : i = x
  · subst ei
    have ej : j ≠ i := fun e => by subst e; exact ltpos (hD j) hij
    rw [kHigh_x, kHigh_ne ej, if_pos hij]; omega
  · by_cases ej : j = x
    · subst ej; rw [kHigh_x, kHigh_ne ei, if_neg (fun h => ltpos (hD j) (hp.trans j i j dj di dj h hij))]; omega
    · rw [kHigh_ne ei, kHigh_ne ej]
      by_cases h : lt x i = true
      · rw [if_pos h, if_pos (hp.trans x i j hx di dj h hij)]; exact Nat.le_refl _
      · rw [if_neg h]; split <;> omega
theorem kLow_fx {x z : Nat} (h : z ≠ x) : kLow lt x z ≠ kLow lt x x := by rw [kLow_ne h, kLow_x]; split <;> omega
theorem kHigh_fx {x z : Nat} (h : z ≠ x) : kHigh lt x z ≠ kHigh lt x x := by rw [kHigh_ne h, kHigh_x]; split <;> omega
end
/-- An order on the numbers below n. -/
structure PoN (lt : Nat → Nat → Bool) (n : Nat) : Prop where
  irr : ∀ i, lt i i = false
  trans : ∀ i j k, lt i j = true → lt j k = true → lt i k = true
  rng : ∀ i j, lt i j = true → i < n ∧ j < n
theorem PoN.pod {lt : Nat → Nat → Bool} {n : Nat} (h : PoN lt n) (D : Nat → Prop) : PoD lt D := ⟨fun i _ => h.irr i, fun i j k _ _ _ => h.trans i j k⟩
theorem PoN.asym {lt : Nat → Nat → Bool} {n : Nat} (h : PoN lt n) {i j : Nat} (h1 : lt i j = true) (h2 : lt j i = true) : False := ltpos (h.irr i) (h.trans i j i h1 h2)
theorem bndD {D : Nat → Prop} {n : Nat} (hD : ∀ i, D i → i < n) (r : Nat → Nat) : ∃ N, ∀ i, D i → r i < N := by
  obtain ⟨N, hN⟩ := bnd_ex r n
  exact ⟨N, fun i di => hN i (hD i di)⟩
/-- One element more: one more at most. -/
theorem dim_add {lt : Nat → Nat → Bool} {n : Nat} (hp : PoN lt n) {D : Nat → Prop} (hD : ∀ i, D i → i < n) {x : Nat} (hx : D x) (hcl : ∀ y, lt y x = true → D y) {m : Nat} (h : DimLe lt (wo D x) m) : DimLe lt D (m + 1) := by
  obtain ⟨rs, hI, hlen⟩ := h
  cases rs with
  | nil => exact absurd rfl hI.ne
  | cons r1 rest =>
    have h1 := hI.ok r1 (List.mem_cons_self ..)
    obtain ⟨N1, hA, hN1⟩ := key_ok h1 (bndD hD r1) (kLow lt x) (kLow_up (hp.pod D) hp.irr hx) (fun z hz => kLow_fx hz) hp.irr
    obtain ⟨N2, hB, hN2⟩ := key_ok h1 (bndD hD r1) (kHigh lt x) (kHigh_up (hp.pod D) hp.irr hx) (fun z hz => kHigh_fx hz) hp.irr
    have hput := fun r (hr : r ∈ rest) => putR_ok (n := n) (hp.pod D) hp.irr (fun i j h => (hp.rng i j h).1) hx hcl (hI.ok r (List.mem_cons_of_mem _ hr))
    refine ⟨lexR (kLow lt x) N1 r1 :: lexR (kHigh lt x) N2 r1 :: rest.map (fun r => putR lt n r x), ⟨by simp, fun r hr => ?_, fun i j di dj hij hl => ?_⟩, by simp at hlen ⊢; omega⟩
    · rcases List.mem_cons.1 hr with rfl | hr
      · exact hA
      · rcases List.mem_cons.1 hr with rfl | hr
        · exact hB
        · obtain ⟨r0, hr0, rfl⟩ := List.mem_map.1 hr
          exact (hput r0 hr0).1
    · -- the pair (i, j) wants j before i
      by_cases ei : i = x
      · subst ei
        refine ⟨_, List.mem_cons_of_mem _ (List.mem_cons_self ..), lex_lt (hN2 j dj) ?_⟩
        rw [kHigh_x, kHigh_ne (fun e => hij e.symm), if_neg (fun h => ltpos hl h)]; omega
      · by_cases ej : j = x
        · subst ej
          refine ⟨_, List.mem_cons_self .., lex_lt (hN1 j dj) ?_⟩
          rw [kLow_x, kLow_ne ei, if_neg (fun h => ltpos hl h)]; omega
        · obtain ⟨r, hr, hb⟩ := hI.rev i j ⟨di, ei⟩ ⟨dj, ej⟩ hij hl
          rcases List.mem_cons.1 hr with rfl | hr
          · by_cases h3 : kLow lt x j ≤ kLow lt x i
            · refine ⟨_, List.mem_cons_self .., ?_⟩
              rcases Nat.lt_or_eq_of_le h3 with h4 | h4
              · exact lex_lt (hN1 j dj) h4
              · exact lex_eq h4 hb
            · refine ⟨_, List.mem_cons_of_mem _ (List.mem_cons_self ..), ?_⟩
              have hix : lt i x = true := by
                rw [kLow_ne ei, kLow_ne ej] at h3
                cases e : lt i x with
                | true => rfl
                | false => rw [e] at h3; simp only [Bool.false_eq_true, if_false] at h3; split at h3 <;> omega
              have hxj : lt x j = false := by
                cases e : lt x j with
                | false => rfl
                | true => exact (ltpos hl (hp.trans i x j hix e)).elim
              have hxi : lt x i = false := by
                cases e : lt x i with
                | false => rfl
                | true => exact (hp.asym hix e).elim
              exact lex_eq (by rw [kHigh_ne ei, kHigh_ne ej, hxj, hxi]) hb
          · exact ⟨putR lt n r x, List.mem_cons_of_mem _ (List.mem_cons_of_mem _ (List.mem_map_of_mem hr)), (hput r hr).2 j i ⟨dj, ej⟩ ⟨di, ei⟩ hb⟩
/-- An element that is comparable to all others costs nothing. -/
theorem dim_comp {lt : Nat → Nat → Bool} {n : Nat} (hp : PoN lt n) {D : Nat → Prop} (hD : ∀ i, D i → i < n) {x : Nat} (hx : D x) (hc : ∀ y, D y → y ≠ x → lt y x = true ∨ lt x y = true) {m : Nat} (h : DimLe lt (wo D x) m) : DimLe lt D m := by
  obtain ⟨rs, hI, hlen⟩ := h
  have hk := fun r (hr : r ∈ rs) => key_ok (hI.ok r hr) (bndD hD r) (kLow lt x) (kLow_up (hp.pod D) hp.irr hx) (fun z hz => kLow_fx hz) hp.irr
  have hch : ∀ r, ∃ N, r ∈ rs → RkOk lt D (lexR (kLow lt x) N r) ∧ ∀ i, D i → r i < N := fun r => by
    rcases Classical.em (r ∈ rs) with hr | hr
    · obtain ⟨N, h⟩ := hk r hr; exact ⟨N, fun _ => h⟩
    · exact ⟨0, fun h => absurd h hr⟩
  refine ⟨rs.map fun r => lexR (kLow lt x) (hch r).choose r, ⟨by simpa using hI.ne, fun r hr => ?_, fun i j di dj hij hl => ?_⟩, by simpa using hlen⟩
  · obtain ⟨r0, hr0, rfl⟩ := List.mem_map.1 hr
    exact ((hch r0).choose_spec hr0).1
  · have key : ∀ r ∈ rs, kLow lt x j ≤ kLow lt x i → (kLow lt x j = kLow lt x i → r j < r i) → ∃ r ∈ rs.map (fun r => lexR (kLow lt x) (hch r).choose r), r j < r i := fun r hr h1 h2 => by
      refine ⟨_, List.mem_map_of_mem hr, ?_⟩
      rcases Nat.lt_or_eq_of_le h1 with h3 | h3
      · exact lex_lt (((hch r).choose_spec hr).2 j dj) h3
      · exact lex_eq h3 (h2 h3)
    obtain ⟨r0, hr0⟩ := List.exists_mem_of_ne_nil _ hI.ne
    by_cases ei : i = x
    · subst ei
      have hji : lt j i = true := (hc j dj (fun e => hij e.symm)).resolve_right (fun h => ltpos hl h)
      exact key r0 hr0 (by rw [kLow_x, kLow_ne (fun e => hij e.symm), if_pos hji]; omega) (by rw [kLow_x, kLow_ne (fun e => hij e.symm), if_pos hji]; intro h; omega)
    · by_cases ej : j = x
      · subst ej
        have hji : lt j i = true := (hc i di ei).resolve_left (fun h => ltpos hl h)
        have hn : ¬ lt i j = true := fun h => ltpos hl h
        exact key r0 hr0 (by rw [kLow_x, kLow_ne ei, if_neg hn]; omega) (by rw [kLow_x, kLow_ne ei, if_neg hn]; intro h; omega)
      · obtain ⟨r, hr, hb⟩ := hI.rev i j ⟨di, ei⟩ ⟨dj, ej⟩ hij hl
        refine key r hr ?_ (fun _ => hb)
        rw [kLow_ne ei, kLow_ne ej]
        by_cases h1 : lt i x = true
        · have h2 : lt j x = true := by
            rcases hc j dj ej with h | h
            · exact h
            · exact (ltpos hl (hp.trans i x j h1 h)).elim
          rw [if_pos h1, if_pos h2]; exact Nat.le_refl _
        · rw [if_neg h1]; split <;> omega
end Go.AM

/- Five elements: at most two lists. -/
namespace Go.AM
def t5 (b0 b1 b2 b3 b4 b5 b6 b7 b8 b9 : Bool) : List (List Bool) := [[false, b0, b1, b2, b3], [false, false, b4, b5, b6], [false, false, false, b7, b8], [false, false, false, false, b9], [false, false, false, false, false]]
/-- Transitive, where only greater numbers are related. -/
def tr5 (b0 b1 b2 b3 b4 b5 b6 b7 b8 b9 : Bool) : Bool :=
  (!(b0 && b4) || b1) && (!(b0 && b5) || b2) && (!(b0 && b6) || b3) && (!(b1 && b7) || b2) && (!(b1 && b8) || b3) && (!(b2 && b9) || b3) && (!(b4 && b7) || b5) && (!(b4 && b8) || b6) && (!(b5 && b9) || b6) && (!(b7 && b9) || b8)
theorem five_dec : ∀ b0 b1 b2 b3 b4 b5 b6 b7 b8 b9 : Bool, (!tr5 b0 b1 b2 b3 b4 b5 b6 b7 b8 b9 || (dealP 2 (startT 5 (t5 b0 b1 b2 b3 b4 b5 b6 b7 b8 b9)) (critT 5 (t5 b0 b1 b2 b3 b4 b5 b6 b7 b8 b9)) [] []).isSome) = true := by decide +kernel
end Go.AM

/- Five elements: at most two lists (the other half). -/
namespace Go.AM
theorem imp3 {a b c : Bool} (h : a = true → b = true → c = true) : (!(a && b) || c) = true := by
  cases a <;> cases b <;> simp at h ⊢
  exact h
theorem atT_rng {n : Nat} {t : List (List Bool)} (hs : Sq n t) {i j : Nat} (h : atT t i j = true) : i < n ∧ j < n := by
  unfold atT at h
  by_cases hi : i < n
  · refine ⟨hi, ?_⟩
    have := hs.rowLen hi
    rcases Nat.lt_or_ge j n with hj | hj
    · exact hj
    · rw [getD_out (by omega)] at h; cases h
  · have : rowT t i = [] := getD_out (by rw [hs.len]; omega) _
    rw [this] at h
    simp at h
theorem IsPo.pon {n : Nat} {t : List (List Bool)} (hs : Sq n t) (hp : IsPo n t) : PoN (atT t) n := by
  refine ⟨fun i => ?_, fun i j k h1 h2 => ?_, fun i j h => atT_rng hs h⟩
  · cases e : atT t i i with
    | false => rfl
    | true => have := hp.irr i (atT_rng hs e).1; rw [e] at this; cases this
  · exact hp.trans i j k (atT_rng hs h1).1 (atT_rng hs h1).2 (atT_rng hs h2).2 h1 h2
theorem PoN.le {lt : Nat → Nat → Bool} {n m : Nat} (h : PoN lt n) (hm : n ≤ m) : PoN lt m := ⟨h.irr, h.trans, fun i j hij => by have := h.rng i j hij; omega⟩
theorem PoN.tab {lt : Nat → Nat → Bool} {n : Nat} (h : PoN lt n) : IsPo n (tabF n lt) :=
  ⟨fun i hi => by rw [atT_tabF hi hi]; exact h.irr i, fun i j k hi hj hk h1 h2 => by rw [atT_tabF hi hj] at h1; rw [atT_tabF hj hk] at h2; rw [atT_tabF hi hk]; exact h.trans i j k h1 h2⟩
theorem all_in {n : Nat} {l : List Nat} (hnd : l.Nodup) (hr : ∀ i ∈ l, i < n) (hl : l.length = n) {z : Nat} (hz : z < n) : z ∈ l := by
  apply Classical.byContradiction
  intro h
  have := nodup_nat n (z :: l) (List.nodup_cons.2 ⟨h, hnd⟩) (fun i hi => by
    rcases List.mem_cons.1 hi with rfl | hi
    · exact hz
    · exact hr i hi)
  simp at this; omega
theorem five {lt : Nat → Nat → Bool} (hp : PoN lt 5) : DimLe lt (· < 5) 2 := by
  have hu := hp.tab
  have hus := tabF_sq 5 lt
  obtain ⟨hO, hl⟩ := ordO_ok hus (hu.acyc hus) 5 [] (OrdI.nil _ _) (by simp)
  generalize ordO 5 (tabF 5 lt) 5 [] = L at hO hl
  obtain ⟨f, hf⟩ : ∃ f : Nat → Nat → Bool, f = fun i j => lt (L.getD i 0) (L.getD j 0) := ⟨_, rfl⟩
  have hfd : ∀ i j, f i j = lt (L.getD i 0) (L.getD j 0) := fun i j => by rw [hf]
  have hLr : ∀ i, i < 5 → L.getD i 0 < 5 := fun i hi => hO.rng _ (mem_getD (by omega) 0)
  have hup : ∀ i j, i < 5 → j < 5 → f i j = true → i < j := fun i j hi hj h => by
    rw [hfd] at h
    have hj' : L[j]? = some (L.getD j 0) := by rw [List.getElem?_eq_getElem (by omega)]; simp [List.getD_eq_getElem?_getD, List.getElem?_eq_getElem (show j < L.length by omega)]
    obtain ⟨p, h1, h2⟩ := hO.top j _ (L.getD i 0) hj' (hLr i hi) (by rw [atT_tabF (hLr i hi) (hLr j hj)]; exact h)
    obtain ⟨hpl, he⟩ := List.getElem?_eq_some_iff.1 h2
    have : p = i := by
      refine (List.getElem_inj hO.nd (h₁ := by omega)).1 (he.trans ?_)
      simp [List.getD_eq_getElem?_getD, List.getElem?_eq_getElem (show i < L.length by omega)]
    omega
  have hat : ∀ i j, i < 5 → j < 5 → atT (t5 (f 0 1) (f 0 2) (f 0 3) (f 0 4) (f 1 2) (f 1 3) (f 1 4) (f 2 3) (f 2 4) (f 3 4)) i j = f i j := fun i j hi hj => by
    have h0 : atT (t5 (f 0 1) (f 0 2) (f 0 3) (f 0 4) (f 1 2) (f 1 3) (f 1 4) (f 2 3) (f 2 4) (f 3 4)) i j = (decide (i < j) && f i j) := by
      rcases (show i = 0 ∨ i = 1 ∨ i = 2 ∨ i = 3 ∨ i = 4 by omega) with rfl | rfl | rfl | rfl | rfl <;> rcases (show j = 0 ∨ j = 1 ∨ j = 2 ∨ j = 3 ∨ j = 4 by omega) with rfl | rfl | rfl | rfl | rfl <;> rfl
    rw [h0]
    cases e : f i j with
    | false => simp
    | true => rw [decide_eq_true (hup i j hi hj e)]; rfl
  have htr : ∀ i j k, f i j = true → f j k = true → f i k = true := fun i j k h1 h2 => by
    rw [hfd] at *
    exact hp.trans _ _ _ h1 h2
  have htr5 : tr5 (f 0 1) (f 0 2) (f 0 3) (f 0 4) (f 1 2) (f 1 3) (f 1 4) (f 2 3) (f 2 4) (f 3 4) = true := by
    unfold tr5
    rw [imp3 (htr 0 1 2), imp3 (htr 0 1 3), imp3 (htr 0 1 4), imp3 (htr 0 2 3), imp3 (htr 0 2 4), imp3 (htr 0 3 4), imp3 (htr 1 2 3), imp3 (htr 1 2 4), imp3 (htr 1 3 4), imp3 (htr 2 3 4)]
    rfl
  have hdec := five_dec (f 0 1) (f 0 2) (f 0 3) (f 0 4) (f 1 2) (f 1 3) (f 1 4) (f 2 3) (f 2 4) (f 3 4)
  rw [htr5] at hdec
  have hsq : Sq 5 (t5 (f 0 1) (f 0 2) (f 0 3) (f 0 4) (f 1 2) (f 1 3) (f 1 4) (f 2 3) (f 2 4) (f 3 4)) := ⟨rfl, fun b hb => by
    simp only [t5, List.mem_cons, List.not_mem_nil, or_false] at hb
    rcases hb with rfl | rfl | rfl | rfl | rfl <;> rfl⟩
  generalize hT : t5 (f 0 1) (f 0 2) (f 0 3) (f 0 4) (f 1 2) (f 1 3) (f 1 4) (f 2 3) (f 2 4) (f 3 4) = T at *
  have hTp : IsPo 5 T := ⟨fun i hi => by rw [hat i i hi hi, hfd]; exact hp.irr _, fun i j k hi hj hk h1 h2 => by rw [hat i j hi hj] at h1; rw [hat j k hj hk] at h2; rw [hat i k hi hk]; exact htr i j k h1 h2⟩
  have hd2 : (dealtT 5 T).length ≤ 2 := by
    obtain ⟨m, h1, h2, h3, h4⟩ := deals_len (n := 5) (t := T)
    rcases Nat.lt_or_ge 2 m with h5 | h5
    · have := h4 2 (by omega) h5
      rw [this] at hdec; cases hdec
    · omega
  obtain ⟨rs, hI, hlen⟩ := (dim_at hsq hTp (by omega)).mono hd2
  have hpos : ∀ z, z < 5 → L.idxOf z < 5 ∧ L.getD (L.idxOf z) 0 = z := fun z hz => by
    have hm := all_in hO.nd hO.rng hl hz
    have h1 := List.idxOf_lt_length_of_mem hm
    refine ⟨by omega, ?_⟩
    rw [List.getD_eq_getElem?_getD, List.getElem?_eq_getElem h1]
    simp
  have hinj : ∀ i j, i < 5 → j < 5 → i ≠ j → L.idxOf i ≠ L.idxOf j := fun i j hi hj hij e => by
    have h1 := (hpos i hi).2
    rw [e, (hpos j hj).2] at h1
    exact hij h1.symm
  have hlt : ∀ i j, i < 5 → j < 5 → atT T (L.idxOf i) (L.idxOf j) = lt i j := fun i j hi hj => by
    rw [hat _ _ (hpos i hi).1 (hpos j hj).1, hfd, (hpos i hi).2, (hpos j hj).2]
  refine ⟨rs.map fun r z => r (L.idxOf z), ⟨by simpa using hI.ne, fun r hr => ?_, fun i j hi hj hij hl0 => ?_⟩, by simpa using hlen⟩
  · obtain ⟨r0, hr0, rfl⟩ := List.mem_map.1 hr
    have h0 := hI.ok r0 hr0
    refine ⟨fun i j hi hj h => ?_, fun i j hi hj hij => ?_⟩
    · exact h0.up _ _ (hpos i hi).1 (hpos j hj).1 (by rw [hlt i j hi hj]; exact h)
    · exact h0.inj _ _ (hpos i hi).1 (hpos j hj).1 (hinj i j hi hj hij)
  · obtain ⟨r0, hr0, hb⟩ := hI.rev _ _ (hpos i hi).1 (hpos j hj).1 (hinj i j hi hj hij) (by rw [hlt i j hi hj]; exact hl0)
    exact ⟨_, List.mem_map_of_mem hr0, hb⟩
theorem dim_five {n : Nat} {t : List (List Bool)} (hs : Sq n t) (hp : IsPo n t) (hn : n ≤ 5) : (dealtT n t).length ≤ 2 :=
  dim_le hs hp (by omega) ((five ((hp.pon hs).le hn)).sub fun i (hi : i < n) => (show i < 5 by omega))
end Go.AM

/- All linear extensions, as the law lists them. -/
namespace Go.AM
theorem OrdI.free {n : Nat} {t : List (List Bool)} {r : List Nat} (h : OrdI n t r) {k : Nat} (hk : k < r.length) : freeO n t (r.take k) r[k] = true := by
  refine freeO_iff.2 ⟨fun hm => ?_, fun j hj ha => ?_⟩
  · obtain ⟨q, hq, he⟩ := List.mem_iff_getElem.1 hm
    rw [List.length_take] at hq
    rw [List.getElem_take] at he
    have := (List.getElem_inj h.nd (h₀ := by omega) (h₁ := hk)).1 he
    omega
  · obtain ⟨p, hp, he⟩ := h.top k _ j (List.getElem?_eq_getElem hk) hj ha
    exact List.mem_of_getElem? (by rw [List.getElem?_take_of_lt hp]; exact he)
end Go.AM

namespace Go.Proofs.D
open Go.AM Go
set_option maxRecDepth 100000
set_option maxHeartbeats 4000000
end Go.Proofs.D

namespace Go.Proofs.D
open Go.AM Go
set_option maxRecDepth 100000
set_option maxHeartbeats 4000000
end Go.Proofs.D

namespace Go.Proofs.D
open Go.AM Go
set_option maxRecDepth 100000
set_option maxHeartbeats 4000000
end Go.Proofs.D

/- Pairs, twins and chains: what they do to the dimension. -/
namespace Go.AM
theorem DimLe.congr {lt lt' : Nat → Nat → Bool} {D D' : Nat → Prop} {m : Nat} (h : DimLe lt D m) (hd : ∀ i, D' i → D i) (he : ∀ i j, D' i → D' j → lt' i j = lt i j) : DimLe lt' D' m := by
  obtain ⟨rs, hI, hl⟩ := h
  refine ⟨rs, ⟨hI.ne, fun r hr => ⟨fun i j hi hj h => (hI.ok r hr).up i j (hd i hi) (hd j hj) (by rw [← he i j hi hj]; exact h), fun i j hi hj => (hI.ok r hr).inj i j (hd i hi) (hd j hj)⟩, fun i j hi hj hij h => hI.rev i j (hd i hi) (hd j hj) hij (by rw [← he i j hi hj]; exact h)⟩, hl⟩
theorem DimLe.dual {lt : Nat → Nat → Bool} {D : Nat → Prop} {n m : Nat} (hD : ∀ i, D i → i < n) (h : DimLe (fun i j => lt j i) D m) : DimLe lt D m := by
  obtain ⟨rs, hI, hl⟩ := h
  refine ⟨rs.map fun r z => (bnd_ex r n).choose - r z, ⟨by simpa using hI.ne, fun r hr => ?_, fun i j di dj hij h => ?_⟩, by simpa using hl⟩
  · obtain ⟨r0, hr0, rfl⟩ := List.mem_map.1 hr
    have hb := (bnd_ex r0 n).choose_spec
    refine ⟨fun i j di dj h => ?_, fun i j di dj hij => ?_⟩
    · have h1 := (hI.ok r0 hr0).up j i dj di h
      have h2 := hb i (hD i di)
      have h3 := hb j (hD j dj)
      show _ - r0 i < _ - r0 j
      omega
    · have h1 := (hI.ok r0 hr0).inj i j di dj hij
      have h2 := hb i (hD i di)
      have h3 := hb j (hD j dj)
      show _ - r0 i ≠ _ - r0 j
      omega
  · obtain ⟨r0, hr0, hb0⟩ := hI.rev j i dj di (fun e => hij e.symm) h
    have hb := (bnd_ex r0 n).choose_spec
    refine ⟨_, List.mem_map_of_mem hr0, ?_⟩
    have h2 := hb i (hD i di)
    have h3 := hb j (hD j dj)
    show _ - r0 j < _ - r0 i
    omega
/-- A minimal and a maximal element that are not comparable: one list more. -/
def pKey (lt : Nat → Nat → Bool) (a b z : Nat) : Nat := if z = a then 3 else if z = b then 1 else if lt z b = true then 0 else if lt a z = true then 4 else 2
def pRk (r : Nat → Nat) (N a b z : Nat) : Nat := if z = a then 0 else if z = b then N + 1 else r z + 1
theorem dim_pair {lt : Nat → Nat → Bool} {n : Nat} (hp : PoN lt n) {D : Nat → Prop} (hD : ∀ i, D i → i < n) {a b : Nat} (ha : D a) (hb : D b) (hab : a ≠ b) (hmin : ∀ y, D y → lt y a = false) (hmax : ∀ y, D y → lt b y = false) (hinc : lt a b = false) {m : Nat} (h : DimLe lt (wo (wo D a) b) m) : DimLe lt D (m + 1) := by
  obtain ⟨rs, hI, hlen⟩ := h
  obtain ⟨r0, hr0⟩ := List.exists_mem_of_ne_nil _ hI.ne
  have h0 := hI.ok r0 hr0
  obtain ⟨N0, hN0⟩ := bndD hD r0
  have hw : ∀ z, D z → z ≠ a → z ≠ b → wo (wo D a) b z := fun z dz h1 h2 => ⟨⟨dz, h1⟩, h2⟩
  have ka : pKey lt a b a = 3 := by unfold pKey; rw [if_pos rfl]
  have kb : pKey lt a b b = 1 := by unfold pKey; rw [if_neg (fun e => hab e.symm), if_pos rfl]
  have kz : ∀ z, z ≠ a → z ≠ b → pKey lt a b z = if lt z b = true then 0 else if lt a z = true then 4 else 2 := fun z h1 h2 => by unfold pKey; rw [if_neg h1, if_neg h2]
  have kne : ∀ z, z ≠ a → z ≠ b → pKey lt a b z ≠ 3 ∧ pKey lt a b z ≠ 1 := fun z h1 h2 => by
    rw [kz z h1 h2]; split
    · omega
    · split <;> omega
  have hkey : ∀ z, (pKey lt a b z = 3 → z = a) ∧ (pKey lt a b z = 1 → z = b) := fun z => by
    by_cases h1 : z = a
    · subst h1; exact ⟨fun _ => rfl, fun h => by rw [ka] at h; omega⟩
    · by_cases h2 : z = b
      · subst h2; exact ⟨fun h => by rw [kb] at h; omega, fun _ => rfl⟩
      · exact ⟨fun h => absurd h (kne z h1 h2).1, fun h => absurd h (kne z h1 h2).2⟩
  have hL0 : RkOk lt D (lexR (pKey lt a b) N0 r0) := by
    refine lex_ok hN0 (fun i j di dj hij => ?_) (fun i j di dj hij e => ?_) (fun i j di dj hij e => ?_)
    · by_cases hia : i = a
      · subst hia
        have hja : j ≠ i := fun e => by subst e; exact ltpos (hp.irr j) hij
        have hjb : j ≠ b := fun e => by subst e; exact ltpos hinc hij
        have : ¬ lt j b = true := fun h => ltpos hinc (hp.trans i j b hij h)
        rw [ka, kz j hja hjb, if_neg this, if_pos hij]; omega
      · have hja : j ≠ a := fun e => by subst e; exact ltpos (hmin i di) hij
        have hib : i ≠ b := fun e => by subst e; exact ltpos (hmax j dj) hij
        by_cases hjb : j = b
        · subst hjb; rw [kb, kz i hia hib, if_pos hij]; omega
        · rw [kz i hia hib, kz j hja hjb]
          by_cases h1 : lt j b = true
          · rw [if_pos (hp.trans i j b hij h1), if_pos h1]; exact Nat.le_refl _
          · rw [if_neg h1]
            by_cases h2 : lt a i = true
            · rw [if_pos (hp.trans a i j h2 hij), if_pos h2]; split <;> omega
            · by_cases h3 : lt i b = true
              · rw [if_pos h3]; split <;> omega
              · rw [if_neg h3, if_neg h2]; split <;> omega
    · have hia : i ≠ a := fun e' => by
        subst e'
        rw [ka] at e
        have := (hkey j).1 e.symm
        subst this; exact ltpos (hp.irr j) hij
      have hib : i ≠ b := fun e' => by
        subst e'
        exact ltpos (hmax j dj) hij
      have hja : j ≠ a := fun e' => by subst e'; exact ltpos (hmin i di) hij
      have hjb : j ≠ b := fun e' => by
        subst e'
        rw [kb] at e
        exact hib ((hkey i).2 e)
      exact h0.up i j (hw i di hia hib) (hw j dj hja hjb) hij
    · have hia : i ≠ a := fun e' => by
        subst e'
        rw [ka] at e
        exact hij ((hkey j).1 e.symm).symm
      have hib : i ≠ b := fun e' => by
        subst e'
        rw [kb] at e
        exact hij ((hkey j).2 e.symm).symm
      have hja : j ≠ a := fun e' => by
        subst e'
        rw [ka] at e
        exact hij ((hkey i).1 e)
      have hjb : j ≠ b := fun e' => by
        subst e'
        rw [kb] at e
        exact hij ((hkey i).2 e)
      exact h0.inj i j (hw i di hia hib) (hw j dj hja hjb) hij
  have pa : ∀ r N, pRk r N a b a = 0 := fun r N => by unfold pRk; rw [if_pos rfl]
  have pb : ∀ r N, pRk r N a b b = N + 1 := fun r N => by unfold pRk; rw [if_neg (fun e => hab e.symm), if_pos rfl]
  have pz : ∀ r N z, z ≠ a → z ≠ b → pRk r N a b z = r z + 1 := fun r N z h1 h2 => by unfold pRk; rw [if_neg h1, if_neg h2]
  have hbnd := fun r => (bndD hD r).choose_spec
  have hpos : ∀ r z, D z → z ≠ a → 0 < pRk r (bndD hD r).choose a b z := fun r z dz h1 => by
    by_cases h2 : z = b
    · subst h2; rw [pb]; omega
    · rw [pz r _ z h1 h2]; omega
  have htop : ∀ r z, D z → z ≠ b → pRk r (bndD hD r).choose a b z < (bndD hD r).choose + 1 := fun r z dz h2 => by
    by_cases h1 : z = a
    · subst h1; rw [pa]; omega
    · rw [pz r _ z h1 h2]; have := hbnd r z dz; omega
  refine ⟨lexR (pKey lt a b) N0 r0 :: rs.map (fun r => pRk r (bndD hD r).choose a b), ⟨by simp, fun r hr => ?_, fun i j di dj hij hl => ?_⟩, by simp [hlen]⟩
  · rcases List.mem_cons.1 hr with rfl | hr
    · exact hL0
    · obtain ⟨r1, hr1, rfl⟩ := List.mem_map.1 hr
      have h1 := hI.ok r1 hr1
      refine ⟨fun i j di dj hij => ?_, fun i j di dj hij e => ?_⟩
      · have hja : j ≠ a := fun e => by subst e; exact ltpos (hmin i di) hij
        have hib : i ≠ b := fun e => by subst e; exact ltpos (hmax j dj) hij
        by_cases hia : i = a
        · subst hia; rw [pa]; exact hpos r1 j dj hja
        · by_cases hjb : j = b
          · subst hjb; rw [pb]; exact htop r1 i di hib
          · rw [pz r1 _ i hia hib, pz r1 _ j hja hjb]
            have := h1.up i j (hw i di hia hib) (hw j dj hja hjb) hij
            omega
      · by_cases hia : i = a
        · subst hia
          have := hpos r1 j dj (fun e => hij e.symm)
          simp only [pa] at e; omega
        · by_cases hja : j = a
          · subst hja
            have := hpos r1 i di hia
            simp only [pa] at e; omega
          · by_cases hib : i = b
            · subst hib
              have := htop r1 j dj (fun e => hij e.symm)
              simp only [pb] at e; omega
            · by_cases hjb : j = b
              · subst hjb
                have := htop r1 i di hib
                simp only [pb] at e; omega
              · have := h1.inj i j (hw i di hia hib) (hw j dj hja hjb) hij
                simp only [pz r1 _ i hia hib, pz r1 _ j hja hjb] at e
                omega
  · have inL0 : ∀ {x y : Nat}, D x → pKey lt a b x < pKey lt a b y → ∃ r ∈ lexR (pKey lt a b) N0 r0 :: rs.map (fun r => pRk r (bndD hD r).choose a b), r x < r y := fun dx h => ⟨_, List.mem_cons_self .., lex_lt (hN0 _ dx) h⟩
    by_cases hia : i = a
    · subst hia
      refine inL0 dj ?_
      rw [ka]
      by_cases hjb : j = b
      · subst hjb; rw [kb]; omega
      · rw [kz j (fun e => hij e.symm) hjb]
        split
        · omega
        · rw [if_neg (fun h => ltpos hl h)]; omega
    · by_cases hja : j = a
      · subst hja
        exact ⟨_, List.mem_cons_of_mem _ (List.mem_map_of_mem hr0), by rw [pa]; exact hpos r0 i di hia⟩
      · by_cases hjb : j = b
        · subst hjb
          refine inL0 dj ?_
          rw [kb, kz i hia hij, if_neg (fun h => ltpos hl h)]
          split <;> omega
        · by_cases hib : i = b
          · subst hib
            exact ⟨_, List.mem_cons_of_mem _ (List.mem_map_of_mem hr0), by rw [pb]; exact htop r0 j dj hjb⟩
          · obtain ⟨r, hr, hb'⟩ := hI.rev i j (hw i di hia hib) (hw j dj hja hjb) hij hl
            exact ⟨_, List.mem_cons_of_mem _ (List.mem_map_of_mem hr), by rw [pz r _ i hia hib, pz r _ j hja hjb]; omega⟩
def twA (r : Nat → Nat) (x y z : Nat) : Nat := if z = y then 2 * r x + 1 else 2 * r z
def twB (r : Nat → Nat) (x y z : Nat) : Nat := if z = y then 2 * r x else 2 * r z + 1
/-- Twins: elements that are related to all others alike. -/
theorem dim_twin {lt : Nat → Nat → Bool} {D : Nat → Prop} {x y : Nat} (hx : D x) (hxy : x ≠ y) (h1 : lt x y = false) (h2 : lt y x = false) (htw : ∀ z, D z → z ≠ x → z ≠ y → lt z y = lt z x ∧ lt y z = lt x z) (hirr : ∀ i, lt i i = false) {m : Nat} (hm : 2 ≤ m) (h : DimLe lt (wo D y) m) : DimLe lt D m := by
  obtain ⟨rs, hI, hlen⟩ := h
  match rs, hI, hlen with
  | [], _, hlen => simp at hlen; omega
  | [_], _, hlen => simp at hlen; omega
  | r1 :: r2 :: rest, hI, hlen =>
    have hA : ∀ (r : Nat → Nat) (z : Nat), z ≠ y → twA r x y z = 2 * r z := fun r z h => if_neg h
    have hB : ∀ (r : Nat → Nat) (z : Nat), z ≠ y → twB r x y z = 2 * r z + 1 := fun r z h => if_neg h
    have hAy : ∀ r : Nat → Nat, twA r x y y = 2 * r x + 1 := fun r => if_pos rfl
    have hBy : ∀ r : Nat → Nat, twB r x y y = 2 * r x := fun r => if_pos rfl
    have hwx : wo D y x := ⟨hx, hxy⟩
    have lty : ∀ i, D i → lt i y = true → i ≠ y ∧ i ≠ x ∧ lt i x = true := fun i di h => by
      have e1 : i ≠ y := fun e => by subst e; exact ltpos (hirr i) h
      have e2 : i ≠ x := fun e => by subst e; exact ltpos h1 h
      exact ⟨e1, e2, by rw [← (htw i di e2 e1).1]; exact h⟩
    have ylt : ∀ j, D j → lt y j = true → j ≠ y ∧ j ≠ x ∧ lt x j = true := fun j dj h => by
      have e1 : j ≠ y := fun e => by subst e; exact ltpos (hirr j) h
      have e2 : j ≠ x := fun e => by subst e; exact ltpos h2 h
      exact ⟨e1, e2, by rw [← (htw j dj e2 e1).2]; exact h⟩
    have okA : ∀ r, RkOk lt (wo D y) r → RkOk lt D (twA r x y) := fun r hr => by
      refine ⟨fun i j di dj hij => ?_, fun i j di dj hij e => ?_⟩
      · by_cases hi : i = y
        · subst hi
          obtain ⟨e1, e2, e3⟩ := ylt j dj hij
          have := hr.up x j hwx ⟨dj, e1⟩ e3
          rw [hAy, hA r j e1]; omega
        · by_cases hj : j = y
          · subst hj
            obtain ⟨e1, e2, e3⟩ := lty i di hij
            have := hr.up i x ⟨di, e1⟩ hwx e3
            rw [hAy, hA r i e1]; omega
          · have := hr.up i j ⟨di, hi⟩ ⟨dj, hj⟩ hij
            rw [hA r i hi, hA r j hj]; omega
      · by_cases hi : i = y
        · subst hi
          rw [hAy, hA r j (fun e => hij e.symm)] at e; omega
        · by_cases hj : j = y
          · subst hj; rw [hAy, hA r i hi] at e; omega
          · have := hr.inj i j ⟨di, hi⟩ ⟨dj, hj⟩ hij
            rw [hA r i hi, hA r j hj] at e; omega
    have okB : ∀ r, RkOk lt (wo D y) r → RkOk lt D (twB r x y) := fun r hr => by
      refine ⟨fun i j di dj hij => ?_, fun i j di dj hij e => ?_⟩
      · by_cases hi : i = y
        · subst hi
          obtain ⟨e1, e2, e3⟩ := ylt j dj hij
          have := hr.up x j hwx ⟨dj, e1⟩ e3
          rw [hBy, hB r j e1]; omega
        · by_cases hj : j = y
          · subst hj
            obtain ⟨e1, e2, e3⟩ := lty i di hij
            have := hr.up i x ⟨di, e1⟩ hwx e3
            rw [hBy, hB r i e1]; omega
          · have := hr.up i j ⟨di, hi⟩ ⟨dj, hj⟩ hij
            rw [hB r i hi, hB r j hj]; omega
      · by_cases hi : i = y
        · subst hi
          rw [hBy, hB r j (fun e => hij e.symm)] at e; omega
        · by_cases hj : j = y
          · subst hj; rw [hBy, hB r i hi] at e; omega
          · have := hr.inj i j ⟨di, hi⟩ ⟨dj, hj⟩ hij
            rw [hB r i hi, hB r j hj] at e; omega
    -- what a rank has turned round stays so
    have keep : ∀ r ∈ r1 :: r2 :: rest, ∃ r' ∈ twA r1 x y :: (r2 :: rest).map (fun r => twB r x y), (∀ i j, i ≠ y → j ≠ y → r j < r i → r' j < r' i) ∧ (∀ j, j ≠ y → r j < r x → r' j < r' y) ∧ (∀ i, i ≠ y → r x < r i → r' y < r' i) := fun r hr => by
      rcases List.mem_cons.1 hr with rfl | hr
      · refine ⟨_, List.mem_cons_self .., fun i j hi hj h => ?_, fun j hj h => ?_, fun i hi h => ?_⟩
        · rw [hA r i hi, hA r j hj]; omega
        · rw [hAy, hA r j hj]; omega
        · rw [hAy, hA r i hi]; omega
      · refine ⟨_, List.mem_cons_of_mem _ (List.mem_map_of_mem hr), fun i j hi hj h => ?_, fun j hj h => ?_, fun i hi h => ?_⟩
        · rw [hB r i hi, hB r j hj]; omega
        · rw [hBy, hB r j hj]; omega
        · rw [hBy, hB r i hi]; omega
    refine ⟨twA r1 x y :: (r2 :: rest).map (fun r => twB r x y), ⟨by simp, fun r hr => ?_, fun i j di dj hij hl => ?_⟩, by simpa using hlen⟩
    · rcases List.mem_cons.1 hr with rfl | hr
      · exact okA r1 (hI.ok r1 (List.mem_cons_self ..))
      · obtain ⟨r0, hr0, rfl⟩ := List.mem_map.1 hr
        exact okB r0 (hI.ok r0 (List.mem_cons_of_mem _ hr0))
    · by_cases hi : i = y
      · subst hi
        by_cases hj : j = x
        · subst hj
          exact ⟨_, List.mem_cons_self .., by rw [hAy, hA r1 j hxy]; omega⟩
        · have hlx : lt x j = false := by rw [← (htw j dj hj (fun e => hij e.symm)).2]; exact hl
          obtain ⟨r, hr, hb⟩ := hI.rev x j hwx ⟨dj, fun e => hij e.symm⟩ (fun e => hj e.symm) hlx
          obtain ⟨r', hr', _, k2, _⟩ := keep r hr
          exact ⟨r', hr', k2 j (fun e => hij e.symm) hb⟩
      · by_cases hj : j = y
        · subst hj
          by_cases hix : i = x
          · subst hix
            have h5 : twB r2 i j j < twB r2 i j i := by rw [hBy, hB r2 i hxy]; omega
            exact ⟨_, List.mem_cons_of_mem _ (List.mem_cons_self ..), h5⟩
          · have hlx : lt i x = false := by rw [← (htw i di hix hi).1]; exact hl
            obtain ⟨r, hr, hb⟩ := hI.rev i x ⟨di, hi⟩ hwx hix hlx
            obtain ⟨r', hr', _, _, k3⟩ := keep r hr
            exact ⟨r', hr', k3 i hi hb⟩
        · obtain ⟨r, hr, hb⟩ := hI.rev i j ⟨di, hi⟩ ⟨dj, hj⟩ hij hl
          obtain ⟨r', hr', k1, _, _⟩ := keep r hr
          exact ⟨r', hr', k1 i j hi hj hb⟩
/-- A rank there is. -/
theorem PoN.rank {lt : Nat → Nat → Bool} {n : Nat} (hp : PoN lt n) : ∃ r, RkOk lt (· < n) r := by
  have hu := hp.tab
  have hus := tabF_sq n lt
  obtain ⟨hE, hb⟩ := ordO_each hus (hu.acyc hus)
  refine ⟨lsR n (natL (ordO n (tabF n lt) n [])), fun i j hi hj h => (lsR_lt hE hi hj).2 (hb i j hi hj (by rw [atT_tabF hi hj]; exact h)), fun i j hi hj hij e => ?_⟩
  have h1 : ¬ bfA n i j (natL (ordO n (tabF n lt) n [])) = true := fun h => by have := (lsR_lt hE hi hj).2 h; omega
  have h2 : ¬ bfA n j i (natL (ordO n (tabF n lt) n [])) = true := fun h => by have := (lsR_lt hE hj hi).2 h; omega
  rw [bfA_or hE hi hj hij] at h2
  cases e2 : bfA n i j (natL (ordO n (tabF n lt) n [])) with
  | true => exact h1 e2
  | false => rw [e2] at h2; exact h2 rfl
/-- Chains that cover: as many lists. -/
def chF (lt : Nat → Nat → Bool) (n : Nat) (ch : Nat → Nat) (c z : Nat) : Nat := ((List.range n).filter fun y => decide (ch y = c) && (decide (y = z) || lt y z)).length
theorem dim_chain {lt : Nat → Nat → Bool} {n : Nat} (hp : PoN lt n) {w : Nat} (hw : 0 < w) (ch : Nat → Nat) (hch : ∀ i, i < n → ch i < w) (hcc : ∀ i j, i < n → j < n → ch i = ch j → i ≠ j → lt i j = true ∨ lt j i = true) : DimLe lt (· < n) w := by
  obtain ⟨r0, h0⟩ := hp.rank
  obtain ⟨N, hN⟩ := bnd_ex r0 n
  have hup : ∀ c i j, lt i j = true → chF lt n ch c i ≤ chF lt n ch c j := fun c i j hij => by
    unfold chF
    refine filter_le_of fun y _ hy => ?_
    simp only [Bool.and_eq_true, Bool.or_eq_true, decide_eq_true_eq] at hy ⊢
    refine ⟨hy.1, .inr ?_⟩
    rcases hy.2 with rfl | h
    · exact hij
    · exact hp.trans y i j h hij
  refine ⟨(List.range w).map fun c => lexR (chF lt n ch c) N r0, ⟨by simp; omega, fun r hr => ?_, fun i j hi hj hij hl => ?_⟩, by simp⟩
  · obtain ⟨c, _, rfl⟩ := List.mem_map.1 hr
    exact lex_ok hN (fun i j _ _ h => hup c i j h) (fun i j di dj h _ => h0.up i j di dj h) (fun i j di dj h _ => h0.inj i j di dj h)
  · refine ⟨_, List.mem_map_of_mem (List.mem_range.2 (hch i hi)), ?_⟩
    cases hji : lt j i with
    | true =>
      rcases Nat.lt_or_eq_of_le (hup (ch i) j i hji) with h | h
      · exact lex_lt (hN j hj) h
      · exact lex_eq h (h0.up j i hj hi hji)
    | false =>
      refine lex_lt (hN j hj) ?_
      unfold chF
      refine filter_lt (fun y hy h => ?_) ⟨i, List.mem_range.2 hi, by simp, ?_⟩
      · simp only [Bool.and_eq_true, Bool.or_eq_true, decide_eq_true_eq] at h ⊢
        refine ⟨h.1, ?_⟩
        by_cases e : y = i
        · exact .inl e
        · right
          rcases hcc y i (List.mem_range.1 hy) hi h.1 e with h3 | h3
          · exact h3
          · exfalso
            rcases h.2 with rfl | h4
            · exact ltpos hl h3
            · exact ltpos hl (hp.trans i y j h3 h4)
      · rw [hl, decide_eq_false hij]; simp
/-- Two levels, fully related. -/
theorem dim_two {lt : Nat → Nat → Bool} {n : Nat} {D : Nat → Prop} (hD : ∀ i, D i → i < n) (A : Nat → Bool) (h : ∀ i j, D i → D j → lt i j = (A i && !A j)) : DimLe lt D 2 := by
  have hf : ∀ i j, D i → D j → lt i j = true → (if A i = true then 0 else 1) < (if A j = true then 0 else 1) := fun i j di dj hij => by
    rw [h i j di dj] at hij
    simp only [Bool.and_eq_true, Bool.not_eq_true'] at hij
    rw [hij.1, hij.2]; decide
  refine ⟨[lexR (fun i => if A i = true then 0 else 1) n id, lexR (fun i => if A i = true then 0 else 1) n fun i => n - 1 - i], ⟨by simp, fun r hr => ?_, fun i j di dj hij hl => ?_⟩, rfl⟩
  · simp only [List.mem_cons, List.not_mem_nil, or_false] at hr
    rcases hr with rfl | rfl
    · exact lex_ok (fun i di => hD i di) (fun i j di dj hij => Nat.le_of_lt (hf i j di dj hij)) (fun i j di dj hij e => by have := hf i j di dj hij; omega) (fun i j _ _ hij _ => hij)
    · exact lex_ok (fun i di => by have := hD i di; omega) (fun i j di dj hij => Nat.le_of_lt (hf i j di dj hij)) (fun i j di dj hij e => by have := hf i j di dj hij; omega) (fun i j di dj hij _ => by have := hD i di; have := hD j dj; omega)
  · have hi := hD i di
    have hj := hD j dj
    rcases Nat.lt_trichotomy (if A j = true then 0 else 1) (if A i = true then 0 else 1) with h1 | h1 | h1
    · exact ⟨_, List.mem_cons_self .., lex_lt (r := id) hj h1⟩
    · rcases Nat.lt_or_gt_of_ne hij with h2 | h2
      · exact ⟨_, List.mem_cons_of_mem _ (List.mem_cons_self ..), lex_eq h1 (by show n - 1 - j < n - 1 - i; omega)⟩
      · exact ⟨_, List.mem_cons_self .., lex_eq (r := id) h1 h2⟩
    · exfalso
      rw [h i j di dj] at hl
      cases hA : A i <;> cases hB : A j <;> rw [hA, hB] at hl h1 <;> simp at hl h1
end Go.AM

/- Seven elements: at most three lists. -/
namespace Go.AM
section
variable {lt : Nat → Nat → Bool} {n : Nat}
/-- Elements as a list. -/
theorem five_list (hp : PoN lt n) {ds : List Nat} (hnd : ds.Nodup) (hl : ds.length ≤ 5) : DimLe lt (· ∈ ds) 2 := by
  obtain ⟨f, hf⟩ : ∃ f : Nat → Nat → Bool, f = fun i j => decide (i < ds.length) && decide (j < ds.length) && lt (ds.getD i 0) (ds.getD j 0) := ⟨_, rfl⟩
  have hfd : ∀ i j, f i j = (decide (i < ds.length) && decide (j < ds.length) && lt (ds.getD i 0) (ds.getD j 0)) := fun i j => by rw [hf]
  have hpf : PoN f 5 := by
    refine ⟨fun i => by rw [hfd, hp.irr, Bool.and_false], fun i j k h1 h2 => ?_, fun i j h => ?_⟩
    · rw [hfd] at *
      simp only [Bool.and_eq_true, decide_eq_true_eq] at *
      exact ⟨⟨h1.1.1, h2.1.2⟩, hp.trans _ _ _ h1.2 h2.2⟩
    · rw [hfd] at h
      simp only [Bool.and_eq_true, decide_eq_true_eq] at h
      omega
  obtain ⟨rs, hI, hlen⟩ := five hpf
  have hpos : ∀ z, z ∈ ds → ds.idxOf z < ds.length ∧ ds.getD (ds.idxOf z) 0 = z := fun z hz => by
    have h1 := List.idxOf_lt_length_of_mem hz
    refine ⟨h1, ?_⟩
    rw [List.getD_eq_getElem?_getD, List.getElem?_eq_getElem h1]
    simp
  have hinj : ∀ i j, i ∈ ds → j ∈ ds → i ≠ j → ds.idxOf i ≠ ds.idxOf j := fun i j hi hj hij e => by
    have h1 := (hpos i hi).2
    rw [e, (hpos j hj).2] at h1
    exact hij h1.symm
  have hlt : ∀ i j, i ∈ ds → j ∈ ds → f (ds.idxOf i) (ds.idxOf j) = lt i j := fun i j hi hj => by
    rw [hfd, (hpos i hi).2, (hpos j hj).2, decide_eq_true (hpos i hi).1, decide_eq_true (hpos j hj).1]; rfl
  refine ⟨rs.map fun r z => r (ds.idxOf z), ⟨by simpa using hI.ne, fun r hr => ?_, fun i j hi hj hij hl0 => ?_⟩, by simpa using hlen⟩
  · obtain ⟨r0, hr0, rfl⟩ := List.mem_map.1 hr
    have h0 := hI.ok r0 hr0
    refine ⟨fun i j hi hj h => ?_, fun i j hi hj hij => ?_⟩
    · exact h0.up _ _ (by have := (hpos i hi).1; omega) (by have := (hpos j hj).1; omega) (by rw [hlt i j hi hj]; exact h)
    · exact h0.inj _ _ (by have := (hpos i hi).1; omega) (by have := (hpos j hj).1; omega) (hinj i j hi hj hij)
  · obtain ⟨r0, hr0, hb⟩ := hI.rev _ _ (by have := (hpos i hi).1; omega) (by have := (hpos j hj).1; omega) (hinj i j hi hj hij) (by rw [hlt i j hi hj]; exact hl0)
    exact ⟨_, List.mem_map_of_mem hr0, hb⟩
theorem wo_erase {ds : List Nat} (hnd : ds.Nodup) {x : Nat} (i : Nat) : wo (· ∈ ds) x i ↔ i ∈ ds.erase x := by
  rw [hnd.mem_erase_iff]; exact ⟨fun h => ⟨h.2, h.1⟩, fun h => ⟨h.2, h.1⟩⟩
theorem DimLe.er {ds : List Nat} (hnd : ds.Nodup) {x m : Nat} (h : DimLe lt (· ∈ ds.erase x) m) : DimLe lt (wo (· ∈ ds) x) m := h.sub fun i hi => (wo_erase hnd i).1 hi
/-- One element more, in any list. -/
theorem add_list (hp : PoN lt n) {ds : List Nat} (hnd : ds.Nodup) (hD : ∀ i ∈ ds, i < n) {x : Nat} (hx : x ∈ ds) {m : Nat} (h : DimLe lt (· ∈ ds.erase x) m) : DimLe lt (· ∈ ds) (m + 1) := by
  obtain ⟨f, hf⟩ : ∃ f : Nat → Nat → Bool, f = fun i j => ds.contains i && ds.contains j && lt i j := ⟨_, rfl⟩
  have hfd : ∀ i j, f i j = (ds.contains i && ds.contains j && lt i j) := fun i j => by rw [hf]
  have hin : ∀ i j, i ∈ ds → j ∈ ds → f i j = lt i j := fun i j hi hj => by
    rw [hfd, List.contains_iff_mem.2 hi, List.contains_iff_mem.2 hj]; rfl
  have hpf : PoN f n := by
    refine ⟨fun i => by rw [hfd, hp.irr, Bool.and_false], fun i j k h1 h2 => ?_, fun i j h => ?_⟩
    · rw [hfd] at *
      simp only [Bool.and_eq_true] at *
      exact ⟨⟨h1.1.1, h2.1.2⟩, hp.trans _ _ _ h1.2 h2.2⟩
    · rw [hfd] at h
      simp only [Bool.and_eq_true] at h
      exact hp.rng i j h.2
  have h1 : DimLe f (wo (· ∈ ds) x) m := (h.er hnd).congr (fun i h => h) fun i j hi hj => hin i j hi.1 hj.1
  have h2 := dim_add hpf hD hx (fun y hy => by
    rw [hfd] at hy
    simp only [Bool.and_eq_true] at hy
    exact List.contains_iff_mem.1 hy.1.1) h1
  exact h2.congr (fun i h => h) fun i j hi hj => (hin i j hi hj).symm
theorem six_list (hp : PoN lt n) {ds : List Nat} (hnd : ds.Nodup) (hD : ∀ i ∈ ds, i < n) (hl : ds.length ≤ 6) : DimLe lt (· ∈ ds) 3 := by
  cases ds with
  | nil => exact (five_list hp hnd (by simp)).succ
  | cons x l =>
    refine add_list hp hnd hD (List.mem_cons_self ..) (five_list hp (hnd.erase x) ?_)
    rw [List.erase_cons_head]; simp at hl; omega
/-- Two elements have each its own among those that are related to one of the two. -/
theorem two_sdr {L : List Nat} {p q : Nat → Bool} (h1 : ∃ x ∈ L, p x = true) (h2 : ∃ x ∈ L, q x = true) (h3 : ∀ x ∈ L, ∃ y ∈ L, y ≠ x ∧ (p y = true ∨ q y = true)) : ∃ x ∈ L, ∃ y ∈ L, x ≠ y ∧ p x = true ∧ q y = true := by
  obtain ⟨x, hx, hpx⟩ := h1
  obtain ⟨y, hy, hqy⟩ := h2
  by_cases e : x = y
  · subst e
    obtain ⟨z, hz, hzx, hz2⟩ := h3 x hx
    rcases hz2 with h | h
    · exact ⟨z, hz, x, hx, hzx, h, hqy⟩
    · exact ⟨x, hx, z, hz, fun e => hzx e.symm, hpx, h⟩
  · exact ⟨x, hx, y, hy, e, hpx, hqy⟩
/-- Minimal, maximal. -/
def mnB (lt : Nat → Nat → Bool) (n z : Nat) : Bool := (List.range n).all fun y => !lt y z
def mxB (lt : Nat → Nat → Bool) (n z : Nat) : Bool := (List.range n).all fun y => !lt z y
theorem mnB_iff (hp : PoN lt n) {z : Nat} : mnB lt n z = true ↔ ∀ y, lt y z = false := by
  unfold mnB
  rw [List.all_eq_true]
  constructor
  · intro h y
    cases e : lt y z with
    | false => rfl
    | true => have := h y (List.mem_range.2 (hp.rng y z e).1); rw [e] at this; cases this
  · intro h y _; rw [h y]; rfl
theorem mxB_iff (hp : PoN lt n) {z : Nat} : mxB lt n z = true ↔ ∀ y, lt z y = false := by
  unfold mxB
  rw [List.all_eq_true]
  constructor
  · intro h y
    cases e : lt z y with
    | false => rfl
    | true => have := h y (List.mem_range.2 (hp.rng z y e).2); rw [e] at this; cases this
  · intro h y _; rw [h y]; rfl
theorem min_below (hp : PoN lt n) : ∀ (m z : Nat), ((List.range n).filter fun y => lt y z).length ≤ m → z < n → ∃ a, a < n ∧ mnB lt n a = true ∧ (a = z ∨ lt a z = true)
  | 0, z, h, hz => by
    refine ⟨z, hz, (mnB_iff hp).2 fun y => ?_, .inl rfl⟩
    cases e : lt y z with
    | false => rfl
    | true =>
      have : y ∈ (List.range n).filter fun y => lt y z := List.mem_filter.2 ⟨List.mem_range.2 (hp.rng y z e).1, e⟩
      have := List.length_pos_of_mem this
      omega
  | m + 1, z, h, hz => by
    rcases Classical.em (∃ y, lt y z = true) with ⟨y, hy⟩ | hno
    · have hlt : ((List.range n).filter fun k => lt k y).length < ((List.range n).filter fun k => lt k z).length :=
        filter_lt (fun k _ hk => hp.trans k y z hk hy) ⟨y, List.mem_range.2 (hp.rng y z hy).1, hy, hp.irr y⟩
      obtain ⟨a, h1, h2, h3⟩ := min_below hp m y (by omega) (hp.rng y z hy).1
      refine ⟨a, h1, h2, .inr ?_⟩
      rcases h3 with rfl | h3
      · exact hy
      · exact hp.trans a y z h3 hy
    · exact ⟨z, hz, (mnB_iff hp).2 fun y => by
        cases e : lt y z with
        | false => rfl
        | true => exact absurd ⟨y, e⟩ hno, .inl rfl⟩
theorem PoN.dual (hp : PoN lt n) : PoN (fun i j => lt j i) n := ⟨hp.irr, fun i j k h1 h2 => hp.trans k j i h2 h1, fun i j h => ⟨(hp.rng j i h).2, (hp.rng j i h).1⟩⟩
theorem max_above (hp : PoN lt n) {z : Nat} (hz : z < n) : ∃ b, b < n ∧ mxB lt n b = true ∧ (b = z ∨ lt z b = true) := by
  obtain ⟨a, h1, h2, h3⟩ := min_below hp.dual n z (by have := List.length_filter_le (fun y => lt z y) (List.range n); simpa using this) hz
  exact ⟨a, h1, h2, h3⟩
/-- The hard case: all minimal elements are below all maximal ones, and no element is comparable to all. -/
structure Hard (lt : Nat → Nat → Bool) (n : Nat) : Prop where
  po : PoN lt n
  ab : ∀ a b, a < n → b < n → a ≠ b → mnB lt n a = true → mxB lt n b = true → lt a b = true
  nc : ∀ x, x < n → ∃ y, y < n ∧ y ≠ x ∧ lt x y = false ∧ lt y x = false
theorem Hard.dual (h : Hard lt n) : Hard (fun i j => lt j i) n :=
  ⟨h.po.dual, fun a b ha hb hab h1 h2 => h.ab b a hb ha (fun e => hab e.symm) h2 h1, fun x hx => by
    obtain ⟨y, h1, h2, h3, h4⟩ := h.nc x hx
    exact ⟨y, h1, h2, h4, h3⟩⟩
theorem Hard.mn (h : Hard lt n) {z : Nat} (hz : z < n) : ∃ a, a < n ∧ mnB lt n a = true ∧ (a = z ∨ lt a z = true) :=
  min_below h.po n z (by have := List.length_filter_le (fun y => lt y z) (List.range n); simpa using this) hz
theorem Hard.dis (h : Hard lt n) {z : Nat} (hz : z < n) (h1 : mnB lt n z = true) (h2 : mxB lt n z = true) : False := by
  obtain ⟨y, hy, hyz, h3, h4⟩ := h.nc z hz
  obtain ⟨a, ha, hma, hay⟩ := h.mn hy
  by_cases e : a = z
  · subst e
    rcases hay with e | e
    · exact hyz e.symm
    · exact ltpos h3 e
  · exact ltpos ((mnB_iff h.po).1 h1 a) (h.ab a z ha hz e hma h2)
/-- At least two minimal elements. -/
theorem Hard.two (h : Hard lt n) (hn : 0 < n) : 2 ≤ ((List.range n).filter (mnB lt n)).length := by
  obtain ⟨a, ha, hma, _⟩ := h.mn hn
  obtain ⟨y, hy, hya, h3, h4⟩ := h.nc a ha
  obtain ⟨b, hb, hmb, hby⟩ := h.mn hy
  have hba : b ≠ a := fun e => by
    subst e
    rcases hby with e | e
    · exact hya e.symm
    · exact ltpos h3 e
  have h1 : a ∈ (List.range n).filter (mnB lt n) := List.mem_filter.2 ⟨List.mem_range.2 ha, hma⟩
  have h2 : b ∈ (List.range n).filter (mnB lt n) := List.mem_filter.2 ⟨List.mem_range.2 hb, hmb⟩
  match hL : (List.range n).filter (mnB lt n), h1, h2 with
  | [], h1, _ => simp at h1
  | [c], h1, h2 =>
    rw [List.mem_singleton.1 h1, List.mem_singleton.1 h2] at hba
    exact absurd rfl hba
  | _ :: _ :: _, _, _ => simp
end
end Go.AM

/- Seven elements, the hard case. -/
namespace Go.AM
section
variable {lt : Nat → Nat → Bool} {n : Nat}
theorem ran_er {n x i : Nat} (h : i < n) (hx : i ≠ x) : i ∈ (List.range n).erase x := List.nodup_range.mem_erase_iff.2 ⟨hx, List.mem_range.2 h⟩
theorem er_ran {n x i : Nat} (h : i ∈ (List.range n).erase x) : i < n := List.mem_range.1 (List.mem_of_mem_erase h)
theorem ran_len {n x : Nat} (h : x < n) : ((List.range n).erase x).length = n - 1 := by
  rw [List.length_erase_of_mem (List.mem_range.2 h), List.length_range]
theorem six_er (hp : PoN lt 7) {x : Nat} (hx : x < 7) : DimLe lt (wo (· < 7) x) 3 := by
  have := six_list hp (ds := (List.range 7).erase x) (List.nodup_range.erase x) (fun i hi => er_ran hi) (by rw [ran_len hx]; decide)
  exact this.sub fun i hi => ran_er hi.1 hi.2
theorem five_er (hp : PoN lt 7) {x y : Nat} (hx : x < 7) (hy : y < 7) (hxy : y ≠ x) : DimLe lt (· ∈ ((List.range 7).erase x).erase y) 2 :=
  five_list hp ((List.nodup_range.erase x).erase y) (by rw [List.length_erase_of_mem (ran_er hy hxy), ran_len hx]; decide)
theorem all_er {x m : Nat} (hp : PoN lt 7) (hx : x < 7) (h : DimLe lt (· ∈ (List.range 7).erase x) m) : DimLe lt (· < 7) (m + 1) :=
  (add_list hp List.nodup_range (fun i hi => List.mem_range.1 hi) (List.mem_range.2 hx) h).sub fun i hi => List.mem_range.2 hi
theorem sev_comp (hp : PoN lt 7) {x : Nat} (hx : x < 7) (hc : ∀ y, y < 7 → y ≠ x → lt y x = true ∨ lt x y = true) : DimLe lt (· < 7) 3 :=
  dim_comp hp (fun i h => h) hx hc (six_er hp hx)
theorem sev_pair (hp : PoN lt 7) {a b : Nat} (ha : a < 7) (hb : b < 7) (hab : a ≠ b) (h1 : mnB lt 7 a = true) (h2 : mxB lt 7 b = true) (h3 : lt a b = false) : DimLe lt (· < 7) 3 :=
  dim_pair hp (fun i h => h) ha hb hab (fun y _ => (mnB_iff hp).1 h1 y) (fun y _ => (mxB_iff hp).1 h2 y) h3
    ((five_er hp ha hb (fun e => hab e.symm)).sub fun i hi => ((List.nodup_range.erase a).mem_erase_iff).2 ⟨hi.2, ran_er hi.1.1 hi.1.2⟩)
/-- All but one are minimal or maximal. -/
theorem sev_flat (h : Hard lt 7) {m : Nat} (hm : m < 7) (ha : ∀ z, z < 7 → z ≠ m → mnB lt 7 z = true ∨ mxB lt 7 z = true) : DimLe lt (· < 7) 3 := by
  refine all_er h.po hm (dim_two (fun i hi => er_ran hi) (mnB lt 7) fun i j hi hj => ?_)
  have hi' := er_ran hi
  have hj' := er_ran hj
  have him := ((List.nodup_range.mem_erase_iff).1 hi).1
  have hjm := ((List.nodup_range.mem_erase_iff).1 hj).1
  cases e : mnB lt 7 j with
  | true => rw [(mnB_iff h.po).1 e i]; simp
  | false =>
    cases e2 : mnB lt 7 i with
    | false =>
      rcases ha i hi' him with h1 | h1
      · rw [e2] at h1; cases h1
      · rw [(mxB_iff h.po).1 h1 j]; rfl
    | true =>
      rcases ha j hj' hjm with h1 | h1
      · rw [e] at h1; cases h1
      · rw [h.ab i j hi' hj' (fun e3 => by subst e3; rw [e] at e2; cases e2) e2 h1]; rfl
/-- Two maximal elements that nothing tells apart. -/
theorem sev_twin (h : Hard lt 7) {b c : Nat} (hb : b < 7) (hc : c < 7) (hbc : b ≠ c) (h1 : mxB lt 7 b = true) (h2 : mxB lt 7 c = true) (hno : ∀ m, m < 7 → mnB lt 7 m = false → mxB lt 7 m = false → lt m b = false ∧ lt m c = false) : DimLe lt (· < 7) 3 := by
  have hB := (mxB_iff h.po).1 h1
  have hC := (mxB_iff h.po).1 h2
  refine dim_twin (x := b) (y := c) hb hbc (hB c) (hC b) (fun z hz hzb hzc => ⟨?_, by rw [hB, hC]⟩) h.po.irr (by decide) (six_er h.po hc)
  cases e : mnB lt 7 z with
  | true => rw [h.ab z b hz hb hzb e h1, h.ab z c hz hc hzc e h2]
  | false =>
    cases e2 : mxB lt 7 z with
    | true => rw [(mxB_iff h.po).1 e2, (mxB_iff h.po).1 e2]
    | false => rw [(hno z hz e e2).1, (hno z hz e e2).2]
/-- Of two minimal elements one is below maximal ones only. -/
theorem sev_lone (h : Hard lt 7) {a c : Nat} (ha : a < 7) (hc : c < 7) (hac : a ≠ c) (h2 : mnB lt 7 c = true) (hall : ∀ z, z < 7 → mnB lt 7 z = true → z = a ∨ z = c) (hno : ∀ m, m < 7 → mnB lt 7 m = false → mxB lt 7 m = false → lt a m = false) : DimLe lt (· < 7) 3 := by
  refine all_er h.po ha (dim_comp h.po (fun i hi => er_ran hi) (x := c) (ran_er hc (fun e => hac e.symm)) (fun y hy hyc => .inr ?_) ((five_er h.po ha hc (fun e => hac e.symm)).er (List.nodup_range.erase a)))
  have hy7 := er_ran hy
  have hya := ((List.nodup_range.mem_erase_iff).1 hy).1
  cases e : mnB lt 7 y with
  | true =>
    rcases hall y hy7 e with h3 | h3
    · exact absurd h3 hya
    · exact absurd h3 hyc
  | false =>
    cases e2 : mxB lt 7 y with
    | true => exact h.ab c y hc hy7 (fun e => hyc e.symm) h2 e2
    | false =>
      obtain ⟨z, hz, hmz, hzy⟩ := h.mn hy7
      rcases hzy with h3 | h3
      · rw [h3, e] at hmz; cases hmz
      · rcases hall z hz hmz with h4 | h4
        · rw [h4, hno y hy7 e e2] at h3; cases h3
        · rw [← h4]; exact h3
/-- Chains, named by some elements. -/
theorem dim_key (hp : PoN lt n) {L : List Nat} (hL : L ≠ []) (key : Nat → Nat) (hk : ∀ i, i < n → key i ∈ L) (hcc : ∀ i j, i < n → j < n → key i = key j → i ≠ j → lt i j = true ∨ lt j i = true) : DimLe lt (· < n) L.length := by
  refine dim_chain hp (List.length_pos_iff.2 hL) (fun i => L.idxOf (key i)) (fun i hi => List.idxOf_lt_length_of_mem (hk i hi)) (fun i j hi hj he hij => hcc i j hi hj ?_ hij)
  have h1 := List.getElem_idxOf (List.idxOf_lt_length_of_mem (hk i hi))
  have h2 := List.getElem_idxOf (List.idxOf_lt_length_of_mem (hk j hj))
  rw [← h1, ← h2]
  have he' : L.idxOf (key i) = L.idxOf (key j) := he
  simp only [he']
theorem len3 {p q : Nat → Bool} : ∀ l : List Nat, (∀ x ∈ l, p x = true → q x = true → False) → (l.filter p).length + (l.filter q).length + (l.filter fun x => !p x && !q x).length = l.length
  | [], _ => rfl
  | x :: l, h => by
    have := len3 l fun y hy => h y (List.mem_cons_of_mem _ hy)
    rw [List.filter_cons, List.filter_cons, List.filter_cons]
    cases e1 : p x <;> cases e2 : q x
    · simp; omega
    · simp; omega
    · simp; omega
    · exact (h x (List.mem_cons_self ..) e1 e2).elim
theorem two_of {L : List Nat} (hl : L.length = 2) (hnd : L.Nodup) : ∃ a b, a ≠ b ∧ a ∈ L ∧ b ∈ L ∧ ∀ z, z ∈ L → z = a ∨ z = b := by
  match L, hl, hnd with
  | [a, b], _, hnd =>
    refine ⟨a, b, ?_, by simp, by simp, fun z hz => by simpa using hz⟩
    rw [List.nodup_cons] at hnd
    intro e
    exact hnd.1 (by rw [e]; simp)
theorem other {L : List Nat} (hnd : L.Nodup) (hl : 2 ≤ L.length) (x : Nat) : ∃ y ∈ L, y ≠ x := by
  have h1 : L.length - 1 ≤ (L.erase x).length := by rw [List.length_erase]; split <;> omega
  obtain ⟨y, hy⟩ := List.exists_mem_of_length_pos (l := L.erase x) (by omega)
  exact ⟨y, List.mem_of_mem_erase hy, (hnd.mem_erase_iff.1 hy).1⟩
theorem third {L : List Nat} (hnd : L.Nodup) (hl : 3 ≤ L.length) (x y : Nat) : ∃ z ∈ L, z ≠ x ∧ z ≠ y := by
  obtain ⟨z, hz, hzy⟩ := other (hnd.erase x) (by rw [List.length_erase]; split <;> omega) y
  exact ⟨z, List.mem_of_mem_erase hz, (hnd.mem_erase_iff.1 hz).1, hzy⟩
def mdB (lt : Nat → Nat → Bool) (n z : Nat) : Bool := !mnB lt n z && !mxB lt n z
theorem mdB_iff {z : Nat} : mdB lt n z = true ↔ mnB lt n z = false ∧ mxB lt n z = false := by
  unfold mdB; simp [Bool.and_eq_true]
abbrev lnA (lt : Nat → Nat → Bool) : List Nat := (List.range 7).filter (mnB lt 7)
abbrev lnB (lt : Nat → Nat → Bool) : List Nat := (List.range 7).filter (mxB lt 7)
abbrev lnM (lt : Nat → Nat → Bool) : List Nat := (List.range 7).filter (mdB lt 7)
theorem fnd (p : Nat → Bool) : ((List.range n).filter p).Nodup := List.nodup_range.sublist List.filter_sublist
theorem mfr {p : Nat → Bool} {z : Nat} : z ∈ (List.range n).filter p ↔ z < n ∧ p z = true := by
  rw [List.mem_filter, List.mem_range]
/-- What is above a minimal one, in the middle. -/
theorem Hard.md (h : Hard lt 7) {a c : Nat} (hall : ∀ z, z ∈ lnA lt → z = a ∨ z = c) {m : Nat} (hm : m ∈ lnM lt) : lt a m = true ∨ lt c m = true := by
  obtain ⟨hm7, hmm⟩ := mfr.1 hm
  obtain ⟨e, e2⟩ := mdB_iff.1 hmm
  obtain ⟨z, hz, hmz, hzm⟩ := h.mn hm7
  rcases hzm with h3 | h3
  · rw [h3, e] at hmz; cases hmz
  · rcases hall z (mfr.2 ⟨hz, hmz⟩) with h4 | h4
    · rw [h4] at h3; exact .inl h3
    · rw [h4] at h3; exact .inr h3
theorem sev_sdrA (h : Hard lt 7) (hA : (lnA lt).length = 2) (hM : 2 ≤ (lnM lt).length) :
    DimLe lt (· < 7) 3 ∨ ∃ f : Nat → Nat, (∀ a ∈ lnA lt, f a ∈ lnM lt ∧ lt a (f a) = true) ∧ ∀ a c, a ∈ lnA lt → c ∈ lnA lt → f a = f c → a = c := by
  obtain ⟨a, c, hac, ha, hc, hall⟩ := two_of hA (fnd _)
  obtain ⟨ha7, hma⟩ := mfr.1 ha
  obtain ⟨hc7, hmc⟩ := mfr.1 hc
  rcases Classical.em (∃ m ∈ lnM lt, lt a m = true) with h1 | h1
  · rcases Classical.em (∃ m ∈ lnM lt, lt c m = true) with h2 | h2
    · obtain ⟨x, hx, y, hy, hxy, hp, hq⟩ := two_sdr (p := lt a) (q := lt c) h1 h2 fun x hx => by
        obtain ⟨y, hy, hyx⟩ := other (fnd (mdB lt 7)) hM x
        exact ⟨y, hy, hyx, h.md hall hy⟩
      have hca : c ≠ a := fun e => hac e.symm
      refine .inr ⟨fun z => if z = a then x else y, fun z hz => ?_, fun z w hz hw e => ?_⟩
      · rcases hall z hz with rfl | rfl
        · simp only [if_true]; exact ⟨hx, hp⟩
        · simp only [if_neg hca]; exact ⟨hy, hq⟩
      · rcases hall z hz with rfl | rfl <;> rcases hall w hw with rfl | rfl
        · rfl
        · simp only [if_true, if_neg hca] at e; exact absurd e hxy
        · simp only [if_true, if_neg hca] at e; exact absurd e.symm hxy
        · rfl
    · refine .inl (sev_lone h hc7 ha7 (fun e => hac e.symm) hma (fun z hz hm => (hall z (mfr.2 ⟨hz, hm⟩)).symm) fun m hm e1 e2 => ?_)
      cases e : lt c m with
      | false => rfl
      | true => exact absurd ⟨m, mfr.2 ⟨hm, mdB_iff.2 ⟨e1, e2⟩⟩, e⟩ h2
  · refine .inl (sev_lone h ha7 hc7 hac hmc (fun z hz hm => hall z (mfr.2 ⟨hz, hm⟩)) fun m hm e1 e2 => ?_)
    cases e : lt a m with
    | false => rfl
    | true => exact absurd ⟨m, mfr.2 ⟨hm, mdB_iff.2 ⟨e1, e2⟩⟩, e⟩ h1
theorem lnM_dual : lnM (fun i j => lt j i) = lnM lt := by
  refine List.filter_congr fun z _ => ?_
  show (!mxB lt 7 z && !mnB lt 7 z) = (!mnB lt 7 z && !mxB lt 7 z)
  rw [Bool.and_comm]
theorem sev_sdrB (h : Hard lt 7) (hB : (lnB lt).length = 2) (hM : 2 ≤ (lnM lt).length) :
    DimLe lt (· < 7) 3 ∨ ∃ g : Nat → Nat, (∀ b ∈ lnB lt, g b ∈ lnM lt ∧ lt (g b) b = true) ∧ ∀ b c, b ∈ lnB lt → c ∈ lnB lt → g b = g c → b = c := by
  rcases sev_sdrA h.dual hB (by rw [lnM_dual]; exact hM) with h1 | ⟨g, h1, h2⟩
  · exact .inl (h1.dual fun i hi => hi)
  · rw [lnM_dual] at h1
    exact .inr ⟨g, h1, h2⟩
theorem sev_232 (h : Hard lt 7) (hA : (lnA lt).length = 2) (hB : (lnB lt).length = 2) (hM : (lnM lt).length = 3) : DimLe lt (· < 7) 3 := by
  rcases sev_sdrA h hA (by omega) with h1 | ⟨f, hf, hfi⟩
  · exact h1
  rcases sev_sdrB h hB (by omega) with h1 | ⟨g, hg, hgi⟩
  · exact h1
  obtain ⟨key, hkey⟩ : ∃ key : Nat → Nat, key = fun z => if mnB lt 7 z = true then f z else if mxB lt 7 z = true then g z else z := ⟨_, rfl⟩
  have hc : ∀ z, z < 7 → (z ∈ lnA lt ∧ key z = f z) ∨ (z ∈ lnB lt ∧ key z = g z) ∨ (z ∈ lnM lt ∧ key z = z) := fun z hz => by
    subst hkey
    cases e : mnB lt 7 z with
    | true => exact .inl ⟨mfr.2 ⟨hz, e⟩, by simp [e]⟩
    | false =>
      cases e2 : mxB lt 7 z with
      | true => exact .inr (.inl ⟨mfr.2 ⟨hz, e2⟩, by simp [e, e2]⟩)
      | false => exact .inr (.inr ⟨mfr.2 ⟨hz, mdB_iff.2 ⟨e, e2⟩⟩, by simp [e, e2]⟩)
  have hAB : ∀ i j, i ∈ lnA lt → j ∈ lnB lt → i ≠ j → lt i j = true := fun i j hi hj hij => h.ab i j (mfr.1 hi).1 (mfr.1 hj).1 hij (mfr.1 hi).2 (mfr.1 hj).2
  rw [← hM]
  refine dim_key h.po (by intro e; rw [e] at hM; cases hM) key (fun i hi => ?_) fun i j hi hj he hij => ?_
  · rcases hc i hi with ⟨h1, h2⟩ | ⟨h1, h2⟩ | ⟨h1, h2⟩ <;> rw [h2]
    · exact (hf i h1).1
    · exact (hg i h1).1
    · exact h1
  · rcases hc i hi with ⟨h1, h2⟩ | ⟨h1, h2⟩ | ⟨h1, h2⟩ <;> rcases hc j hj with ⟨h3, h4⟩ | ⟨h3, h4⟩ | ⟨h3, h4⟩ <;> rw [h2, h4] at he
    · exact absurd (hfi i j h1 h3 he) hij
    · exact .inl (hAB i j h1 h3 hij)
    · exact .inl (he ▸ (hf i h1).2)
    · exact .inr (hAB j i h3 h1 (fun e => hij e.symm))
    · exact absurd (hgi i j h1 h3 he) hij
    · exact .inr (he ▸ (hg i h1).2)
    · exact .inr (he ▸ (hf j h3).2)
    · exact .inl (he ▸ (hg j h3).2)
    · exact absurd he hij
theorem sev_223 (h : Hard lt 7) (hA : (lnA lt).length = 2) (hB : (lnB lt).length = 3) (hM : (lnM lt).length = 2) : DimLe lt (· < 7) 3 := by
  obtain ⟨p, q, hpq, hp, hq, hallM⟩ := two_of hM (fnd _)
  have hup : ∀ m, m ∈ lnM lt → ∃ b ∈ lnB lt, lt m b = true := fun m hm => by
    obtain ⟨hm7, hmm⟩ := mfr.1 hm
    obtain ⟨e, e2⟩ := mdB_iff.1 hmm
    obtain ⟨b, hb, hmb, h3⟩ := max_above h.po hm7
    rcases h3 with h3 | h3
    · rw [h3, e2] at hmb; cases hmb
    · exact ⟨b, mfr.2 ⟨hb, hmb⟩, h3⟩
  rcases Classical.em (∃ b c, b ∈ lnB lt ∧ c ∈ lnB lt ∧ b ≠ c ∧ ∀ m ∈ lnM lt, lt m b = false ∧ lt m c = false) with ⟨b, c, hb, hc, hbc, hno⟩ | hT
  · exact sev_twin h (mfr.1 hb).1 (mfr.1 hc).1 hbc (mfr.1 hb).2 (mfr.1 hc).2 fun m hm e1 e2 => hno m (mfr.2 ⟨hm, mdB_iff.2 ⟨e1, e2⟩⟩)
  obtain ⟨s, hs, u, hu, hsu, hps, hqu⟩ := two_sdr (p := lt p) (q := lt q) (hup p hp) (hup q hq) fun x hx => by
    obtain ⟨y, hy, hyx⟩ := other (L := lnB lt) (fnd (mxB lt 7)) (by omega) x
    obtain ⟨z, hz, hzx, hzy⟩ := third (L := lnB lt) (fnd (mxB lt 7)) (by omega) x y
    refine Classical.byContradiction fun hcon => hT ⟨y, z, hy, hz, fun e => hzy e.symm, fun m hm => ?_⟩
    have hn : ∀ w, w ∈ lnB lt → w ≠ x → lt m w = false := fun w hw hwx => by
      cases e : lt m w with
      | false => rfl
      | true =>
        refine (hcon ⟨w, hw, hwx, ?_⟩).elim
        rcases hallM m hm with rfl | rfl
        · exact .inl e
        · exact .inr e
    exact ⟨hn y hy hyx, hn z hz hzx⟩
  obtain ⟨v, hv, hvs, hvu⟩ := third (L := lnB lt) (fnd (mxB lt 7)) (by omega) s u
  obtain ⟨a, c, hac, ha, hc, hallA⟩ := two_of hA (fnd _)
  obtain ⟨d, hd, hdp, hall⟩ : ∃ d, d ∈ lnA lt ∧ lt d p = true ∧ ∀ z w, z ∈ lnA lt → w ∈ lnA lt → z ≠ d → w ≠ d → z = w := by
    rcases h.md hallA hp with h1 | h1
    · refine ⟨a, ha, h1, fun z w hz hw hza hwa => ?_⟩
      rw [(hallA z hz).resolve_left hza, (hallA w hw).resolve_left hwa]
    · refine ⟨c, hc, h1, fun z w hz hw hza hwa => ?_⟩
      rw [(hallA z hz).resolve_right hza, (hallA w hw).resolve_right hwa]
  obtain ⟨key, hkey⟩ : ∃ key : Nat → Nat, key = fun z => if mxB lt 7 z = true then z else if mnB lt 7 z = true then (if z = d then s else v) else if z = p then s else u := ⟨_, rfl⟩
  have hcs : ∀ z, z < 7 → (z ∈ lnB lt ∧ key z = z) ∨ (z = d ∧ key z = s) ∨ (z ∈ lnA lt ∧ z ≠ d ∧ key z = v) ∨ (z = p ∧ key z = s) ∨ (z = q ∧ key z = u) := fun z hz => by
    subst hkey
    cases e : mxB lt 7 z with
    | true => exact .inl ⟨mfr.2 ⟨hz, e⟩, by simp [e]⟩
    | false =>
      cases e2 : mnB lt 7 z with
      | true =>
        by_cases e3 : z = d
        · exact .inr (.inl ⟨e3, by simp only [e, e2, if_true, if_pos e3]; rfl⟩)
        · exact .inr (.inr (.inl ⟨mfr.2 ⟨hz, e2⟩, e3, by simp only [e, e2, if_true, if_neg e3]; rfl⟩))
      | false =>
        have hzM : z ∈ lnM lt := mfr.2 ⟨hz, mdB_iff.2 ⟨e2, e⟩⟩
        by_cases e3 : z = p
        · exact .inr (.inr (.inr (.inl ⟨e3, by simp only [e, e2, if_pos e3]; rfl⟩)))
        · exact .inr (.inr (.inr (.inr ⟨(hallM z hzM).resolve_left e3, by simp only [e, e2, if_neg e3]; rfl⟩)))
  have hAB : ∀ i j, i ∈ lnA lt → j ∈ lnB lt → i ≠ j → lt i j = true := fun i j hi hj hij => h.ab i j (mfr.1 hi).1 (mfr.1 hj).1 hij (mfr.1 hi).2 (mfr.1 hj).2
  rw [← hB]
  refine dim_key h.po (by intro e; rw [e] at hB; cases hB) key (fun i hi => ?_) fun i j hi hj he hij => ?_
  · rcases hcs i hi with ⟨h1, h2⟩ | ⟨h1, h2⟩ | ⟨h1, h0, h2⟩ | ⟨h1, h2⟩ | ⟨h1, h2⟩ <;> rw [h2]
    · exact h1
    · exact hs
    · exact hv
    · exact hs
    · exact hu
  · have hji : j ≠ i := fun e => hij e.symm
    rcases hcs i hi with ⟨h1, h2⟩ | ⟨h1, h2⟩ | ⟨h1, h0, h2⟩ | ⟨h1, h2⟩ | ⟨h1, h2⟩ <;> rcases hcs j hj with ⟨h3, h4⟩ | ⟨h3, h4⟩ | ⟨h3, h5, h4⟩ | ⟨h3, h4⟩ | ⟨h3, h4⟩ <;> rw [h2, h4] at he
    · exact absurd he hij
    · exact .inr (hAB j i (h3 ▸ hd) h1 hji)
    · exact .inr (hAB j i h3 h1 hji)
    · exact .inr (by rw [h3, he]; exact hps)
    · exact .inr (by rw [h3, he]; exact hqu)
    · exact .inl (hAB i j (h1 ▸ hd) h3 hij)
    · exact absurd (h1.trans h3.symm) hij
    · exact absurd he.symm hvs
    · exact .inl (by rw [h1, h3]; exact hdp)
    · exact absurd he hsu
    · exact .inl (hAB i j h1 h3 hij)
    · exact absurd he hvs
    · exact absurd (hall i j h1 h3 h0 h5) hij
    · exact absurd he hvs
    · exact absurd he hvu
    · exact .inl (by rw [h1, ← he]; exact hps)
    · exact .inr (by rw [h1, h3]; exact hdp)
    · exact absurd he.symm hvs
    · exact absurd (h1.trans h3.symm) hij
    · exact absurd he hsu
    · exact .inl (by rw [h1, ← he]; exact hqu)
    · exact absurd he.symm hsu
    · exact absurd he.symm hvu
    · exact absurd he.symm hsu
    · exact absurd (h1.trans h3.symm) hij
theorem Hard.lens (h : Hard lt 7) : (lnA lt).length + (lnB lt).length + (lnM lt).length = 7 := by
  have := len3 (p := mnB lt 7) (q := mxB lt 7) (List.range 7) fun x hx h1 h2 => h.dis (List.mem_range.1 hx) h1 h2
  rw [List.length_range] at this
  exact this
theorem sev_hard2 (h : Hard lt 7) (hA : (lnA lt).length = 2) (hM : 2 ≤ (lnM lt).length) : DimLe lt (· < 7) 3 := by
  have h1 := h.lens
  have h2 : 2 ≤ (lnB lt).length := h.dual.two (by decide)
  by_cases e : (lnM lt).length = 2
  · exact sev_223 h hA (by omega) e
  · exact sev_232 h hA (by omega) (by omega)
theorem sev_hard (h : Hard lt 7) : DimLe lt (· < 7) 3 := by
  rcases Nat.lt_or_ge (lnM lt).length 2 with hM | hM
  · obtain ⟨m, hm, hall⟩ : ∃ m, m < 7 ∧ ∀ z, z ∈ lnM lt → z = m := by
      match hL : lnM lt, hM with
      | [], _ => exact ⟨0, by decide, fun z hz => by simp at hz⟩
      | [m], _ => exact ⟨m, (mfr.1 (hL ▸ List.mem_singleton.2 rfl : m ∈ lnM lt)).1, fun z hz => List.mem_singleton.1 hz⟩
    refine sev_flat h hm fun z hz hzm => ?_
    cases e : mnB lt 7 z with
    | true => exact .inl rfl
    | false =>
      cases e2 : mxB lt 7 z with
      | true => exact .inr rfl
      | false => exact absurd (hall z (mfr.2 ⟨hz, mdB_iff.2 ⟨e, e2⟩⟩)) hzm
  · have h1 := h.lens
    have h2 : 2 ≤ (lnB lt).length := h.dual.two (by decide)
    have h3 : 2 ≤ (lnA lt).length := h.two (by decide)
    by_cases e : (lnA lt).length = 2
    · exact sev_hard2 h e hM
    · have hB : (lnB lt).length = 2 := by omega
      exact (sev_hard2 h.dual hB (by rw [lnM_dual]; exact hM)).dual fun i hi => hi
theorem seven (hp : PoN lt 7) : DimLe lt (· < 7) 3 := by
  rcases Classical.em (∃ x, x < 7 ∧ ∀ y, y < 7 → y ≠ x → lt y x = true ∨ lt x y = true) with ⟨x, hx, hc⟩ | h1
  · exact sev_comp hp hx hc
  rcases Classical.em (∃ a b, a < 7 ∧ b < 7 ∧ a ≠ b ∧ mnB lt 7 a = true ∧ mxB lt 7 b = true ∧ lt a b = false) with ⟨a, b, ha, hb, hab, hm, hx, hl⟩ | h2
  · exact sev_pair hp ha hb hab hm hx hl
  refine sev_hard ⟨hp, fun a b ha hb hab hm hx => ?_, fun x hx => Classical.byContradiction fun hno => h1 ⟨x, hx, fun y hy hyx => ?_⟩⟩
  · cases e : lt a b with
    | true => rfl
    | false => exact absurd ⟨a, b, ha, hb, hab, hm, hx, e⟩ h2
  · cases e : lt y x with
    | true => exact .inl rfl
    | false =>
      cases e2 : lt x y with
      | true => exact .inr rfl
      | false => exact absurd ⟨y, hy, hyx, e2, e⟩ hno
end
end Go.AM

/- The bounds of the dimension. -/
namespace Go.AM
theorem dim_seven {n : Nat} {t : List (List Bool)} (hs : Sq n t) (hp : IsPo n t) (hn : n ≤ 7) : (dealtT n t).length ≤ 3 :=
  dim_le hs hp (by omega) ((seven ((hp.pon hs).le hn)).sub fun i hi => Nat.lt_of_lt_of_le hi hn)
theorem dim_pos {n : Nat} {t : List (List Bool)} (hs : Sq n t) (hp : IsPo n t) (hn : n ≤ 8) : 1 ≤ (dealtT n t).length := by
  obtain ⟨rs, h1, h2⟩ := dim_at hs hp hn
  have := List.length_pos_iff.2 h1.ne
  omega
theorem dim_zero {t : List (List Bool)} (hs : Sq 0 t) (hp : IsPo 0 t) : (dealtT 0 t).length = 1 := by
  have h1 := dim_pos hs hp (by decide)
  have h2 := dim_le hs hp (by decide) (m := 1) ⟨[id], ⟨by simp, fun r _ => ⟨fun i _ hi => absurd hi (Nat.not_lt_zero i), fun i _ hi => absurd hi (Nat.not_lt_zero i)⟩, fun i _ hi => absurd hi (Nat.not_lt_zero i)⟩, rfl⟩
  omega
theorem dim_half {n : Nat} {t : List (List Bool)} (hs : Sq n t) (hp : IsPo n t) (hn : n ≤ 7) : (4 ≤ n → (dealtT n t).length ≤ n / 2) ∧ (dealtT n t).length ≤ 3 ∧ (n < 4 → (dealtT n t).length ≤ 2) := by
  have h7 := dim_seven hs hp hn
  refine ⟨fun h4 => ?_, h7, fun h4 => dim_five hs hp (by omega)⟩
  rcases Nat.lt_or_ge 5 n with h | h
  · omega
  · have := dim_five hs hp h; omega
/-! ### The dual. -/
def dualT (n : Nat) (t : List (List Bool)) : List (List Bool) := tabF n fun i j => atT t j i
theorem dualT_sq (n : Nat) (t : List (List Bool)) : Sq n (dualT n t) := tabF_sq n _
theorem dualT_at {n : Nat} {t : List (List Bool)} {i j : Nat} (hi : i < n) (hj : j < n) : atT (dualT n t) i j = atT t j i := atT_tabF hi hj
theorem dualT_po {n : Nat} {t : List (List Bool)} (hs : Sq n t) (hp : IsPo n t) : IsPo n (dualT n t) := (hp.pon hs).dual.tab
theorem dim_dual {n : Nat} {t : List (List Bool)} (hs : Sq n t) (hp : IsPo n t) (hn : n ≤ 8) : (dealtT n (dualT n t)).length = (dealtT n t).length := by
  have h1 := dim_at hs hp hn
  have h2 := dim_at (dualT_sq n t) (dualT_po hs hp) hn
  have h3 := dim_le (dualT_sq n t) (dualT_po hs hp) hn (m := (dealtT n t).length)
    ((DimLe.dual (lt := fun i j => atT t j i) (D := (· < n)) (fun i h => h) h1).congr (fun i h => h) fun i j hi hj => dualT_at hi hj)
  have h4 := dim_le hs hp hn (m := (dealtT n (dualT n t)).length)
    (DimLe.dual (lt := atT t) (D := (· < n)) (fun i h => h) (h2.congr (fun i h => h) fun i j hi hj => (dualT_at hi hj).symm))
  omega
/-! ### One element less. -/
def skE (k i : Nat) : Nat := if i < k then i else i + 1
def skI (k z : Nat) : Nat := if z < k then z else z - 1
def delT (n k : Nat) (t : List (List Bool)) : List (List Bool) := tabF (n - 1) fun i j => atT t (skE k i) (skE k j)
theorem skE_rng {n k i : Nat} (hk : k < n) : skE k i < n ↔ i < n - 1 := by unfold skE; split <;> omega
theorem skE_inj {k i j : Nat} (h : skE k i = skE k j) : i = j := by unfold skE at h; split at h <;> split at h <;> omega
theorem skE_skI {k z : Nat} (h : z ≠ k) : skE k (skI k z) = z := by
  unfold skE skI
  by_cases h1 : z < k
  · rw [if_pos h1, if_pos h1]
  · rw [if_neg h1, if_neg (by omega)]; omega
theorem skI_rng {n k z : Nat} (hk : k < n) (hz : z < n) (h : z ≠ k) : skI k z < n - 1 := by unfold skI; split <;> omega
theorem DimLe.comap {lt : Nat → Nat → Bool} {D D' : Nat → Prop} {m : Nat} (h : DimLe lt D m) (g : Nat → Nat) (hg : ∀ i, D' i → D (g i)) (hi : ∀ i j, D' i → D' j → i ≠ j → g i ≠ g j) : DimLe (fun i j => lt (g i) (g j)) D' m := by
  obtain ⟨rs, h1, h2⟩ := h
  refine ⟨rs.map fun r z => r (g z), ⟨by simpa using h1.ne, fun r hr => ?_, fun i j di dj hij hl => ?_⟩, by simpa using h2⟩
  · obtain ⟨s, hs, rfl⟩ := List.mem_map.1 hr
    have h0 := h1.ok s hs
    exact ⟨fun i j di dj h => h0.up _ _ (hg i di) (hg j dj) h, fun i j di dj hij => h0.inj _ _ (hg i di) (hg j dj) (hi i j di dj hij)⟩
  · obtain ⟨s, hs, hb⟩ := h1.rev _ _ (hg i di) (hg j dj) (hi i j di dj hij) hl
    exact ⟨_, List.mem_map_of_mem hs, hb⟩
theorem delT_sq (n k : Nat) (t : List (List Bool)) : Sq (n - 1) (delT n k t) := tabF_sq _ _
theorem delT_pon {n k : Nat} {t : List (List Bool)} (hs : Sq n t) (hp : IsPo n t) (hk : k < n) : PoN (fun i j => atT t (skE k i) (skE k j)) (n - 1) := by
  have h := hp.pon hs
  exact ⟨fun i => h.irr _, fun i j l h1 h2 => h.trans _ _ _ h1 h2, fun i j hij => ⟨(skE_rng hk).1 (h.rng _ _ hij).1, (skE_rng hk).1 (h.rng _ _ hij).2⟩⟩
theorem delT_po {n k : Nat} {t : List (List Bool)} (hs : Sq n t) (hp : IsPo n t) (hk : k < n) : IsPo (n - 1) (delT n k t) := (delT_pon hs hp hk).tab
theorem dim_del {n k : Nat} {t : List (List Bool)} (hs : Sq n t) (hp : IsPo n t) (hn : n ≤ 8) (hk : k < n) : (dealtT (n - 1) (delT n k t)).length ≤ (dealtT n t).length ∧ (dealtT n t).length ≤ (dealtT (n - 1) (delT n k t)).length + 1 := by
  have h1 := dim_at hs hp hn
  have h2 := dim_at (delT_sq n k t) (delT_po hs hp hk) (by omega)
  refine ⟨dim_le (delT_sq n k t) (delT_po hs hp hk) (by omega) ((h1.comap (D' := (· < n - 1)) (skE k) (fun i hi => (skE_rng hk).2 hi) fun i j _ _ hij e => hij (skE_inj e)).congr (fun i h => h) fun i j hi hj => atT_tabF hi hj), ?_⟩
  refine dim_le hs hp hn ?_
  have h3 := h2.comap (D' := wo (· < n) k) (skI k) (fun i hi => skI_rng hk hi.1 hi.2) fun i j hi hj hij e => by
    have := congrArg (skE k) e
    rw [skE_skI hi.2, skE_skI hj.2] at this
    exact hij this
  have h4 : DimLe (atT t) (wo (· < n) k) (dealtT (n - 1) (delT n k t)).length := h3.congr (fun i h => h) fun i j hi hj => by
    show _ = atT (delT n k t) (skI k i) (skI k j)
    unfold delT
    rw [atT_tabF (skI_rng hk hi.1 hi.2) (skI_rng hk hj.1 hj.2), skE_skI hi.2, skE_skI hj.2]
  have h5 := add_list (hp.pon hs) List.nodup_range (fun i hi => List.mem_range.1 hi) (List.mem_range.2 hk) (m := (dealtT (n - 1) (delT n k t)).length)
    (h4.sub fun i hi => ⟨er_ran hi, (List.nodup_range.mem_erase_iff.1 hi).1⟩)
  exact h5.sub fun i hi => List.mem_range.2 hi
end Go.AM

/- Tables filled by rows; a table with one element less. -/
namespace Go.AM
def filR (n : Nat) (f : Nat → Bool) (j : Nat) : List Bool := setR n fun b => decide (b < j) && f b
def filT (n : Nat) (f : Nat → Nat → Bool) (i : Nat) : List (List Bool) := (List.range n).map fun a => if a < i then setR n (f a) else []
def filP (n : Nat) (f : Nat → Nat → Bool) (i j : Nat) : List (List Bool) := (filT n f i).set i (filR n (f i) j)
theorem filR_len (n : Nat) (f : Nat → Bool) (j : Nat) : (filR n f j).length = n := setR_len _ _
theorem filT_len (n : Nat) (f : Nat → Nat → Bool) (i : Nat) : (filT n f i).length = n := by simp [filT]
theorem filP_len (n : Nat) (f : Nat → Nat → Bool) (i j : Nat) : (filP n f i j).length = n := by simp [filP, filT_len]
theorem filR_zero (n : Nat) (f : Nat → Bool) : filR n f 0 = List.replicate n false := by
  refine getD_extB (by rw [filR_len, List.length_replicate]) fun i hi => ?_
  rw [filR_len] at hi
  unfold filR
  rw [setR_get hi, List.getD_eq_getElem?_getD, List.getElem?_replicate, if_pos hi]; simp
theorem filR_all (n : Nat) (f : Nat → Bool) : filR n f n = setR n f := setR_ext fun i hi => by rw [decide_eq_true hi]; rfl
theorem filR_step {n : Nat} {f : Nat → Bool} {j : Nat} (hj : j < n) : (filR n f j).set j (f j) = filR n f (j + 1) := by
  refine getD_extB (by rw [List.length_set, filR_len, filR_len]) fun i hi => ?_
  rw [List.length_set, filR_len] at hi
  rw [getD_setB, filR_len]
  unfold filR
  rw [setR_get hi, setR_get hi]
  by_cases e : j = i
  · subst e; rw [if_pos ⟨rfl, hj⟩, decide_eq_true (by omega : j < j + 1)]; rfl
  · rw [if_neg (fun h => e h.1)]
    congr 1
    exact decide_eq_decide.2 (by omega)
theorem filT_zero (n : Nat) (f : Nat → Nat → Bool) : filT n f 0 = List.replicate n [] := by
  refine List.ext_getElem (by simp [filT_len]) fun i h1 h2 => ?_
  simp [filT]
theorem filT_all (n : Nat) (f : Nat → Nat → Bool) : filT n f n = tabF n f := by
  unfold filT tabF
  refine List.map_congr_left fun i hi => ?_
  rw [if_pos (List.mem_range.1 hi)]
theorem filT_get {n : Nat} {f : Nat → Nat → Bool} {i a : Nat} (ha : a < n) : (filT n f i)[a]? = some (if a < i then setR n (f a) else []) := by
  unfold filT; simp [ha]
theorem filP_next {n : Nat} {f : Nat → Nat → Bool} {i : Nat} (hi : i < n) : filP n f i n = filT n f (i + 1) := by
  unfold filP
  rw [filR_all]
  refine List.ext_getElem? fun a => ?_
  rw [List.getElem?_set, filT_len]
  by_cases e : i = a
  · subst e; rw [if_pos rfl, if_pos hi, filT_get hi, if_pos (by omega)]
  · rw [if_neg e]
    by_cases ha : a < n
    · rw [filT_get ha, filT_get ha]
      by_cases h : a < i
      · rw [if_pos h, if_pos (by omega)]
      · rw [if_neg h, if_neg (by omega)]
    · rw [List.getElem?_eq_none (by rw [filT_len]; omega), List.getElem?_eq_none (by rw [filT_len]; omega)]
theorem filP_row {n : Nat} {f : Nat → Nat → Bool} {i j : Nat} (hi : i < n) : rowT (filP n f i j) i = filR n (f i) j :=
  rowT_of (by unfold filP; rw [List.getElem?_set, filT_len, if_pos rfl, if_pos hi])
theorem filP_step {n : Nat} {f : Nat → Nat → Bool} {i j : Nat} (hj : j < n) : (filP n f i j).set i ((filR n (f i) j).set j (f i j)) = filP n f i (j + 1) := by
  rw [filR_step hj]; unfold filP; rw [List.set_set]
theorem filP_zero (n : Nat) (f : Nat → Nat → Bool) (i : Nat) : filP n f i 0 = (filT n f i).set i (List.replicate n false) := by
  unfold filP; rw [filR_zero]
/-! ### Without one. -/
def skL (k n : Nat) : List Nat := (List.range n).filter fun a => decide (a ≠ k)
theorem skL_succ (k n : Nat) : skL k (n + 1) = skL k n ++ if n = k then [] else [n] := by
  unfold skL
  rw [List.range_succ, List.filter_append]
  congr 1
  by_cases e : n = k <;> simp [e]
theorem skL_low {k : Nat} : ∀ n, n ≤ k → skL k n = List.range n
  | 0, _ => rfl
  | n + 1, h => by rw [skL_succ, skL_low n (by omega), if_neg (by omega), List.range_succ]
theorem skL_eq {k : Nat} : ∀ m, skL k (k + 1 + m) = (List.range (k + m)).map (skE k)
  | 0 => by
    rw [show k + 1 + 0 = k + 1 from rfl, skL_succ, skL_low k (Nat.le_refl _), if_pos rfl, List.append_nil, Nat.add_zero]
    refine (List.map_id _).symm.trans (List.map_congr_left fun i hi => ?_)
    unfold skE; rw [if_pos (List.mem_range.1 hi)]; rfl
  | m + 1 => by
    rw [show k + 1 + (m + 1) = k + 1 + m + 1 from rfl, skL_succ, skL_eq m, if_neg (by omega), show k + (m + 1) = k + m + 1 from rfl, List.range_succ, List.map_append]
    congr 1
    unfold skE
    rw [List.map_cons, List.map_nil, if_neg (by omega)]
    congr 1; omega
theorem skL_all {k n : Nat} (hk : k < n) : skL k n = (List.range (n - 1)).map (skE k) := by
  have := skL_eq (k := k) (n - k - 1)
  rw [show k + 1 + (n - k - 1) = n by omega, show k + (n - k - 1) = n - 1 by omega] at this
  exact this
theorem skL_le (k : Nat) : ∀ n, (skL k n).length ≤ n := fun n => by
  unfold skL
  have := List.length_filter_le (fun a => decide (a ≠ k)) (List.range n)
  simpa using this
/-- A row without one, so far; and the rows so far. -/
def skR (t : List (List Bool)) (k i j : Nat) : List Bool := (skL k j).map (atT t i)
def skT (n : Nat) (t : List (List Bool)) (k i : Nat) : List (List Bool) := (skL k i).map fun a => skR t k a n
theorem skR_succ (t : List (List Bool)) (k i j : Nat) : skR t k i (j + 1) = skR t k i j ++ if j = k then [] else [atT t i j] := by
  unfold skR; rw [skL_succ]; split <;> simp
theorem skT_succ (n : Nat) (t : List (List Bool)) (k i : Nat) : skT n t k (i + 1) = skT n t k i ++ if i = k then [] else [skR t k i n] := by
  unfold skT; rw [skL_succ]; split <;> simp
theorem skR_le (t : List (List Bool)) (k i j : Nat) : (skR t k i j).length ≤ j := by unfold skR; rw [List.length_map]; exact skL_le k j
theorem skT_le (n : Nat) (t : List (List Bool)) (k i : Nat) : (skT n t k i).length ≤ i := by unfold skT; rw [List.length_map]; exact skL_le k i
theorem skT_all {n k : Nat} (t : List (List Bool)) (hk : k < n) : skT n t k n = delT n k t := by
  unfold skT delT tabF setR skR
  rw [skL_all hk, List.map_map]
  refine List.map_congr_left fun i _ => ?_
  show ((List.range (n - 1)).map (skE k)).map (atT t (skE k i)) = _
  rw [List.map_map]; rfl
end Go.AM

