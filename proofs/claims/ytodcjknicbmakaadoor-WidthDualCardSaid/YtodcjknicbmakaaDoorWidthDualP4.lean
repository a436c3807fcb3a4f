/- Lemmas and contracts, part 4: an abstract machine over the model, and the functions that the statement reaches. -/
import Derived.Test.YtodcjknicbmakaaDoorWidthDualP3
set_option linter.unusedVariables false
set_option linter.unusedSimpArgs false
open Nat renaming reduceAdd → zA, reduceMul → zM, reduceEqDiff → zE, reduceLT → zL, reduceLeDiff → zD, reduceSub → zS, reducePow → zP, reduceBEq → zB
open Int renaming reduceToNat → zI
open List renaming reduceReplicate → zR
/- The transitive closure. -/
namespace Go.AM
theorem ylf {n k : Nat} {t : List (List Bool)} (ht : Sq n t) (hk : k < n) : ∀ m, m ≤ n → Sq n (iter (warshI k) m t) ∧ rowT (iter (warshI k) m t) k = rowT t k ∧ ∀ i, i < n → rowT (iter (warshI k) m t) i = if i < m ∧ atT t i k = true then List.zipWith (· || ·) (rowT t i) (rowT t k) else rowT t i
  | 0, _ => ⟨ht, rfl, fun i _ => by rw [if_neg (by omega)]; rfl⟩
  | m + 1, hm => by
    obtain ⟨h1, h2, h3⟩ := ylf ht hk m (by omega)
    have hs : Sq n (iter (warshI k) (m + 1) t) := h1.warshI hk (by omega)
    rw [yhg, ynx] at hs ⊢
    generalize iter (warshI k) m t = U at *
    have hUl := h1.len
    have hat : atT U m k = atT t m k := by
      have := h3 m (by omega)
      rw [if_neg (by omega)] at this
      unfold atT; rw [this]
    have hrm : rowT U m = rowT t m := by have := h3 m (by omega); rw [if_neg (by omega)] at this; exact this
    have hself : List.zipWith (· || ·) (rowT t k) (rowT t k) = rowT t k := by
      refine List.ext_getElem (by simp) fun i a b => by simp
    by_cases hc : atT t m k = true
    · rw [if_pos (by rw [hat]; exact hc)] at hs ⊢
      unfold orRow at hs ⊢
      refine ⟨hs, ?_, fun i hi => ?_⟩
      · rw [yl0]
        by_cases e : m = k
        · rw [if_pos ⟨e, by omega⟩, hrm, h2, e, hself]
        · rw [if_neg (by rintro ⟨x, _⟩; exact e x), h2]
      · rw [yl0]
        by_cases e : m = i
        · subst e
          rw [if_pos ⟨rfl, by omega⟩, hrm, h2, if_pos ⟨by omega, hc⟩]
        · rw [if_neg (by rintro ⟨x, _⟩; exact e x), h3 i hi]
          have : (i < m + 1 ∧ atT t i k = true) ↔ (i < m ∧ atT t i k = true) := ⟨fun h => ⟨by omega, h.2⟩, fun h => ⟨by omega, h.2⟩⟩
          simp only [this]
    · rw [if_neg (by rw [hat]; exact hc)] at hs ⊢
      refine ⟨hs, h2, fun i hi => ?_⟩
      rw [h3 i hi]
      have : (i < m + 1 ∧ atT t i k = true) ↔ (i < m ∧ atT t i k = true) := ⟨fun h => ⟨by
        by_cases e : i = m
        · subst e; exact absurd h.2 hc
        · omega, h.2⟩, fun h => ⟨by omega, h.2⟩⟩
      simp only [this]
theorem atT_warshK {n k : Nat} {t : List (List Bool)} (ht : Sq n t) (hk : k < n) {i j : Nat} (hi : i < n) (hj : j < n) : atT (warshK n k t) i j = (atT t i j || (atT t i k && atT t k j)) := by
  obtain ⟨_, _, h3⟩ := ylf ht hk n (Nat.le_refl _)
  have h := h3 i hi
  unfold warshK
  have h4 : atT (iter (warshI k) n t) i j = (rowT (iter (warshI k) n t) i).getD j false := rfl
  rw [h4, h]
  by_cases hc : atT t i k = true
  · rw [if_pos ⟨hi, hc⟩, yjj _ (by rw [ht.rowLen hi, ht.rowLen hk]) (by rw [ht.rowLen hi]; exact hj), hc, Bool.true_and]; rfl
  · rw [if_neg (by rintro ⟨_, x⟩; exact hc x)]
    have : atT t i k = false := by simpa using hc
    rw [this, Bool.false_and, Bool.or_false]; rfl
/-- Paths whose ydg nodes are less than k. -/
def R_ (t : List (List Bool)) : Nat → Nat → Nat → Bool
  | 0, i, j => atT t i j
  | k + 1, i, j => R_ t k i j || (R_ t k i k && R_ t k k j)
theorem yij {n : Nat} {t : List (List Bool)} (ht : Sq n t) : ∀ m, m ≤ n → ∀ i j, i < n → j < n → atT (iter (warshK n) m t) i j = R_ t m i j
  | 0, _, i, j, _, _ => rfl
  | m + 1, hm, i, j, hi, hj => by
    have ih := yij ht m (by omega)
    rw [yhg, atT_warshK (ht.warsh' (by omega)) (by omega) hi hj, ih i j hi hj, ih i m hi (by omega), ih m j (by omega) hj]; rfl
theorem yrn {t : List (List Bool)} : ∀ (k m : Nat), m < k → ∀ i j, R_ t k i m = true → R_ t k m j = true → R_ t k i j = true
  | k + 1, m, hm, i, j, h1, h2 => by
    simp only [R_, Bool.or_eq_true, Bool.and_eq_true] at h1 h2 ⊢
    by_cases e : m = k
    · subst e
      right
      exact ⟨by rcases h1 with h | h; exact h; exact h.1, by rcases h2 with h | h; exact h; exact h.2⟩
    · have ih := yrn (t := t) k m (by omega)
      rcases h1 with h1 | h1 <;> rcases h2 with h2 | h2
      · exact .inl (ih i j h1 h2)
      · exact .inr ⟨ih i k h1 h2.1, h2.2⟩
      · exact .inr ⟨h1.1, ih k j h1.2 h2⟩
      · exact .inr ⟨h1.1, h2.2⟩
theorem warsh_trans {n : Nat} {t : List (List Bool)} (ht : Sq n t) {i k j : Nat} (hi : i < n) (hk : k < n) (hj : j < n) (h1 : atT (warsh n t) i k = true) (h2 : atT (warsh n t) k j = true) : atT (warsh n t) i j = true := by
  unfold warsh at *
  rw [yij ht n (Nat.le_refl _) _ _ hi hk] at h1
  rw [yij ht n (Nat.le_refl _) _ _ hk hj] at h2
  rw [yij ht n (Nat.le_refl _) _ _ hi hj]
  exact yrn n k hk i j h1 h2
theorem ysr {t : List (List Bool)} : ∀ (k i j : Nat), atT t i j = true → R_ t k i j = true
  | 0, _, _, h => h
  | k + 1, i, j, h => by simp only [R_, Bool.or_eq_true]; exact .inl (ysr k i j h)
theorem yhk {n : Nat} {t : List (List Bool)} (ht : Sq n t) {i j : Nat} (hi : i < n) (hj : j < n) (h : atT t i j = true) : atT (warsh n t) i j = true := by
  unfold warsh; rw [yij ht n (Nat.le_refl _) _ _ hi hj]; exact ysr n i j h
/-- The closure is the least. -/
theorem ymb {n : Nat} {t : List (List Bool)} {S : Nat → Nat → Prop} (hs : ∀ i j, i < n → j < n → atT t i j = true → S i j) (ht : ∀ i k j, i < n → k < n → j < n → S i k → S k j → S i j) : ∀ (k i j : Nat), k ≤ n → i < n → j < n → R_ t k i j = true → S i j
  | 0, i, j, _, hi, hj, h => hs i j hi hj h
  | k + 1, i, j, hk, hi, hj, h => by
    simp only [R_, Bool.or_eq_true, Bool.and_eq_true] at h
    rcases h with h | h
    · exact ymb hs ht k i j (by omega) hi hj h
    · exact ht i k j hi (by omega) hj (ymb hs ht k i k (by omega) hi (by omega) h.1) (ymb hs ht k k j (by omega) (by omega) hj h.2)
theorem warsh_least {n : Nat} {t : List (List Bool)} (h : Sq n t) {S : Nat → Nat → Prop} (hs : ∀ i j, i < n → j < n → atT t i j = true → S i j) (ht : ∀ i k j, i < n → k < n → j < n → S i k → S k j → S i j) {i j : Nat} (hi : i < n) (hj : j < n) (hw : atT (warsh n t) i j = true) : S i j := by
  unfold warsh at hw
  rw [yij h n (Nat.le_refl _) _ _ hi hj] at hw
  exact ymb hs ht n i j (Nat.le_refl _) hi hj hw
end Go.AM

/- The program's cycle. -/
namespace Go.AM
abbrev CSt := List Int × List Int × Int
def cycI (t : List (List Bool)) (f at_ v : Int) (i : Nat) (st : CSt) : CSt :=
  if atT t i v.toNat then
    if (i : Int) ≠ f ∧ st.1.getD i 0 < 0 then (st.1.set i (at_ + 1), st.2.1 ++ [(i : Int)], if (i : Int) = f ∧ st.2.2 = 0 then at_ + 1 else st.2.2)
    else (st.1, st.2.1, if (i : Int) = f ∧ st.2.2 = 0 then at_ + 1 else st.2.2)
  else st
def yse (k : Nat) (st : CSt) : Int := if 0 < k then st.1.getD (st.2.1.getD k 0).toNat 0 else 0
def cycK (t : List (List Bool)) (n : Nat) (f : Int) (k : Nat) (st : CSt) : CSt := iter (cycI t f (yse k st) (st.2.1.getD k 0)) n st
def cyc0 (n : Nat) (f : Int) : CSt := (List.replicate n (-1), [f], 0)
structure WfC (n : Nat) (f : Int) (st : CSt) : Prop where
  len : st.1.length = n
  rng : ∀ v ∈ st.2.1, 0 ≤ v ∧ v < n
  cnt : st.1.count (-1) + st.2.1.length ≤ n + 1
  vals : ∀ i, -1 ≤ st.1.getD i 0 ∧ st.1.getD i 0 ≤ st.2.1.length + 1
  ln : 0 ≤ st.2.2 ∧ st.2.2 ≤ st.2.1.length + 2
theorem count_setI {l : List Int} {i : Nat} {k : Int} (h : l.getD i 0 = -1) (hk : k ≠ -1) : (l.set i k).count (-1) + 1 = l.count (-1) := by
  have hi : i < l.length := by
    rcases Nat.lt_or_ge i l.length with h1 | h1
    · exact h1
    · rw [Go.AM.getD_out h1] at h; omega
  rw [List.count_set hi]
  have e1 : l[i] = -1 := by simpa [List.getD_eq_getElem?_getD, hi] using h
  have e2 : (k == -1) = false := by simpa using hk
  have hpos : 0 < l.count (-1) := List.count_pos_iff.2 (e1 ▸ List.getElem_mem hi)
  simp only [e1, beq_self_eq_true, if_true, e2, Bool.false_eq_true, if_false]
  omega
theorem find_range_none {p : Nat → Bool} : ∀ {n : Nat}, (List.range n).find? p = none ↔ ∀ i, i < n → p i = false := fun {n} => by
  rw [List.find?_eq_none]; simp
theorem yhl {p : Nat → Bool} {n i : Nat} (h : (List.range n).find? p = some i) : i < n ∧ p i = true ∧ ∀ j, j < i → p j = false := by
  rw [List.find?_range_eq_some] at h
  exact ⟨List.mem_range.1 h.2.1, h.1, fun j hj => by simpa using h.2.2 j hj⟩
end Go.AM
namespace Go.AM
theorem WfC.start {n : Nat} {f : Int} (h0 : 0 ≤ f) (h1 : f < n) : WfC n f (cyc0 n f) := by
  refine ⟨by simp [cyc0], fun v hv => ?_, by simp [cyc0], fun i => ?_, by simp [cyc0]⟩
  · simp [cyc0] at hv; subst hv; exact ⟨h0, h1⟩
  · simp only [cyc0]
    rw [List.getD_eq_getElem?_getD, List.getElem?_replicate]; split <;> simp
theorem WfC.i {n : Nat} {f : Int} {st : CSt} (h : WfC n f st) (t : List (List Bool)) {at_ : Int} (v : Int) {i : Nat} (hi : i < n) (ha0 : -1 ≤ at_) (ha1 : at_ ≤ st.2.1.length + 1) : WfC n f (cycI t f at_ v i st) ∧ st.2.1.length ≤ (cycI t f at_ v i st).2.1.length ∧ ∀ (j : Nat) (x : Int), st.2.1[j]? = some x → (cycI t f at_ v i st).2.1[j]? = some x := by
  unfold cycI
  split
  · split
    · rename_i _ hc
      have hv := h.vals i
      have hm : st.1.getD i 0 = -1 := by omega
      have hcs := count_setI hm (k := at_ + 1) (by omega)
      have hln := h.ln
      refine ⟨⟨by simp [h.len], fun x hx => ?_, ?_, fun j => ?_, ?_⟩, by simp, fun j x hj => ?_⟩
      · rcases List.mem_append.1 hx with hx | hx
        · exact h.rng x hx
        · simp at hx; subst hx; omega
      · have := h.cnt
        simp only [List.length_append, List.length_singleton]; omega
      · have := h.vals j
        simp only [List.length_append, List.length_singleton]
        by_cases e : i = j
        · subst e
          by_cases h2 : i < st.1.length
          · rw [Go.AM.getD_set_eq h2]; omega
          · rw [List.set_eq_of_length_le (by omega)]; omega
        · rw [Go.AM.getD_set_ne e]; omega
      · simp only [List.length_append, List.length_singleton]
        split <;> omega
      · rw [List.getElem?_append_left (List.getElem?_eq_some_iff.1 hj).1]; exact hj
    · have hln := h.ln
      refine ⟨⟨h.len, h.rng, h.cnt, h.vals, ?_⟩, Nat.le_refl _, fun j x hj => hj⟩
      simp only
      split <;> omega
  · exact ⟨h, Nat.le_refl _, fun j x hj => hj⟩
theorem WfC.k' {n : Nat} {f : Int} {st : CSt} (h : WfC n f st) (t : List (List Bool)) {at_ : Int} (v : Int) (ha0 : -1 ≤ at_) (ha1 : at_ ≤ st.2.1.length + 1) : ∀ m, m ≤ n → WfC n f (iter (cycI t f at_ v) m st) ∧ st.2.1.length ≤ (iter (cycI t f at_ v) m st).2.1.length ∧ ∀ (j : Nat) (x : Int), st.2.1[j]? = some x → (iter (cycI t f at_ v) m st).2.1[j]? = some x
  | 0, _ => ⟨h, Nat.le_refl _, fun _ _ hj => hj⟩
  | m + 1, hm => by
    obtain ⟨h1, h2, h3⟩ := WfC.k' h t v ha0 ha1 m (by omega)
    obtain ⟨g1, g2, g3⟩ := h1.i t v (i := m) (by omega) ha0 (by omega)
    exact ⟨g1, Nat.le_trans h2 g2, fun j x hj => g3 j x (h3 j x hj)⟩
theorem WfC.at {n : Nat} {f : Int} {st : CSt} (h : WfC n f st) (k : Nat) : -1 ≤ yse k st ∧ yse k st ≤ st.2.1.length + 1 := by
  unfold yse; split
  · exact h.vals _
  · omega
theorem WfC.k {n : Nat} {f : Int} {st : CSt} (h : WfC n f st) (t : List (List Bool)) (k : Nat) : WfC n f (cycK t n f k st) ∧ st.2.1.length ≤ (cycK t n f k st).2.1.length ∧ ∀ (j : Nat) (x : Int), st.2.1[j]? = some x → (cycK t n f k st).2.1[j]? = some x :=
  WfC.k' h t _ (h.at k).1 (h.at k).2 n (Nat.le_refl _)
end Go.AM

/- The least topological order. -/
namespace Go.AM
theorem filter_lt {p q : Nat → Bool} {l : List Nat} (h : ∀ x ∈ l, p x = true → q x = true) (hx : ∃ x ∈ l, q x = true ∧ p x = false) : (l.filter p).length < (l.filter q).length := by
  induction l with
  | nil => obtain ⟨x, hx, _⟩ := hx; cases hx
  | cons a l ih =>
    have hle : (l.filter p).length ≤ (l.filter q).length := by
      have := List.Sublist.length_le (l.filter p |>.filter_sublist (p := q))
      have e : (l.filter p).filter q = l.filter p := by
        rw [List.filter_eq_self]
        intro x hx; exact h x (by simp [(List.mem_filter.1 hx).1]) (List.mem_filter.1 hx).2
      have e2 : (l.filter p).filter q = (l.filter q).filter p := by rw [List.filter_filter, List.filter_filter]; congr 1; funext x; exact Bool.and_comm _ _
      rw [← e, e2]; exact List.length_filter_le _ _
    obtain ⟨x, hx, h1, h2⟩ := hx
    rcases List.mem_cons.1 hx with rfl | hx
    · simp only [List.filter_cons, h1, h2, if_true, Bool.false_eq_true, if_false, List.length_cons]; omega
    · have ih := ih (fun y hy => h y (by simp [hy])) ⟨x, hx, h1, h2⟩
      have ha := h a (by simp)
      simp only [List.filter_cons]
      cases hp : p a
      · cases hq : q a
        · simpa using ih
        · simp only [Bool.false_eq_true, if_false, if_true, List.length_cons]; omega
      · rw [ha hp]; simp only [if_true, List.length_cons]; omega
def ymc (n : Nat) (t : List (List Bool)) (out : List Nat) (i : Nat) : Bool := !out.contains i && (List.range n).all fun k => !atT t k i || out.contains k
def ysf (n : Nat) (t : List (List Bool)) (out : List Nat) : Option Nat := (List.range n).find? (ymc n t out)
def ordO (n : Nat) (t : List (List Bool)) : Nat → List Nat → List Nat
  | 0, out => out
  | m + 1, out => match ysf n t out with
    | some i => ordO n t m (out ++ [i])
    | none => out
theorem freeO_iff {n : Nat} {t : List (List Bool)} {out : List Nat} {i : Nat} : ymc n t out i = true ↔ i ∉ out ∧ ∀ k, k < n → atT t k i = true → k ∈ out := by
  simp only [ymc, Bool.and_eq_true, Bool.not_eq_true', List.all_eq_true, List.mem_range, Bool.or_eq_true]
  constructor
  · rintro ⟨h1, h2⟩
    refine ⟨fun h => (by simp [h] at h1), fun k hk ha => ?_⟩
    rcases h2 k hk with h | h
    · rw [ha] at h; cases h
    · simpa using h
  · rintro ⟨h1, h2⟩
    refine ⟨by simpa using h1, fun k hk => ?_⟩
    cases ha : atT t k i with
    | false => exact .inl rfl
    | true => exact .inr (by simpa using h2 k hk ha)
theorem acyc_iff {n : Nat} {t : List (List Bool)} : acyc n t = true ↔ ∀ i, i < n → atT (warsh n t) i i = false := by
  unfold acyc; rw [List.all_eq_true]
  constructor
  · intro h i hi; have := h i (List.mem_range.2 hi); simpa using this
  · intro h i hi; rw [h i (List.mem_range.1 hi)]; rfl
theorem exists_free {n : Nat} {t : List (List Bool)} (hs : Sq n t) (ha : acyc n t = true) {out : List Nat} : ∀ (m i : Nat), i < n → i ∉ out → ((List.range n).filter fun k => atT (warsh n t) k i && !out.contains k).length ≤ m → ∃ j, j < n ∧ ymc n t out j = true := by
  have hac := acyc_iff.1 ha
  intro m
  induction m with
  | zero =>
    intro i hi ho hl
    refine ⟨i, hi, freeO_iff.2 ⟨ho, fun k hk h => ?_⟩⟩
    rcases Classical.em (k ∈ out) with h1 | h1
    · exact h1
    · exfalso
      have hm : k ∈ (List.range n).filter fun k => atT (warsh n t) k i && !out.contains k := by
        rw [List.mem_filter]; exact ⟨List.mem_range.2 hk, by simp [yhk hs hk hi h, h1]⟩
      have := List.length_pos_of_mem hm
      omega
  | succ m ih =>
    intro i hi ho hl
    by_cases hf : ymc n t out i = true
    · exact ⟨i, hi, hf⟩
    · have : ∃ k, k < n ∧ atT t k i = true ∧ k ∉ out := by
        rcases Classical.em (∃ k, k < n ∧ atT t k i = true ∧ k ∉ out) with h | h
        · exact h
        · exact absurd (freeO_iff.2 ⟨ho, fun k hk h1 => by
            rcases Classical.em (k ∈ out) with h2 | h2
            · exact h2
            · exact absurd ⟨k, hk, h1, h2⟩ h⟩) hf
      obtain ⟨k, hk, h1, h2⟩ := this
      have hki := yhk hs hk hi h1
      refine ih k hk h2 (Nat.le_of_lt_succ (Nat.lt_of_lt_of_le (filter_lt (fun x hx hp => ?_) ⟨k, List.mem_range.2 hk, ?_, ?_⟩) hl))
      · simp only [Bool.and_eq_true] at hp ⊢
        exact ⟨warsh_trans hs (List.mem_range.1 hx) hk hi hp.1 hki, hp.2⟩
      · simp [hki, h2]
      · rw [hac k hk]; rfl
structure OrdI (n : Nat) (t : List (List Bool)) (out : List Nat) : Prop where
  nd : out.Nodup
  rng : ∀ i ∈ out, i < n
  top : ∀ (q i k : Nat), out[q]? = some i → k < n → atT t k i = true → ∃ p : Nat, p < q ∧ out[p]? = some k
theorem OrdI.closed {n : Nat} {t : List (List Bool)} {out : List Nat} (h : OrdI n t out) {i k : Nat} (hi : i ∈ out) (hk : k < n) (ha : atT t k i = true) : k ∈ out := by
  obtain ⟨q, hq, rfl⟩ := List.mem_iff_getElem.1 hi
  obtain ⟨p, _, hp⟩ := h.top q _ k (List.getElem?_eq_getElem hq) hk ha
  exact List.mem_of_getElem? hp
theorem OrdI.snoc {n : Nat} {t : List (List Bool)} {out : List Nat} (h : OrdI n t out) {i : Nat} (hi : i < n) (hf : ymc n t out i = true) : OrdI n t (out ++ [i]) := by
  obtain ⟨h1, h2⟩ := freeO_iff.1 hf
  refine ⟨?_, fun j hj => ?_, fun q j k hq hk ha => ?_⟩
  · rw [List.nodup_append]
    exact ⟨h.nd, by simp, fun a ha b hb => by simp at hb; subst hb; rintro rfl; exact h1 ha⟩
  · rcases List.mem_append.1 hj with hj | hj
    · exact h.rng j hj
    · simp at hj; omega
  · by_cases hql : q < out.length
    · rw [List.getElem?_append_left hql] at hq
      obtain ⟨p, hp1, hp2⟩ := h.top q j k hq hk ha
      exact ⟨p, hp1, by rw [List.getElem?_append_left (by omega)]; exact hp2⟩
    · have hq2 := (List.getElem?_eq_some_iff.1 hq).1
      simp at hq2
      have : q = out.length := by omega
      subst this
      simp at hq; subst hq
      obtain ⟨p, hp, hpk⟩ := List.mem_iff_getElem.1 (h2 k hk ha)
      exact ⟨p, hp, by rw [List.getElem?_append_left hp, List.getElem?_eq_getElem hp, hpk]⟩
theorem yn1 : ∀ (n : Nat) (l : List Nat), l.Nodup → (∀ i ∈ l, i < n) → l.length ≤ n
  | 0, l, _, h => by
    cases l with
    | nil => simp
    | cons a l => have := h a (by simp); omega
  | n + 1, l, hn, h => by
    have ih := yn1 n (l.erase n) (hn.erase _) fun u hu => by
      have h1 := (List.Nodup.mem_erase_iff hn).1 hu
      have := h u h1.2
      have := h1.1
      omega
    have : l.length ≤ (l.erase n).length + 1 := by
      rw [List.length_erase]; split <;> omega
    omega
theorem yov : ∀ (n : Nat) (l : List Nat), (∀ i, i < n → i ∈ l) → n ≤ l.length
  | 0, _, _ => Nat.zero_le _
  | n + 1, l, h => by
    have hn := h n (by omega)
    have ih := yov n (l.erase n) fun i hi => (List.mem_erase_of_ne (by omega)).2 (h i (by omega))
    rw [List.length_erase_of_mem hn] at ih
    have := List.length_pos_of_mem hn
    omega
theorem missing {n : Nat} {l : List Nat} (hl : l.length < n) : ∃ i, i < n ∧ i ∉ l := by
  rcases Classical.em (∃ i, i < n ∧ i ∉ l) with h | h
  · exact h
  · exfalso
    have := yov n l fun i hi => by
      rcases Classical.em (i ∈ l) with h1 | h1
      · exact h1
      · exact absurd ⟨i, hi, h1⟩ h
    omega
theorem OrdI.next {n : Nat} {t : List (List Bool)} (hs : Sq n t) (ha : acyc n t = true) {out : List Nat} (hl : out.length < n) : ∃ i, ysf n t out = some i ∧ i < n ∧ ymc n t out i = true := by
  obtain ⟨i, hi, ho⟩ := missing hl
  obtain ⟨j, hj, hf⟩ := exists_free hs ha _ i hi ho (Nat.le_refl _)
  cases h : ysf n t out with
  | none => have := find_range_none.1 h j hj; rw [hf] at this; cases this
  | some i => obtain ⟨h1, h2, _⟩ := yhl h; exact ⟨i, rfl, h1, h2⟩
theorem yow {n : Nat} {t : List (List Bool)} (hs : Sq n t) (ha : acyc n t = true) : ∀ (m : Nat) (out : List Nat), OrdI n t out → out.length + m = n → OrdI n t (ordO n t m out) ∧ (ordO n t m out).length = n
  | 0, out, h, hl => ⟨h, hl⟩
  | m + 1, out, h, hl => by
    obtain ⟨i, h1, h2, h3⟩ := OrdI.next hs ha (out := out) (by omega)
    unfold ordO; rw [h1]
    exact yow hs ha m _ (h.snoc h2 h3) (by simp; omega)
theorem OrdI.nil (n : Nat) (t : List (List Bool)) : OrdI n t [] := ⟨by simp, by simp, by simp⟩
/-- How many stand before a node. -/
def cntO (n : Nat) (t : List (List Bool)) (out : List Nat) (j : Nat) : Nat := ((List.range n).filter fun k => atT t k j && !out.contains k).length
def befO (n : Nat) (t : List (List Bool)) (out : List Nat) : List Int := (List.range n).map fun j => if out.contains j then -1 else (cntO n t out j : Int)
theorem yex (n : Nat) (t : List (List Bool)) (out : List Nat) : (befO n t out).length = n := by simp [befO]
theorem yhm {n : Nat} {t : List (List Bool)} {out : List Nat} {j : Nat} (hj : j < n) : (befO n t out).getD j 0 = if out.contains j then -1 else (cntO n t out j : Int) := by
  simp [befO, List.getD_eq_getElem?_getD, hj]
theorem cntO_zero {n : Nat} {t : List (List Bool)} {out : List Nat} {j : Nat} : cntO n t out j = 0 ↔ ∀ k, k < n → atT t k j = true → k ∈ out := by
  unfold cntO
  rw [List.length_eq_zero_iff, List.filter_eq_nil_iff]
  constructor
  · intro h k hk ha
    have := h k (List.mem_range.2 hk)
    rw [ha] at this; simpa using this
  · intro h k hk
    have := h k (List.mem_range.1 hk)
    cases ha : atT t k j with
    | false => simp
    | true => simp [this ha]
theorem yn2 {n : Nat} {t : List (List Bool)} {out : List Nat} {j : Nat} (hj : j < n) : decide (0 = (befO n t out).getD j 0) = ymc n t out j := by
  refine yl9 ?_
  rw [decide_eq_true_eq, freeO_iff, yhm hj]
  by_cases h : j ∈ out
  · simp [h]
  · have hc : out.contains j = false := by simpa using h
    rw [hc]
    simp only [Bool.false_eq_true, if_false]
    constructor
    · intro h2; exact ⟨h, cntO_zero.1 (by omega)⟩
    · intro h2; rw [cntO_zero.2 h2.2]; rfl
theorem befO_ix {n : Nat} {t : List (List Bool)} {out : List Nat} {i : Nat} (h : ysf n t out = some i) : ixf (fun y => decide (0 = y)) (befO n t out) = i := by
  obtain ⟨h1, h2, h3⟩ := yhl h
  have hg : ∀ j, j < n → (befO n t out)[j]? = some ((befO n t out).getD j 0) := fun j hj => by
    rw [List.getElem?_eq_getElem (by rw [yex]; exact hj)]; simp [List.getD_eq_getElem?_getD, yex, hj]
  refine yla (hg i h1) (by rw [yn2 h1]; exact h2) ?_
  rw [List.any_eq_false]
  intro y hy
  rw [List.mem_take_iff_getElem] at hy
  obtain ⟨k, hk, rfl⟩ := hy
  have hkn : k < n := by omega
  have := h3 k (by omega)
  rw [← yn2 hkn] at this
  simp only [List.getD_eq_getElem?_getD, yex, hkn, List.getElem?_eq_getElem, Option.getD_some] at this
  simpa using this
def decJ (t : List (List Bool)) (i j : Nat) (B : List Int) : List Int := if atT t i j then B.set j (B.getD j 0 - 1) else B
theorem yox (t : List (List Bool)) (i j : Nat) (B : List Int) : decJ t i j B = if atT t i j then B.set j (B.getD j 0 - 1) else B := rfl
theorem yhn (t : List (List Bool)) (i : Nat) (B : List Int) : ∀ m, (iter (decJ t i) m B).length = B.length
  | 0 => rfl
  | m + 1 => by rw [yhg, yox]; split <;> simp [yhn t i B m]
theorem yjl (t : List (List Bool)) (i : Nat) (B : List Int) (j : Nat) : ∀ m, m ≤ B.length → (iter (decJ t i) m B).getD j 0 = if j < m ∧ atT t i j = true then B.getD j 0 - 1 else B.getD j 0
  | 0, _ => by rw [if_neg (by omega)]; rfl
  | m + 1, hm => by
    have ih := yjl t i B j m (by omega)
    have hl := yhn t i B m
    have ihm := yjl t i B m m (by omega)
    rw [if_neg (by omega)] at ihm
    rw [yhg, yox]
    by_cases h : atT t i m = true
    · rw [if_pos h]
      by_cases e : m = j
      · subst e; rw [Go.AM.getD_set_eq (by omega), ihm, if_pos ⟨by omega, h⟩]
      · rw [Go.AM.getD_set_ne e, ih]
        have : (j < m + 1 ∧ atT t i j = true) ↔ (j < m ∧ atT t i j = true) := ⟨fun x => ⟨by omega, x.2⟩, fun x => ⟨by omega, x.2⟩⟩
        simp only [this]
    · rw [if_neg h, ih]
      have : (j < m + 1 ∧ atT t i j = true) ↔ (j < m ∧ atT t i j = true) := ⟨fun x => ⟨by
        by_cases e : j = m
        · subst e; exact absurd x.2 h
        · omega, x.2⟩, fun x => ⟨by omega, x.2⟩⟩
      simp only [this]
theorem ylg {p q : Nat → Bool} {a : Nat} : ∀ {l : List Nat}, l.Nodup → a ∈ l → p a = true → q a = false → (∀ x ∈ l, x ≠ a → q x = p x) → (l.filter q).length + 1 = (l.filter p).length
  | [], _, ha, _, _, _ => by cases ha
  | b :: l, hn, ha, hp, hq, h => by
    rw [List.nodup_cons] at hn
    by_cases e : b = a
    · subst e
      have : l.filter q = l.filter p := List.filter_congr fun x hx => h x (by simp [hx]) (fun e => hn.1 (e ▸ hx))
      simp [List.filter_cons, hp, hq, this]
    · have hal : a ∈ l := (List.mem_cons.1 ha).resolve_left fun x => e x.symm
      have ih := ylg hn.2 hal hp hq fun x hx => h x (by simp [hx])
      have hb := h b (by simp) e
      simp only [List.filter_cons, hb]
      split <;> first | omega | (simp only [List.length_cons]; omega)
theorem befO_step {n : Nat} {t : List (List Bool)} (hs : Sq n t) (hac : acyc n t = true) {out : List Nat} (ho : OrdI n t out) {i : Nat} (hi : i < n) (hf : ymc n t out i = true) : iter (decJ t i) n ((befO n t out).set i (-1)) = befO n t (out ++ [i]) := by
  have hbl := yex n t out
  obtain ⟨h1, h2⟩ := freeO_iff.1 hf
  refine yd0 (by rw [yhn]; simp [yex]) fun j hj => ?_
  rw [yhn, List.length_set, hbl] at hj
  rw [yjl t i _ j n (by simp [hbl]), yhm hj]
  have hii : atT t i i = false := by
    cases h : atT t i i with
    | false => rfl
    | true => have := acyc_iff.1 hac i hi; rw [yhk hs hi hi h] at this; cases this
  by_cases hji : j = i
  · subst hji
    rw [hii, if_neg (by simp), Go.AM.getD_set_eq (by omega)]
    simp
  · rw [Go.AM.getD_set_ne (Ne.symm hji), yhm hj]
    have hc : (out ++ [i]).contains j = out.contains j := by simp [hji]
    rw [hc]
    by_cases hjo : j ∈ out
    · have hno : ¬ (j < n ∧ atT t i j = true) := fun h => h1 (ho.closed hjo hi h.2)
      have hcj : out.contains j = true := by simpa using hjo
      rw [if_neg hno, hcj]
      simp
    · have hcj : out.contains j = false := by simpa using hjo
      rw [hcj]
      simp only [Bool.false_eq_true, if_false]
      by_cases hat : atT t i j = true
      · rw [if_pos ⟨hj, hat⟩]
        have : cntO n t (out ++ [i]) j + 1 = cntO n t out j := by
          unfold cntO
          refine ylg (a := i) List.nodup_range (List.mem_range.2 hi) ?_ ?_ fun x hx hxi => ?_
          · simp [hat, h1]
          · simp
          · simp [hxi]
        omega
      · rw [if_neg (by rintro ⟨_, x⟩; exact hat x)]
        have : cntO n t (out ++ [i]) j = cntO n t out j := by
          unfold cntO
          congr 1
          refine List.filter_congr fun x hx => ?_
          by_cases e : x = i
          · subst e; simp [hat]
          · simp [e]
        rw [this]
/-- The first counts. -/
def incP (B : List Int) (p : Int × Int) : List Int := B.set p.2.toNat (B.getD p.2.toNat 0 + 1)
def incPs (B : List Int) (L : List (Int × Int)) : List Int := L.foldl incP B
theorem yho (L : List (Int × Int)) : ∀ B : List Int, (incPs B L).length = B.length := by
  induction L with
  | nil => intro B; rfl
  | cons p L ih => intro B; show (incPs (incP B p) L).length = _; rw [ih]; simp [incP]
theorem incPs_take {B : List Int} {L : List (Int × Int)} {j : Nat} {p : Int × Int} (h : L[j]? = some p) : incPs B (L.take (j + 1)) = incP (incPs B (L.take j)) p := by
  obtain ⟨hj, rfl⟩ := List.getElem?_eq_some_iff.1 h
  unfold incPs
  rw [List.take_succ_eq_append_getElem hj, List.foldl_append]; rfl
theorem yn3 (L : List (Int × Int)) (j : Nat) : ∀ B : List Int, j < B.length → (incPs B L).getD j 0 = B.getD j 0 + ((L.filter fun p => p.2.toNat == j).length : Int) := by
  induction L with
  | nil => intro B _; simp [incPs]
  | cons p L ih =>
    intro B hj
    show (incPs (incP B p) L).getD j 0 = _
    rw [ih _ (by simp [incP]; exact hj)]
    unfold incP
    rw [List.filter_cons]
    by_cases e : p.2.toNat = j
    · rw [e, Go.AM.getD_set_eq hj]; simp; omega
    · rw [Go.AM.getD_set_ne e]; simp [e]
theorem incPs_bnd (L : List (Int × Int)) (j : Nat) (B : List Int) (h : ∀ i, B.getD i 0 = 0) : 0 ≤ (incPs B L).getD j 0 ∧ (incPs B L).getD j 0 ≤ L.length := by
  by_cases hj : j < B.length
  · rw [yn3 L j B hj, h]
    have := List.length_filter_le (fun p : Int × Int => p.2.toNat == j) L
    omega
  · rw [Go.AM.getD_out (by rw [yho]; omega)]; omega
theorem yi1 (t : List (List Bool)) (i j : Nat) : ∀ m, ((yax t i m).filter fun p => p.2.toNat == j).length = if j < m ∧ atT t i j = true then 1 else 0
  | 0 => by simp [yax]
  | m + 1 => by
    have ih := yi1 t i j m
    rw [yew]
    by_cases h : atT t i m = true
    · rw [if_pos h, List.filter_append, List.length_append, ih]
      by_cases e : m = j
      · subst e; simp [h]
      · have : (j < m + 1 ∧ atT t i j = true) ↔ (j < m ∧ atT t i j = true) := ⟨fun x => ⟨by omega, x.2⟩, fun x => ⟨by omega, x.2⟩⟩
        simp [e, this]
    · rw [if_neg h, ih]
      have : (j < m + 1 ∧ atT t i j = true) ↔ (j < m ∧ atT t i j = true) := ⟨fun x => ⟨by
        by_cases e : j = m
        · subst e; exact absurd x.2 h
        · omega, x.2⟩, fun x => ⟨by omega, x.2⟩⟩
      simp only [this]
theorem ykj {n : Nat} (t : List (List Bool)) {j : Nat} (hj : j < n) : ∀ i, ((yav t n i).filter fun p => p.2.toNat == j).length = ((List.range i).filter fun k => atT t k j).length
  | 0 => by simp [yav]
  | i + 1 => by
    rw [yck, List.filter_append, List.length_append, ykj t hj i, yi1, List.range_succ, List.filter_append, List.length_append]
    by_cases h : atT t i j = true
    · simp [h, hj]
    · simp [h]
theorem befO_nil (n : Nat) (t : List (List Bool)) : incPs (List.replicate n 0) (yat t n) = befO n t [] := by
  refine yd0 (by rw [yho, yex]; simp) fun j hj => ?_
  rw [yho, List.length_replicate] at hj
  rw [yn3 _ j _ (by simpa using hj), yhm hj]
  have e0 : (List.replicate n (0 : Int)).getD j 0 = 0 := by rw [List.getD_eq_getElem?_getD, List.getElem?_replicate]; split <;> rfl
  have hc : cntO n t [] j = ((List.range n).filter fun k => atT t k j).length := by unfold cntO; congr 1; refine List.filter_congr fun x _ => by simp
  have := ykj t hj n
  rw [e0]; unfold yat; rw [this, ← hc]; simp
end Go.AM

namespace Go.Proofs.W
open Go.AM Go
set_option maxRecDepth 100000
set_option maxHeartbeats 2000000
theorem index_r (l : List Int) (x : Int) (hl : l.length ≤ 9223372036854775807) : Reads Tryd.prog 88 false [.rsl 1 (ints l), .int .i64 x] (.int .i64 (ixf (fun y => decide (x = y)) l)) := by
 refine Reads.body (rs := [.tmp 4]) Tryd.func88 rfl Tryd.ntmps88 rfl (by simp) ?_
 generalize hQr : retQ _ _ _ = Qr
 refine AW.seq fun K1 hK1 => ?_
 refine AW.regionK 0 (fun _ => none) [0, 1] [] ?_
 simp only [go_sem, reduceIte, reduceCtorEq, zA, zM, zE, zL, zD, zS, zP, zB, zI, zR]
 repeat with_reducible refine cj ?_ ?_
 all_goals try first | omega
 refine hK1 _ _ _ ?_; clear hK1
 refine AW.seq fun K2 hK2 => ?_
 refine AW.seq fun K3 hK3 => ?_
 refine AW.regionK 0 (fun _ => none) [0, 1, 7, 8] [] ?_
 simp only [go_sem, reduceIte, reduceCtorEq, zA, zM, zE, zL, zD, zS, zP, zB, zI, zR]
 repeat with_reducible refine cj ?_ ?_
 all_goals try first | omega
 refine hK3 _ _ _ ?_; clear hK3
 refine AW.block ?_
 refine AW.loopE (fun mm ee ss kk => ∃ (j : Nat), l.length - j = mm ∧ ee = [(0, .rsl 1 (ints l)), (1, .int .i64 x), (7, .int .i64 l.length), (8, .int .i64 (j : Nat))] ∧ ss = [] ∧ (j ≤ l.length ∧ (l.take j).any (fun y => decide (x = y)) = false)) ?_ ?_
 ·refine ⟨_, 0, rfl, ?henv, ?hstore, ?hst⟩
  case henv =>
   repeat' (first | rfl | refine yaa ?_ ?_ | refine yad ?_ ?_ ?_ ?_ | refine yah ?_ | refine yae ?_ | refine yai ?_ | refine yaj ?_ | refine yan ?_ ?_ ?_ | refine yak ?_ ?_ ?_ | refine yal ?_ | refine yaf ?_ ?_ | refine yab ?_ ?_)
   all_goals (first | (simp; done) | omega | (simp; omega))
  case hstore =>
   repeat' (first | rfl | refine yaa ?_ ?_ | refine yad ?_ ?_ ?_ ?_ | refine yah ?_ | refine yae ?_ | refine yai ?_ | refine yaj ?_ | refine yan ?_ ?_ ?_ | refine yak ?_ ?_ ?_ | refine yal ?_ | refine yaf ?_ ?_ | refine yab ?_ ?_)
   all_goals (first | (simp; done) | omega | (simp; omega))
  case hst =>
   first | trivial | omega | (simp; done) | (simp; omega)
 rintro mm ee ss kk ⟨j, rfl, rfl, rfl, hI⟩
 generalize hQl1 : ybd _ _ = Ql1
 obtain ⟨hj, hall⟩ := hI
 refine AW.seq fun K4 hK4 => ?_
 refine AW.regionK 0 (fun _ => none) [0, 1, 7, 8, 9] [] ?_
 simp only [go_sem, reduceIte, reduceCtorEq, zA, zM, zE, zL, zD, zS, zP, zB, zI, zR]
 repeat with_reducible refine cj ?_ ?_
 all_goals try first | omega
 refine hK4 _ _ _ ?_; clear hK4
 refine AW.seq fun K5 hK5 => ?_
 refine AW.cond rfl (by simp only [go_sem, reduceIte, reduceCtorEq, zA, zM, zE, zL, zD, zS, zP, zB, zI, zR]) ?_ ?_
 ·intro hb
  try simp only [hB, decide_eq_true_eq, decide_eq_false_iff_not] at hb
  obtain ⟨y, hy⟩ := getI (l := l) (j := j) (by omega)
  have hgy := yer hy
  have hats := yco (p := fun y => decide (x = y)) hy
  refine AW.skip ?_
  refine hK5 _ _ _ ?_; clear hK5
  refine AW.seq fun K6 hK6 => ?_
  refine AW.block ?_
  refine AW.seq fun K7 hK7 => ?_
  refine AW.regionK 0 (fun _ => none) [0, 1, 5, 7, 8] [] ?_
  simp only [go_sem, reduceIte, reduceCtorEq, zA, zM, zE, zL, zD, zS, zP, zB, zI, zR]
  repeat with_reducible refine cj ?_ ?_
  all_goals try first | omega
  refine hK7 _ _ _ ?_; clear hK7
  refine AW.seq fun K8 hK8 => ?_
  refine AW.regionK 0 (fun _ => none) [0, 1, 5, 7, 8, 16] [] ?_
  simp only [go_sem, reduceIte, reduceCtorEq, zA, zM, zE, zL, zD, zS, zP, zB, zI, zR, hgy]
  repeat with_reducible refine cj ?_ ?_
  all_goals try first | omega
  refine hK8 _ _ _ ?_; clear hK8
  refine AW.cond rfl (by simp only [go_sem, reduceIte, reduceCtorEq, zA, zM, zE, zL, zD, zS, zP, zB, zI, zR]) ?_ ?_
  ·intro hb
   try simp only [hB, decide_eq_true_eq, decide_eq_false_iff_not] at hb
   refine AW.seq fun K9 hK9 => ?_
   refine AW.regionK 0 (fun _ => none) [4] [] ?_
   simp only [go_sem, reduceIte, reduceCtorEq, zA, zM, zE, zL, zD, zS, zP, zB, zI, zR]
   repeat with_reducible refine cj ?_ ?_
   all_goals try first | omega
   refine hK9 _ _ _ ?_; clear hK9
   refine AW.ret ?_
   rw [← hQl1]
   rw [← hQr]
   simp only [go_sem, reduceIte, reduceCtorEq, zA, zM, zE, zL, zD, zS, zP, zB, zI, zR]
   exact Wk.of_eq (by rw [yla hy (decide_eq_true hb) hall])
  ·intro hb
   try simp only [hB, decide_eq_true_eq, decide_eq_false_iff_not] at hb
   refine AW.skip ?_
   refine hK6 _ _ _ ?_; clear hK6
   refine AW.regionK 0 (fun _ => none) [0, 1, 7, 8] [] ?_
   simp only [go_sem, reduceIte, reduceCtorEq, zA, zM, zE, zL, zD, zS, zP, zB, zI, zR]
   repeat with_reducible refine cj ?_ ?_
   all_goals try first | omega
   rw [← hQl1]
   change Exists _
   refine ⟨_, ?hm, j + 1, rfl, ?henv, ?hstore, ?hst⟩
   case henv =>
    repeat' (first | rfl | refine yaa ?_ ?_ | refine yad ?_ ?_ ?_ ?_ | refine yah ?_ | refine yae ?_ | refine yai ?_ | refine yaj ?_ | refine yan ?_ ?_ ?_ | refine yak ?_ ?_ ?_ | refine yal ?_ | refine yaf ?_ ?_ | refine yab ?_ ?_)
    all_goals (first | (simp; done) | omega | (simp; omega))
   case hstore =>
    repeat' (first | rfl | refine yaa ?_ ?_ | refine yad ?_ ?_ ?_ ?_ | refine yah ?_ | refine yae ?_ | refine yai ?_ | refine yaj ?_ | refine yan ?_ ?_ ?_ | refine yak ?_ ?_ ?_ | refine yal ?_ | refine yaf ?_ ?_ | refine yab ?_ ?_)
    all_goals (first | (simp; done) | omega | (simp; omega))
   case hst =>
    exact ⟨by omega, by rw [hats, hall, decide_eq_false hb]; rfl⟩
   case hm => omega
 ·intro hb
  try simp only [hB, decide_eq_true_eq, decide_eq_false_iff_not] at hb
  refine AW.keep [] [] ?_
  try simp only [go_sem, reduceIte, reduceCtorEq, zA, zM, zE, zL, zD, zS, zP, zB, zI, zR]
  refine AW.exit ?_
  rw [← hQl1]
  refine hK2 _ _ _ ?_; clear hK2
  refine AW.seq fun K10 hK10 => ?_
  refine AW.regionK 0 (fun _ => none) [4] [] ?_
  simp only [go_sem, reduceIte, reduceCtorEq, zA, zM, zE, zL, zD, zS, zP, zB, zI, zR]
  repeat with_reducible refine cj ?_ ?_
  all_goals try first | omega
  refine hK10 _ _ _ ?_; clear hK10
  refine AW.ret ?_
  rw [← hQr]
  simp only [go_sem, reduceIte, reduceCtorEq, zA, zM, zE, zL, zD, zS, zP, zB, zI, zR]
  exact Wk.of_eq (by rw [List.take_of_length_le (by omega)] at hall; rw [yhc hall])
def nats (l : List Nat) : List Int := l.map fun (i : Nat) => (i : Int)
theorem yp3 (l : List Nat) (i : Nat) : nats l ++ [(i : Int)] = nats (l ++ [i]) := by simp [nats]
theorem yb3 (l : List Nat) : (nats l).length = l.length := by simp [nats]
theorem order_g (n : Nat) (t : List (List Bool)) (hs : Sq n t) (hn : n ≤ 512) (hac : acyc n t = true) : Reads Tryd.prog 65 false [relB t] (.tup [.rsl 1 (ints (nats (ordO n t n []))), .int .i64 ((0 : Nat) : Int)]) := by
 have h := yl8 n t hs hn
 have h2 := acyclic_g n t hs hn
 rw [hac] at h2
 have ha := ys7 n t hs hn
 have hlt : (tabR t).length = n := by rw [ybt, hs.len]
 have hpl : (yat t n).length ≤ 262144 := Nat.le_trans (yc1 t n n) (Nat.le_trans (Nat.mul_le_mul hn hn) (by decide))
 have hin := yhj (t := t) (n := n)
 have hz : ∀ i, (List.replicate n (0 : Int)).getD i 0 = 0 := fun i => by rw [List.getD_eq_getElem?_getD, List.getElem?_replicate]; split <;> rfl
 have hbf := befO_nil n t
 have hib := fun L j => incPs_bnd L j _ hz
 have hil := fun L => yho L (List.replicate n (0 : Int))
 have hh2 := fun i j hi hj => yp1 n t hs hn i j hi hj
 unfold relB at *
 generalize hP : yat t n = P at *
 refine Reads.body (rs := [.tmp 2, .tmp 3]) Tryd.func65 rfl Tryd.ntmps65 rfl (by simp) ?_
 generalize hQr : retQ _ _ _ = Qr
 refine AW.seq fun K1 hK1 => ?_
 refine AW.regionK 0 (fun _ => none) [1] [1] ?_
 simp only [go_sem, reduceIte, reduceCtorEq, zA, zM, zE, zL, zD, zS, zP, zB, zI, zR, hlt]
 repeat with_reducible refine cj ?_ ?_
 all_goals try first | omega
 refine hK1 _ _ _ ?_; clear hK1
 refine AW.seq fun K2 hK2 => ?_
 refine AW.block ?_
 refine AW.seq fun K3 hK3 => ?_
 refine AW.regionK 0 (fun ii => if ii = 1 then some (.reads false (.bool true)) else none) [1, 10] [1] ?_
 simp only [go_sem, reduceIte, reduceCtorEq, zA, zM, zE, zL, zD, zS, zP, zB, zI, zR, hlt]
 repeat with_reducible refine cj ?_ ?_
 all_goals try first | (exact h) | omega | exact ent (by kernel_rfl)
 refine hK3 _ _ _ ?_; clear hK3
 refine AW.cond rfl (by simp only [go_sem, reduceIte, reduceCtorEq, zA, zM, zE, zL, zD, zS, zP, zB, zI, zR]) ?_ ?_
 ·intro hb
  try simp only [hB, decide_eq_true_eq, decide_eq_false_iff_not] at hb
  simp at hb
 ·intro hb
  try simp only [hB, decide_eq_true_eq, decide_eq_false_iff_not] at hb
  refine AW.seq fun K4 hK4 => ?_
  refine AW.regionK 0 (fun ii => if ii = 1 then some (.reads false (.bool true)) else none) [1, 14] [1] ?_
  simp only [go_sem, reduceIte, reduceCtorEq, zA, zM, zE, zL, zD, zS, zP, zB, zI, zR, hlt]
  repeat with_reducible refine cj ?_ ?_
  all_goals try first | (exact h2) | omega | exact ent (by kernel_rfl)
  refine hK4 _ _ _ ?_; clear hK4
  refine AW.cond rfl (by simp only [go_sem, reduceIte, reduceCtorEq, zA, zM, zE, zL, zD, zS, zP, zB, zI, zR]) ?_ ?_
  ·intro hb
   try simp only [hB, decide_eq_true_eq, decide_eq_false_iff_not] at hb
   simp at hb
  ·intro hb
   try simp only [hB, decide_eq_true_eq, decide_eq_false_iff_not] at hb
   refine AW.skip ?_
   refine hK2 _ _ _ ?_; clear hK2
   refine AW.seq fun K5 hK5 => ?_
   refine AW.regionK 0 (fun _ => none) [1, 4] [1, 21] ?_
   simp only [go_sem, reduceIte, reduceCtorEq, zA, zM, zE, zL, zD, zS, zP, zB, zI, zR, hlt]
   repeat with_reducible refine cj ?_ ?_
   all_goals try first | omega
   refine hK5 _ _ _ ?_; clear hK5
   refine AW.seq fun K6 hK6 => ?_
   refine AW.seq fun K7 hK7 => ?_
   refine AW.regionK 0 (fun ii => if ii = 1 then some (.reads true (.rsl 2 (P.map ya6))) else none) [1, 4, 23, 24, 25] [1, 21] ?_
   simp only [go_sem, reduceIte, reduceCtorEq, zA, zM, zE, zL, zD, zS, zP, zB, zI, zR, hlt]
   repeat with_reducible refine cj ?_ ?_
   all_goals try first | (exact ha) | omega | exact ent (by kernel_rfl)
   refine hK7 _ _ _ ?_; clear hK7
   refine AW.block ?_
   refine AW.loopE (fun mm ee ss kk => ∃ (j g1 v1 g v : Nat), P.length - j = mm ∧ ee = [(1, .ptr ⟨1, g1, none⟩ 0 0), (4, .sl ⟨21, g, none⟩ 0 n none), (23, .rsl 2 (P.map ya6)), (24, .int .i64 P.length), (25, .int .i64 (j : Nat))] ∧ ss = [(1, some ⟨g1, v1, 1, [[.rsl 2 (tabR t)]]⟩), (21, some ⟨g, v, 1, ints (incPs (List.replicate n 0) (P.take j))⟩)] ∧ (j ≤ P.length)) ?_ ?_
   ·refine ⟨_, 0, ?_, ?_, ?_, ?_, rfl, ?henv, ?hstore, ?hst⟩
    case henv =>
     repeat' (first | rfl | refine yaa ?_ ?_ | refine yad ?_ ?_ ?_ ?_ | refine yah ?_ | refine yae ?_ | refine yai ?_ | refine yaj ?_ | refine yan ?_ ?_ ?_ | refine yak ?_ ?_ ?_ | refine yal ?_ | refine yaf ?_ ?_ | refine yab ?_ ?_)
     all_goals (first | (simp; done) | omega | (simp; omega))
    case hstore =>
     repeat' (first | rfl | refine yaa ?_ ?_ | refine yad ?_ ?_ ?_ ?_ | refine yah ?_ | refine yae ?_ | refine yai ?_ | refine yaj ?_ | refine yan ?_ ?_ ?_ | refine yak ?_ ?_ ?_ | refine yal ?_ | refine yaf ?_ ?_ | refine yab ?_ ?_)
     all_goals (simp [ints, incPs])
    case hst =>
     first | trivial | omega | (simp; done) | (simp; omega)
   rintro mm ee ss kk ⟨j, g1, v1, g, v, rfl, rfl, rfl, hI⟩
   generalize hQl1 : ybd _ _ = Ql1
   refine AW.seq fun K8 hK8 => ?_
   refine AW.regionK 0 (fun _ => none) [1, 4, 23, 24, 25, 26] [1, 21] ?_
   simp only [go_sem, reduceIte, reduceCtorEq, zA, zM, zE, zL, zD, zS, zP, zB, zI, zR, hlt]
   repeat with_reducible refine cj ?_ ?_
   all_goals try first | omega
   refine hK8 _ _ _ ?_; clear hK8
   refine AW.seq fun K9 hK9 => ?_
   refine AW.cond rfl (by simp only [go_sem, reduceIte, reduceCtorEq, zA, zM, zE, zL, zD, zS, zP, zB, zI, zR]) ?_ ?_
   ·intro hb
    try simp only [hB, decide_eq_true_eq, decide_eq_false_iff_not] at hb
    obtain ⟨p, hp⟩ := getI (l := P) (j := j) (by omega)
    have hgp := getV (f := ya6) hp
    have hip := hin p (List.mem_of_getElem? hp)
    have hpt := incPs_take (B := List.replicate n (0 : Int)) hp
    unfold inP at hip
    have hl2 := hil (P.take j)
    have hb2 := hib (P.take j) p.2.toNat
    rw [List.length_replicate] at hl2
    rw [List.length_take] at hb2
    generalize incPs (List.replicate n 0) (P.take j) = B at *
    have hgB := ybv (l := B) (i := p.2.toNat) (by omega)
    unfold incP at hpt
    refine AW.skip ?_
    refine hK9 _ _ _ ?_; clear hK9
    refine AW.seq fun K10 hK10 => ?_
    refine AW.block ?_
    refine AW.seq fun K11 hK11 => ?_
    refine AW.regionK 0 (fun _ => none) [1, 4, 6, 23, 24, 25] [1, 6, 21] ?_
    simp only [go_sem, reduceIte, reduceCtorEq, zA, zM, zE, zL, zD, zS, zP, zB, zI, zR, hlt, hgp, ya6]
    repeat with_reducible refine cj ?_ ?_
    all_goals try first | omega
    refine hK11 _ _ _ ?_; clear hK11
    refine AW.regionK 0 (fun _ => none) [1, 4, 23, 24, 25] [1, 21] ?_
    simp only [go_sem, reduceIte, reduceCtorEq, zA, zM, zE, zL, zD, zS, zP, zB, zI, zR, hlt, ya6, hgB, hl2]
    repeat with_reducible refine cj ?_ ?_
    all_goals try first | omega
    refine hK10 _ _ _ ?_; clear hK10
    refine AW.regionK 0 (fun _ => none) [1, 4, 23, 24, 25] [1, 21] ?_
    simp only [go_sem, reduceIte, reduceCtorEq, zA, zM, zE, zL, zD, zS, zP, zB, zI, zR, hlt]
    repeat with_reducible refine cj ?_ ?_
    all_goals try first | omega
    rw [← hQl1]
    change Exists _
    refine ⟨_, ?hm, j + 1, ?_, ?_, ?_, ?_, rfl, ?henv, ?hstore, ?hst⟩
    case henv =>
     repeat' (first | rfl | refine yaa ?_ ?_ | refine yad ?_ ?_ ?_ ?_ | refine yah ?_ | refine yae ?_ | refine yai ?_ | refine yaj ?_ | refine yan ?_ ?_ ?_ | refine yak ?_ ?_ ?_ | refine yal ?_ | refine yaf ?_ ?_ | refine yab ?_ ?_)
     all_goals (first | (simp; done) | omega | (simp; omega))
    case hstore =>
     repeat' (first | rfl | refine yaa ?_ ?_ | refine yad ?_ ?_ ?_ ?_ | refine yah ?_ | refine yae ?_ | refine yai ?_ | refine yaj ?_ | refine yan ?_ ?_ ?_ | refine yak ?_ ?_ ?_ | refine yal ?_ | refine yaf ?_ ?_ | refine yab ?_ ?_)
     all_goals (rw [hpt])
    case hst =>
     first | trivial | omega | (simp; done) | (simp; omega)
    case hm => omega
   ·intro hb
    try simp only [hB, decide_eq_true_eq, decide_eq_false_iff_not] at hb
    have hj : j = P.length := by omega
    subst hj
    rw [List.take_of_length_le (Nat.le_refl _), hbf]
    refine AW.exit ?_
    rw [← hQl1]
    refine hK6 _ _ _ ?_; clear hK6
    refine AW.seq fun K12 hK12 => ?_
    refine AW.regionK 0 (fun _ => none) [1, 4, 7] [1, 21] ?_
    simp only [go_sem, reduceIte, reduceCtorEq, zA, zM, zE, zL, zD, zS, zP, zB, zI, zR, hlt]
    repeat with_reducible refine cj ?_ ?_
    all_goals try first | omega
    refine hK12 _ _ _ ?_; clear hK12
    refine AW.seq fun K13 hK13 => ?_
    refine AW.seq fun K14 hK14 => ?_
    refine AW.regionK 0 (fun _ => none) [1, 4, 7, 39, 40] [1, 21] ?_
    simp only [go_sem, reduceIte, reduceCtorEq, zA, zM, zE, zL, zD, zS, zP, zB, zI, zR, hlt]
    repeat with_reducible refine cj ?_ ?_
    all_goals try first | omega
    refine hK14 _ _ _ ?_; clear hK14
    refine AW.block ?_
    refine AW.nilOwn 7 200 1 (by simp only [go_sem, reduceIte, zE]) ?_
    refine AW.keep [1, 4, 7, 39, 40] [1, 21, 200] ?_
    simp only [go_sem, reduceIte, zE]
    refine AW.loopE (fun mm ee ss kk => ∃ (m g1 v1 g v g7 v7 : Nat) (out : List Nat), m + 1 = mm ∧ ee = [(1, .ptr ⟨1, g1, none⟩ 0 0), (4, .sl ⟨21, g, none⟩ 0 n none), (7, .sl ⟨200, g7, none⟩ 0 out.length none), (39, .int .i64 n), (40, .int .i64 out.length)] ∧ ss = [(1, some ⟨g1, v1, 1, [[.rsl 2 (tabR t)]]⟩), (21, some ⟨g, v, 1, ints (befO n t out)⟩), (200, some ⟨g7, v7, 1, ints (nats out)⟩)] ∧ (OrdI n t out ∧ out.length + m = n ∧ ordO n t m out = ordO n t n [])) ?_ ?_
    ·refine ⟨_, n, ?_, ?_, ?_, ?_, ?_, ?_, [], rfl, ?henv, ?hstore, ?hst⟩
     case henv =>
      repeat' (first | rfl | refine yaa ?_ ?_ | refine yad ?_ ?_ ?_ ?_ | refine yah ?_ | refine yae ?_ | refine yai ?_ | refine yaj ?_ | refine yan ?_ ?_ ?_ | refine yak ?_ ?_ ?_ | refine yal ?_ | refine yaf ?_ ?_ | refine yab ?_ ?_)
      all_goals (first | (simp; done) | omega | (simp; omega))
     case hstore =>
      repeat' (first | rfl | refine yaa ?_ ?_ | refine yad ?_ ?_ ?_ ?_ | refine yah ?_ | refine yae ?_ | refine yai ?_ | refine yaj ?_ | refine yan ?_ ?_ ?_ | refine yak ?_ ?_ ?_ | refine yal ?_ | refine yaf ?_ ?_ | refine yab ?_ ?_)
      all_goals (first | (simp; done) | omega | (simp; omega))
     case hst =>
      exact ⟨OrdI.nil n t, by simp, rfl⟩
    rintro mm ee ss kk ⟨m, g1, v1, g, v, g7, v7, out, rfl, rfl, rfl, hI⟩
    generalize hQl2 : ybd _ _ = Ql2
    obtain ⟨hoi, hom, hoo⟩ := hI
    refine AW.seq fun K15 hK15 => ?_
    refine AW.regionK 0 (fun _ => none) [1, 4, 7, 39, 40, 41] [1, 21, 200] ?_
    simp only [go_sem, reduceIte, reduceCtorEq, zA, zM, zE, zL, zD, zS, zP, zB, zI, zR, hlt]
    repeat with_reducible refine cj ?_ ?_
    all_goals try first | omega
    refine hK15 _ _ _ ?_; clear hK15
    refine AW.seq fun K16 hK16 => ?_
    refine AW.cond rfl (by simp only [go_sem, reduceIte, reduceCtorEq, zA, zM, zE, zL, zD, zS, zP, zB, zI, zR]) ?_ ?_
    ·intro hb
     try simp only [hB, decide_eq_true_eq, decide_eq_false_iff_not] at hb
     obtain ⟨m, rfl⟩ : ∃ m', m = m' + 1 := ⟨m - 1, by omega⟩
     obtain ⟨i, hi1, hi2, hi3⟩ := OrdI.next hs hac (out := out) (by omega)
     have hix := befO_ix hi1
     have hbl := yex n t out
     have hidx := index_r (befO n t out) 0 (by omega)
     rw [hix] at hidx
     have hst := befO_step hs hac hoi hi2 hi3
     have hsn := hoi.snoc hi2 hi3
     have hoo2 : ordO n t m (out ++ [i]) = ordO n t n [] := by rw [← hoo]; show _ = ordO n t (m + 1) out; unfold ordO; rw [hi1]; cases m <;> rfl
     have hbr : ∀ j, j < n → -1 ≤ (befO n t out).getD j 0 ∧ (befO n t out).getD j 0 ≤ n := fun j hj => by
      rw [yhm hj]
      have : cntO n t out j ≤ n := by unfold cntO; have := List.length_filter_le (fun k => atT t k j && !out.contains k) (List.range n); simp at this ⊢; exact this
      split <;> omega
     generalize befO n t out = B at *
     have htb : (ints B).take n = ints B := List.take_of_length_le (by rw [yac]; omega)
     have hto : (ints (nats out)).take out.length = ints (nats out) := List.take_of_length_le (by rw [yac, yb3]; exact Nat.le_refl _)
     have hbl2 : (B.set i (-1)).length = n := by simp [hbl]
     have hdl := yhn t i (B.set i (-1))
     have hdg := fun j => yjl t i (B.set i (-1)) j
     have hbr2 : ∀ j, j < n → -1 ≤ (B.set i (-1)).getD j 0 ∧ (B.set i (-1)).getD j 0 ≤ n := fun j hj => by
      by_cases e : i = j
      ·subst e; rw [Go.AM.getD_set_eq (by omega)]; omega
      ·rw [Go.AM.getD_set_ne e]; exact hbr j hj
     refine AW.skip ?_
     refine hK16 _ _ _ ?_; clear hK16
     refine AW.seq fun K17 hK17 => ?_
     refine AW.block ?_
     refine AW.seq fun K18 hK18 => ?_
     refine AW.regionK 0 (fun ii => if ii = 1 then some (.reads true (.int .i64 (i : Nat))) else none) [1, 4, 7, 8, 39, 40] [1, 21, 200] ?_
     simp only [go_sem, reduceIte, reduceCtorEq, zA, zM, zE, zL, zD, zS, zP, zB, zI, zR, hlt, htb]
     repeat with_reducible refine cj ?_ ?_
     all_goals try first | (exact Reads.flat hidx rfl) | omega | exact ent (by kernel_rfl)
     refine hK18 _ _ _ ?_; clear hK18
     refine AW.seq fun K19 hK19 => ?_
     refine AW.regionK 0 (fun _ => none) [1, 4, 7, 8, 39, 40] [1, 21, 200] ?_
     simp only [go_sem, reduceIte, reduceCtorEq, zA, zM, zE, zL, zD, zS, zP, zB, zI, zR, hlt, hto, ylz, yp3, yb3]
     repeat with_reducible refine cj ?_ ?_
     all_goals try first | omega | (simp [scP, ybi]; done) | exact ybe _ | exact ybj _ | exact ybf _
     refine hK19 _ _ _ ?_; clear hK19
     refine AW.seq fun K20 hK20 => ?_
     refine AW.regionK 0 (fun _ => none) [1, 4, 7, 8, 39, 40] [1, 21, 200] ?_
     simp only [go_sem, reduceIte, reduceCtorEq, zA, zM, zE, zL, zD, zS, zP, zB, zI, zR, hlt, hbl]
     repeat with_reducible refine cj ?_ ?_
     all_goals try first | omega
     refine hK20 _ _ _ ?_; clear hK20
     refine AW.seq fun K21 hK21 => ?_
     refine AW.regionK 0 (fun _ => none) [1, 4, 7, 8, 39, 40, 53, 54] [1, 21, 200] ?_
     simp only [go_sem, reduceIte, reduceCtorEq, zA, zM, zE, zL, zD, zS, zP, zB, zI, zR, hlt]
     repeat with_reducible refine cj ?_ ?_
     all_goals try first | omega
     refine hK21 _ _ _ ?_; clear hK21
     refine AW.block ?_
     refine AW.loopE (fun mm ee ss kk => ∃ (j g1 v1 g v g7 v7 : Nat), n - j = mm ∧ ee = [(1, .ptr ⟨1, g1, none⟩ 0 0), (4, .sl ⟨21, g, none⟩ 0 n none), (7, .sl ⟨200, g7, none⟩ 0 (out ++ [i]).length none), (8, .int .i64 (i : Nat)), (39, .int .i64 n), (40, .int .i64 out.length), (53, .int .i64 n), (54, .int .i64 (j : Nat))] ∧ ss = [(1, some ⟨g1, v1, 1, [[.rsl 2 (tabR t)]]⟩), (21, some ⟨g, v, 1, ints (iter (decJ t i) j (B.set i (-1)))⟩), (200, some ⟨g7, v7, 1, ints (nats (out ++ [i]))⟩)] ∧ (j ≤ n)) ?_ ?_
     ·refine ⟨_, 0, ?_, ?_, ?_, ?_, ?_, ?_, rfl, ?henv, ?hstore, ?hst⟩
      case henv =>
       repeat' (first | rfl | refine yaa ?_ ?_ | refine yad ?_ ?_ ?_ ?_ | refine yah ?_ | refine yae ?_ | refine yai ?_ | refine yaj ?_ | refine yan ?_ ?_ ?_ | refine yak ?_ ?_ ?_ | refine yal ?_ | refine yaf ?_ ?_ | refine yab ?_ ?_)
       all_goals (first | (simp; done) | omega | (simp; omega))
      case hstore =>
       repeat' (first | rfl | refine yaa ?_ ?_ | refine yad ?_ ?_ ?_ ?_ | refine yah ?_ | refine yae ?_ | refine yai ?_ | refine yaj ?_ | refine yan ?_ ?_ ?_ | refine yak ?_ ?_ ?_ | refine yal ?_ | refine yaf ?_ ?_ | refine yab ?_ ?_)
       all_goals (first | (simp; done) | omega | (simp; omega))
      case hst =>
       first | trivial | omega | (simp; done) | (simp; omega)
     rintro mm ee ss kk ⟨j, g1, v1, g, v, g7, v7, rfl, rfl, rfl, hI⟩
     generalize hQl3 : ybd _ _ = Ql3
     refine AW.seq fun K22 hK22 => ?_
     refine AW.regionK 0 (fun _ => none) [1, 4, 7, 8, 39, 40, 53, 54, 55] [1, 21, 200] ?_
     simp only [go_sem, reduceIte, reduceCtorEq, zA, zM, zE, zL, zD, zS, zP, zB, zI, zR, hlt]
     repeat with_reducible refine cj ?_ ?_
     all_goals try first | omega
     refine hK22 _ _ _ ?_; clear hK22
     refine AW.seq fun K23 hK23 => ?_
     refine AW.cond rfl (by simp only [go_sem, reduceIte, reduceCtorEq, zA, zM, zE, zL, zD, zS, zP, zB, zI, zR]) ?_ ?_
     ·intro hb
      try simp only [hB, decide_eq_true_eq, decide_eq_false_iff_not] at hb
      have hhr := hh2 i j (by omega) (by omega)
      have hus : iter (decJ t i) (j + 1) (B.set i (-1)) = decJ t i j (iter (decJ t i) j (B.set i (-1))) := rfl
      rw [yox] at hus
      have hl2 := hdl j
      have hg2 := hdg j j (by omega)
      rw [if_neg (by omega)] at hg2
      have hb2 := hbr2 j (by omega)
      generalize iter (decJ t i) j (B.set i (-1)) = U at *
      have hgU := ybv (l := U) (i := j) (by omega)
      refine AW.skip ?_
      refine hK23 _ _ _ ?_; clear hK23
      refine AW.seq fun K24 hK24 => ?_
      refine AW.block ?_
      refine AW.seq fun K25 hK25 => ?_
      refine AW.regionK 0 (fun _ => none) [1, 4, 7, 8, 9, 39, 40, 53, 54] [1, 21, 200] ?_
      simp only [go_sem, reduceIte, reduceCtorEq, zA, zM, zE, zL, zD, zS, zP, zB, zI, zR, hlt]
      repeat with_reducible refine cj ?_ ?_
      all_goals try first | omega
      refine hK25 _ _ _ ?_; clear hK25
      refine AW.seq fun K26 hK26 => ?_
      refine AW.regionK 0 (fun ii => if ii = 3 then some (.reads false (.bool (atT t i j))) else none) [1, 4, 7, 8, 9, 39, 40, 53, 54, 60] [1, 21, 200] ?_
      simp only [go_sem, reduceIte, reduceCtorEq, zA, zM, zE, zL, zD, zS, zP, zB, zI, zR, hlt]
      repeat with_reducible refine cj ?_ ?_
      all_goals try first | (exact hhr) | omega | exact ent (by kernel_rfl)
      refine hK26 _ _ _ ?_; clear hK26
      refine AW.cond rfl (by simp only [go_sem, reduceIte, reduceCtorEq, zA, zM, zE, zL, zD, zS, zP, zB, zI, zR]) ?_ ?_
      ·intro hb
       try simp only [hB, decide_eq_true_eq, decide_eq_false_iff_not] at hb
       rw [if_pos hb] at hus
       refine AW.regionK 0 (fun _ => none) [1, 4, 7, 8, 39, 40, 53, 54] [1, 21, 200] ?_
       simp only [go_sem, reduceIte, reduceCtorEq, zA, zM, zE, zL, zD, zS, zP, zB, zI, zR, hlt, hgU]
       repeat with_reducible refine cj ?_ ?_
       all_goals try first | omega
       refine hK24 _ _ _ ?_; clear hK24
       refine AW.regionK 0 (fun _ => none) [1, 4, 7, 8, 39, 40, 53, 54] [1, 21, 200] ?_
       simp only [go_sem, reduceIte, reduceCtorEq, zA, zM, zE, zL, zD, zS, zP, zB, zI, zR, hlt]
       repeat with_reducible refine cj ?_ ?_
       all_goals try first | omega
       rw [← hQl3]
       change Exists _
       refine ⟨_, ?hm, j + 1, ?_, ?_, ?_, ?_, ?_, ?_, rfl, ?henv, ?hstore, ?hst⟩
       case henv =>
        repeat' (first | rfl | refine yaa ?_ ?_ | refine yad ?_ ?_ ?_ ?_ | refine yah ?_ | refine yae ?_ | refine yai ?_ | refine yaj ?_ | refine yan ?_ ?_ ?_ | refine yak ?_ ?_ ?_ | refine yal ?_ | refine yaf ?_ ?_ | refine yab ?_ ?_)
        all_goals (first | (simp; done) | omega | (simp; omega))
       case hstore =>
        repeat' (first | rfl | refine yaa ?_ ?_ | refine yad ?_ ?_ ?_ ?_ | refine yah ?_ | refine yae ?_ | refine yai ?_ | refine yaj ?_ | refine yan ?_ ?_ ?_ | refine yak ?_ ?_ ?_ | refine yal ?_ | refine yaf ?_ ?_ | refine yab ?_ ?_)
        all_goals (rw [hus])
       case hst =>
        first | trivial | omega | (simp; done) | (simp; omega)
       case hm => omega
      ·intro hb
       try simp only [hB, decide_eq_true_eq, decide_eq_false_iff_not] at hb
       rw [if_neg (by rw [hb]; simp)] at hus
       refine AW.skip ?_
       refine hK24 _ _ _ ?_; clear hK24
       refine AW.regionK 0 (fun _ => none) [1, 4, 7, 8, 39, 40, 53, 54] [1, 21, 200] ?_
       simp only [go_sem, reduceIte, reduceCtorEq, zA, zM, zE, zL, zD, zS, zP, zB, zI, zR, hlt]
       repeat with_reducible refine cj ?_ ?_
       all_goals try first | omega
       rw [← hQl3]
       change Exists _
       refine ⟨_, ?hm, j + 1, ?_, ?_, ?_, ?_, ?_, ?_, rfl, ?henv, ?hstore, ?hst⟩
       case henv =>
        repeat' (first | rfl | refine yaa ?_ ?_ | refine yad ?_ ?_ ?_ ?_ | refine yah ?_ | refine yae ?_ | refine yai ?_ | refine yaj ?_ | refine yan ?_ ?_ ?_ | refine yak ?_ ?_ ?_ | refine yal ?_ | refine yaf ?_ ?_ | refine yab ?_ ?_)
        all_goals (first | (simp; done) | omega | (simp; omega))
       case hstore =>
        repeat' (first | rfl | refine yaa ?_ ?_ | refine yad ?_ ?_ ?_ ?_ | refine yah ?_ | refine yae ?_ | refine yai ?_ | refine yaj ?_ | refine yan ?_ ?_ ?_ | refine yak ?_ ?_ ?_ | refine yal ?_ | refine yaf ?_ ?_ | refine yab ?_ ?_)
        all_goals (rw [hus])
       case hst =>
        first | trivial | omega | (simp; done) | (simp; omega)
       case hm => omega
     ·intro hb
      try simp only [hB, decide_eq_true_eq, decide_eq_false_iff_not] at hb
      have hj : j = n := by omega
      subst hj
      rw [hst]
      refine AW.exit ?_
      rw [← hQl3]
      refine hK17 _ _ _ ?_; clear hK17
      refine AW.regionK 0 (fun _ => none) [1, 4, 7, 39, 40] [1, 21, 200] ?_
      simp only [go_sem, reduceIte, reduceCtorEq, zA, zM, zE, zL, zD, zS, zP, zB, zI, zR, hlt]
      repeat with_reducible refine cj ?_ ?_
      all_goals try first | omega
      rw [← hQl2]
      change Exists _
      refine ⟨_, ?hm, m, ?_, ?_, ?_, ?_, ?_, ?_, out ++ [i], rfl, ?henv, ?hstore, ?hst⟩
      case henv =>
       repeat' (first | rfl | refine yaa ?_ ?_ | refine yad ?_ ?_ ?_ ?_ | refine yah ?_ | refine yae ?_ | refine yai ?_ | refine yaj ?_ | refine yan ?_ ?_ ?_ | refine yak ?_ ?_ ?_ | refine yal ?_ | refine yaf ?_ ?_ | refine yab ?_ ?_)
       all_goals (first | (simp; done) | omega | (simp; omega))
      case hstore =>
       repeat' (first | rfl | refine yaa ?_ ?_ | refine yad ?_ ?_ ?_ ?_ | refine yah ?_ | refine yae ?_ | refine yai ?_ | refine yaj ?_ | refine yan ?_ ?_ ?_ | refine yak ?_ ?_ ?_ | refine yal ?_ | refine yaf ?_ ?_ | refine yab ?_ ?_)
       all_goals (first | (simp; done) | omega | (simp; omega))
      case hst =>
       exact ⟨hsn, by simp; omega, hoo2⟩
      case hm => omega
    ·intro hb
     try simp only [hB, decide_eq_true_eq, decide_eq_false_iff_not] at hb
     refine AW.exit ?_
     rw [← hQl2]
     refine hK13 _ _ _ ?_; clear hK13
     refine AW.seq fun K27 hK27 => ?_
     refine AW.regionK 0 (fun _ => none) [2, 3] [200] ?_
     simp only [go_sem, reduceIte, reduceCtorEq, zA, zM, zE, zL, zD, zS, zP, zB, zI, zR, hlt]
     repeat with_reducible refine cj ?_ ?_
     all_goals try first | omega
     refine hK27 _ _ _ ?_; clear hK27
     refine AW.ret ?_
     rw [← hQr]
     simp only [go_sem, reduceIte, reduceCtorEq, zA, zM, zE, zL, zD, zS, zP, zB, zI, zR, hlt]
     have hm0 : m = 0 := by omega
     subst hm0
     have hor : out = ordO n t n [] := hoo
     rw [← hor, List.take_of_length_le (by rw [yb3]; exact Nat.le_refl _)]
     exact Wk.refl _
end Go.Proofs.W

namespace Go.Proofs.W
open Go.AM Go
set_option maxRecDepth 100000
set_option maxHeartbeats 2000000
attribute [-go_sem] globA_0
theorem tz_c (x q k : Nat) (G : List AV) (hg : yog 0 = some G) (h0 : x ≠ 0) (hq : bShr .u64 (IntKind.u64.wrap (bAnd .u64 (x : Int) (IntKind.u64.wrap (0 - (x : Int))) * 285870213051353865)) 58 = (q : Int)) (hq1 : q < 64) (hd : (List.drop q G).getD 0 .any = .int .u8 (k : Int)) (hdl : (List.drop q G).length = 64 - q) (hw : IntKind.i64.wrap (k : Int) = k) : Reads Tryd.prog 66 false [.int .u64 (x : Nat)] (.int .i64 (k : Nat)) := by
 refine Reads.body (rs := [.tmp 2]) Tryd.func66 rfl Tryd.ntmps66 rfl (by simp) ?_
 generalize hQr : retQ _ _ _ = Qr
 refine AW.seq fun K1 hK1 => ?_
 refine AW.regionK 0 (fun _ => none) [0] [] ?_
 simp only [go_sem, reduceIte, reduceCtorEq, zA, zM, zE, zL, zD, zS, zP, zB, zI, zR]
 repeat with_reducible refine cj ?_ ?_
 all_goals try first | omega
 refine hK1 _ _ _ ?_; clear hK1
 refine AW.seq fun K2 hK2 => ?_
 refine AW.seq fun K3 hK3 => ?_
 refine AW.regionK 0 (fun _ => none) [0, 4] [] ?_
 simp only [go_sem, reduceIte, reduceCtorEq, zA, zM, zE, zL, zD, zS, zP, zB, zI, zR]
 repeat with_reducible refine cj ?_ ?_
 all_goals try first | omega
 refine hK3 _ _ _ ?_; clear hK3
 refine AW.cond rfl (by simp only [go_sem, reduceIte, reduceCtorEq, zA, zM, zE, zL, zD, zS, zP, zB, zI, zR]) ?_ ?_
 ·intro hb
  try simp only [hB, decide_eq_true_eq, decide_eq_false_iff_not] at hb
  exfalso; omega
 ·intro hb
  try simp only [hB, decide_eq_true_eq, decide_eq_false_iff_not] at hb
  refine AW.skip ?_
  refine hK2 _ _ _ ?_; clear hK2
  refine AW.seq fun K4 hK4 => ?_
  refine AW.regionK 0 (fun _ => none) [2] [] ?_
  simp only [go_sem, reduceIte, reduceCtorEq, zA, zM, zE, zL, zD, zS, zP, zB, zI, zR, hg, hq, hd, hdl, hw, Int.toNat_natCast, Nat.mul_one]
  repeat with_reducible refine cj ?_ ?_
  all_goals try first | omega
  refine hK4 _ _ _ ?_; clear hK4
  refine AW.ret ?_
  rw [← hQr]
  simp only [go_sem, reduceIte, reduceCtorEq, zA, zM, zE, zL, zD, zS, zP, zB, zI, zR]
  exact Wk.refl _
theorem tz_r (x : Nat) (hx : x < 18446744073709551616) (h0 : x ≠ 0) (k : Nat) (hk : k < 64) (hl : x &&& (18446744073709551616 - x) = 2 ^ k) : Reads Tryd.prog 66 false [.int .u64 (x : Nat)] (.int .i64 (k : Nat)) :=
 tz_c x _ k tzA globA_0 h0 (tz_ix hx h0 hk hl) (yos k hk).1 (tzA_get (yos k hk).1 (yos k hk).2) (tzA_len _) (ys2 (by omega))
end Go.Proofs.W

/- The members of a set, word by word. -/
namespace Go.AM
def memK (W : List Int) (k : Nat) : List Nat := (yf9 (W.getD k 0).toNat).map fun j => 64 * k + j
def memT (W : List Int) (k : Nat) : List Nat := (List.range k).flatMap (memK W)
theorem yhp (W : List Int) (k : Nat) : memT W (k + 1) = memT W k ++ memK W k := by
  unfold memT; rw [List.range_succ, List.flatMap_append]; simp
theorem ymd (W : List Int) : ∀ k, (memT W k).length ≤ 64 * k
  | 0 => by simp [memT]
  | k + 1 => by
    rw [yhp, List.length_append]
    have := ymd W k
    have h2 : (memK W k).length ≤ 64 := by
      unfold memK yf9; rw [List.length_map]
      exact Nat.le_trans (List.length_filter_le _ _) (by simp)
    omega
theorem ykk (p : Nat → Bool) (a : Nat) : ∀ b, (List.range (a + b)).filter p = (List.range a).filter p ++ ((List.range b).filter fun j => p (a + j)).map fun j => a + j
  | 0 => by simp
  | b + 1 => by
    rw [← Nat.add_assoc, List.range_succ, List.filter_append, ykk p a b, List.range_succ, List.filter_append, List.map_append, List.append_assoc]
    congr 2
    simp only [List.filter_cons, List.filter_nil]
    split <;> simp
/-- The members are the places that have their bit. -/
theorem ykl {W : List Int} (hW : okW W) : ∀ k, memT W k = (List.range (64 * k)).filter fun (i : Nat) => hasW W (i : Int)
  | 0 => by simp [memT]
  | k + 1 => by
    rw [yhp, ykl hW k, Nat.mul_succ, ykk]
    congr 1
    unfold memK yf9
    congr 1
    refine List.filter_congr fun j hj => ?_
    have hj := List.mem_range.1 hj
    rw [yd1 hW, show (64 * k + j) / 64 = k by omega, show (64 * k + j) % 64 = j by omega]
end Go.AM

namespace Go.Proofs.W
open Go.AM Go
set_option maxRecDepth 100000
set_option maxHeartbeats 2000000
theorem members_r (N : Int) (W : List Int) (hv : validS N W = true) (hW : okW W) : Reads Tryd.prog 40 false [.agg [.int .i64 N, .rsl 1 (words W)]] (.tup [.rsl 1 (ints (nats (memT W W.length))), .int .i64 ((0 : Nat) : Int)]) := by
 obtain ⟨hN0, hN1, hNl⟩ := yfn hv
 have hwr := ya8 hN0
 have h := yd2 N W (by omega)
 rw [hv] at h
 have hml := ymd W
 refine Reads.body (rs := [.tmp 2, .tmp 3]) Tryd.func40 rfl Tryd.ntmps40 rfl (by simp) ?_
 generalize hQr : retQ _ _ _ = Qr
 refine AW.seq fun K1 hK1 => ?_
 refine AW.regionK 0 (fun _ => none) [1] [1] ?_
 simp only [go_sem, reduceIte, reduceCtorEq, zA, zM, zE, zL, zD, zS, zP, zB, zI, zR]
 repeat with_reducible refine cj ?_ ?_
 all_goals try first | omega
 refine hK1 _ _ _ ?_; clear hK1
 refine AW.seq fun K2 hK2 => ?_
 refine AW.seq fun K3 hK3 => ?_
 refine AW.regionK 0 (fun ii => if ii = 1 then some (.reads false (.bool true)) else none) [1, 9] [1] ?_
 simp only [go_sem, reduceIte, reduceCtorEq, zA, zM, zE, zL, zD, zS, zP, zB, zI, zR]
 repeat with_reducible refine cj ?_ ?_
 all_goals try first | (exact h) | omega | exact ent (by kernel_rfl)
 refine hK3 _ _ _ ?_; clear hK3
 refine AW.cond rfl (by simp only [go_sem, reduceIte, reduceCtorEq, zA, zM, zE, zL, zD, zS, zP, zB, zI, zR]) ?_ ?_
 ·intro hb
  try simp only [hB, decide_eq_true_eq, decide_eq_false_iff_not] at hb
  simp at hb
 ·intro hb
  try simp only [hB, decide_eq_true_eq, decide_eq_false_iff_not] at hb
  refine AW.skip ?_
  refine hK2 _ _ _ ?_; clear hK2
  refine AW.seq fun K4 hK4 => ?_
  refine AW.regionK 0 (fun _ => none) [1, 4] [1] ?_
  simp only [go_sem, reduceIte, reduceCtorEq, zA, zM, zE, zL, zD, zS, zP, zB, zI, zR]
  repeat with_reducible refine cj ?_ ?_
  all_goals try first | omega
  refine hK4 _ _ _ ?_; clear hK4
  refine AW.seq fun K5 hK5 => ?_
  refine AW.seq fun K6 hK6 => ?_
  refine AW.regionK 0 (fun _ => none) [4, 11, 12, 13] [] ?_
  simp only [go_sem, reduceIte, reduceCtorEq, zA, zM, zE, zL, zD, zS, zP, zB, zI, zR]
  repeat with_reducible refine cj ?_ ?_
  all_goals try first | omega
  refine hK6 _ _ _ ?_; clear hK6
  refine AW.block ?_
  refine AW.nilOwn 4 200 1 (by simp only [go_sem, reduceIte, zE]) ?_
  refine AW.keep [4, 11, 12, 13] [200] ?_
  simp only [go_sem, reduceIte, zE]
  refine AW.loopE (fun mm ee ss kk => ∃ (k g v : Nat) (out : List Nat), W.length - k = mm ∧ ee = [(4, .sl ⟨200, g, none⟩ 0 out.length none), (11, .rsl 1 (words W)), (12, .int .i64 W.length), (13, .int .i64 (k : Nat))] ∧ ss = [(200, some ⟨g, v, 1, ints (nats out)⟩)] ∧ (k ≤ W.length ∧ out = memT W k)) ?_ ?_
  ·refine ⟨_, 0, ?_, ?_, [], rfl, ?henv, ?hstore, ?hst⟩
   case henv =>
    repeat' (first | rfl | refine yaa ?_ ?_ | refine yad ?_ ?_ ?_ ?_ | refine yah ?_ | refine yae ?_ | refine yai ?_ | refine yaj ?_ | refine yan ?_ ?_ ?_ | refine yak ?_ ?_ ?_ | refine yal ?_ | refine yaf ?_ ?_ | refine yab ?_ ?_)
    all_goals (first | (simp; done) | omega | (simp; omega))
   case hstore =>
    repeat' (first | rfl | refine yaa ?_ ?_ | refine yad ?_ ?_ ?_ ?_ | refine yah ?_ | refine yae ?_ | refine yai ?_ | refine yaj ?_ | refine yan ?_ ?_ ?_ | refine yak ?_ ?_ ?_ | refine yal ?_ | refine yaf ?_ ?_ | refine yab ?_ ?_)
    all_goals (simp [ints, nats])
   case hst =>
    exact ⟨Nat.zero_le _, rfl⟩
  rintro mm ee ss kk ⟨k, g, v, out, rfl, rfl, rfl, hI⟩
  generalize hQl1 : ybd _ _ = Ql1
  obtain ⟨hk, hout⟩ := hI
  refine AW.seq fun K7 hK7 => ?_
  refine AW.regionK 0 (fun _ => none) [4, 11, 12, 13, 14] [200] ?_
  simp only [go_sem, reduceIte, reduceCtorEq, zA, zM, zE, zL, zD, zS, zP, zB, zI, zR]
  repeat with_reducible refine cj ?_ ?_
  all_goals try first | omega
  refine hK7 _ _ _ ?_; clear hK7
  refine AW.seq fun K8 hK8 => ?_
  refine AW.cond rfl (by simp only [go_sem, reduceIte, reduceCtorEq, zA, zM, zE, zL, zD, zS, zP, zB, zI, zR]) ?_ ?_
  ·intro hb
   try simp only [hB, decide_eq_true_eq, decide_eq_false_iff_not] at hb
   have hgw := ybo (l := W) (i := k) (by omega)
   have hwk := hW k
   have hms := yhp W k
   have hmk : memK W k = (yf9 (W.getD k 0).toNat).map fun j => 64 * k + j := rfl
   obtain ⟨x, hx⟩ : ∃ x : Nat, W.getD k 0 = (x : Int) := ⟨_, (Int.toNat_of_nonneg hwk.1).symm⟩
   have hxl : x < 18446744073709551616 := by omega
   have hmb := hml (k + 1)
   rw [hx, Int.toNat_natCast] at hmk
   rw [hx] at hgw
   rw [hmk] at hms
   refine AW.skip ?_
   refine hK8 _ _ _ ?_; clear hK8
   refine AW.seq fun K9 hK9 => ?_
   refine AW.block ?_
   refine AW.seq fun K10 hK10 => ?_
   refine AW.regionK 0 (fun _ => none) [4, 5, 6, 11, 12, 13] [200] ?_
   simp only [go_sem, reduceIte, reduceCtorEq, zA, zM, zE, zL, zD, zS, zP, zB, zI, zR, hgw]
   repeat with_reducible refine cj ?_ ?_
   all_goals try first | omega
   refine hK10 _ _ _ ?_; clear hK10
   refine AW.block ?_
   refine AW.loopE (fun mm ee ss kk => ∃ (y g v : Nat) (o2 : List Nat), y + 1 = mm ∧ ee = [(4, .sl ⟨200, g, none⟩ 0 o2.length none), (5, .int .i64 (k : Nat)), (6, .int .u64 (y : Nat)), (11, .rsl 1 (words W)), (12, .int .i64 W.length), (13, .int .i64 (k : Nat))] ∧ ss = [(200, some ⟨g, v, 1, ints (nats o2)⟩)] ∧ (y < 18446744073709551616 ∧ memT W (k + 1) = o2 ++ (yf9 y).map fun j => 64 * k + j)) ?_ ?_
   ·refine ⟨_, x, ?_, ?_, out, rfl, ?henv, ?hstore, ?hst⟩
    case henv =>
     repeat' (first | rfl | refine yaa ?_ ?_ | refine yad ?_ ?_ ?_ ?_ | refine yah ?_ | refine yae ?_ | refine yai ?_ | refine yaj ?_ | refine yan ?_ ?_ ?_ | refine yak ?_ ?_ ?_ | refine yal ?_ | refine yaf ?_ ?_ | refine yab ?_ ?_)
     all_goals (first | (simp; done) | omega | (simp; omega))
    case hstore =>
     repeat' (first | rfl | refine yaa ?_ ?_ | refine yad ?_ ?_ ?_ ?_ | refine yah ?_ | refine yae ?_ | refine yai ?_ | refine yaj ?_ | refine yan ?_ ?_ ?_ | refine yak ?_ ?_ ?_ | refine yal ?_ | refine yaf ?_ ?_ | refine yab ?_ ?_)
     all_goals (first | (simp; done) | omega | (simp; omega))
    case hst =>
     exact ⟨hxl, by rw [hms, hout]⟩
   rintro mm ee ss kk ⟨y, g, v, o2, rfl, rfl, rfl, hI⟩
   generalize hQl2 : ybd _ _ = Ql2
   obtain ⟨hyl, hy⟩ := hI
   have hol : o2.length ≤ 64 * (k + 1) := by rw [hy, List.length_append] at hmb; omega
   refine AW.seq fun K11 hK11 => ?_
   refine AW.seq fun K12 hK12 => ?_
   refine AW.regionK 0 (fun _ => none) [4, 5, 6, 11, 12, 13, 19] [200] ?_
   simp only [go_sem, reduceIte, reduceCtorEq, zA, zM, zE, zL, zD, zS, zP, zB, zI, zR]
   repeat with_reducible refine cj ?_ ?_
   all_goals try first | omega
   refine hK12 _ _ _ ?_; clear hK12
   refine AW.cond rfl (by simp only [go_sem, reduceIte, reduceCtorEq, zA, zM, zE, zL, zD, zS, zP, zB, zI, zR]) ?_ ?_
   ·intro hb
    try simp only [hB, decide_eq_true_eq, decide_eq_false_iff_not] at hb
    obtain ⟨j, hj, hj1, hj2, hj3⟩ := bitsW_step (x := y) (by omega) hyl
    have htz := tz_r y hyl (by omega) j hj hj1
    have hto : (ints (nats o2)).take o2.length = ints (nats o2) := List.take_of_length_le (by rw [yac, yb3]; exact Nat.le_refl _)
    have hadd : (k : Int) * 64 + (j : Int) = ((64 * k + j : Nat) : Int) := by omega
    have hsub : IntKind.u64.wrap ((y : Int) - 1) = ((y - 1 : Nat) : Int) := by rw [show (y : Int) - 1 = ((y - 1 : Nat) : Int) by omega]; exact yrj (by omega)
    have hand : bAnd .u64 (y : Int) ((y - 1 : Nat) : Int) = ((y &&& (y - 1) : Nat) : Int) := ydj hyl (by omega)
    have hone : [[AV.int .i64 ((64 * k + j : Nat) : Int)]] = ints [((64 * k + j : Nat) : Int)] := rfl
    refine AW.skip ?_
    refine hK11 _ _ _ ?_; clear hK11
    refine AW.seq fun K13 hK13 => ?_
    refine AW.block ?_
    refine AW.regionK 0 (fun ii => if ii = 4 then some (.reads false (.int .i64 (j : Nat))) else none) [4, 5, 6, 11, 12, 13] [200] ?_
    simp only [go_sem, reduceIte, reduceCtorEq, zA, zM, zE, zL, zD, zS, zP, zB, zI, zR, hadd, hto, ylz, yp3, yb3]
    repeat with_reducible refine cj ?_ ?_
    all_goals try first | (exact htz) | omega | exact ent (by kernel_rfl) | (simp [scP, ybi]; done) | exact ybe _ | exact ybj _ | exact ybf _
    refine hK13 _ _ _ ?_; clear hK13
    refine AW.regionK 0 (fun _ => none) [4, 5, 6, 11, 12, 13] [200] ?_
    simp only [go_sem, reduceIte, reduceCtorEq, zA, zM, zE, zL, zD, zS, zP, zB, zI, zR, hsub, hand]
    repeat with_reducible refine cj ?_ ?_
    all_goals try first | omega
    rw [← hQl2]
    change Exists _
    refine ⟨_, ?hm, y &&& (y - 1), ?_, ?_, o2 ++ [64 * k + j], rfl, ?henv, ?hstore, ?hst⟩
    case henv =>
     repeat' (first | rfl | refine yaa ?_ ?_ | refine yad ?_ ?_ ?_ ?_ | refine yah ?_ | refine yae ?_ | refine yai ?_ | refine yaj ?_ | refine yan ?_ ?_ ?_ | refine yak ?_ ?_ ?_ | refine yal ?_ | refine yaf ?_ ?_ | refine yab ?_ ?_)
     all_goals (first | (simp; done) | omega | (simp; omega))
    case hstore =>
     repeat' (first | rfl | refine yaa ?_ ?_ | refine yad ?_ ?_ ?_ ?_ | refine yah ?_ | refine yae ?_ | refine yai ?_ | refine yaj ?_ | refine yan ?_ ?_ ?_ | refine yak ?_ ?_ ?_ | refine yal ?_ | refine yaf ?_ ?_ | refine yab ?_ ?_)
     all_goals (first | (simp; done) | omega | (simp; omega))
    case hst =>
     exact ⟨by omega, by rw [hy, hj2]; simp⟩
    case hm => omega
   ·intro hb
    try simp only [hB, decide_eq_true_eq, decide_eq_false_iff_not] at hb
    have hy0 : y = 0 := by omega
    subst hy0
    rw [bitsW_zero, List.map_nil, List.append_nil] at hy
    refine AW.exit ?_
    rw [← hQl2]
    refine hK9 _ _ _ ?_; clear hK9
    refine AW.regionK 0 (fun _ => none) [4, 11, 12, 13] [200] ?_
    simp only [go_sem, reduceIte, reduceCtorEq, zA, zM, zE, zL, zD, zS, zP, zB, zI, zR]
    repeat with_reducible refine cj ?_ ?_
    all_goals try first | omega
    rw [← hQl1]
    change Exists _
    refine ⟨_, ?hm, k + 1, ?_, ?_, o2, rfl, ?henv, ?hstore, ?hst⟩
    case henv =>
     repeat' (first | rfl | refine yaa ?_ ?_ | refine yad ?_ ?_ ?_ ?_ | refine yah ?_ | refine yae ?_ | refine yai ?_ | refine yaj ?_ | refine yan ?_ ?_ ?_ | refine yak ?_ ?_ ?_ | refine yal ?_ | refine yaf ?_ ?_ | refine yab ?_ ?_)
     all_goals (first | (simp; done) | omega | (simp; omega))
    case hstore =>
     repeat' (first | rfl | refine yaa ?_ ?_ | refine yad ?_ ?_ ?_ ?_ | refine yah ?_ | refine yae ?_ | refine yai ?_ | refine yaj ?_ | refine yan ?_ ?_ ?_ | refine yak ?_ ?_ ?_ | refine yal ?_ | refine yaf ?_ ?_ | refine yab ?_ ?_)
     all_goals (first | (simp; done) | omega | (simp; omega))
    case hst =>
     exact ⟨by omega, hy.symm⟩
    case hm => omega
  ·intro hb
   try simp only [hB, decide_eq_true_eq, decide_eq_false_iff_not] at hb
   refine AW.exit ?_
   rw [← hQl1]
   refine hK5 _ _ _ ?_; clear hK5
   refine AW.seq fun K14 hK14 => ?_
   refine AW.regionK 0 (fun _ => none) [2, 3] [200] ?_
   simp only [go_sem, reduceIte, reduceCtorEq, zA, zM, zE, zL, zD, zS, zP, zB, zI, zR]
   repeat with_reducible refine cj ?_ ?_
   all_goals try first | omega
   refine hK14 _ _ _ ?_; clear hK14
   refine AW.ret ?_
   rw [← hQr]
   simp only [go_sem, reduceIte, reduceCtorEq, zA, zM, zE, zL, zD, zS, zP, zB, zI, zR]
   have hkl : k = W.length := by omega
   subst hkl
   rw [hout, List.take_of_length_le (by rw [yb3]; exact Nat.le_refl _)]
   exact Wk.refl _
end Go.Proofs.W

namespace Go.Proofs.W
open Go.AM Go
set_option maxRecDepth 100000
set_option maxHeartbeats 2000000
theorem pop_r (x : Nat) (hx : x < 18446744073709551616) : Reads Tryd.prog 77 false [.int .u64 (x : Nat)] (.int .i64 ((yf9 x).length : Nat)) := by
 obtain ⟨b1, b2, b3, b4⟩ := ynt hx
 have h1 := pop1 hx
 have h2 := pop2 b1 (by omega)
 have h3 := pop3 b2
 have b4' : popN x = (f3 1085102592571150095 (f2 3689348814741910323 (f1 6148914691236517205 x)) + f3 1085102592571150095 (f2 3689348814741910323 (f1 6148914691236517205 x)) / 256 + (f3 1085102592571150095 (f2 3689348814741910323 (f1 6148914691236517205 x)) + f3 1085102592571150095 (f2 3689348814741910323 (f1 6148914691236517205 x)) / 256) / 65536 + (f3 1085102592571150095 (f2 3689348814741910323 (f1 6148914691236517205 x)) + f3 1085102592571150095 (f2 3689348814741910323 (f1 6148914691236517205 x)) / 256 + (f3 1085102592571150095 (f2 3689348814741910323 (f1 6148914691236517205 x)) + f3 1085102592571150095 (f2 3689348814741910323 (f1 6148914691236517205 x)) / 256) / 65536) / 4294967296) % 128 := rfl
 rw [← b4, b4']
 clear b4 b4'
 generalize f1 6148914691236517205 x = a at *
 generalize f2 3689348814741910323 a = b at *
 generalize f3 1085102592571150095 b = y at *
 have h4 : IntKind.u64.wrap ((y : Int) + bShr .u64 (y : Int) 8) = ((y + y / 256 : Nat) : Int) := pop4 (k := 8) (by decide) (by decide) (by omega)
 have c1 : y + y / 256 < 600000000000000000 := by omega
 generalize y + y / 256 = y1 at *
 have h5 : IntKind.u64.wrap ((y1 : Int) + bShr .u64 (y1 : Int) 16) = ((y1 + y1 / 65536 : Nat) : Int) := pop4 (k := 16) (by decide) (by decide) (by omega)
 have c2 : y1 + y1 / 65536 < 700000000000000000 := by omega
 generalize y1 + y1 / 65536 = y2 at *
 have h6 : IntKind.u64.wrap ((y2 : Int) + bShr .u64 (y2 : Int) 32) = ((y2 + y2 / 4294967296 : Nat) : Int) := pop4 (k := 32) (by decide) (by decide) (by omega)
 have c3 : y2 + y2 / 4294967296 < 800000000000000000 := by omega
 generalize y2 + y2 / 4294967296 = y3 at *
 have h7 := pop5 (x := y3) (by omega)
 refine Reads.body (rs := [.tmp 2]) Tryd.func77 rfl Tryd.ntmps77 rfl (by simp) ?_
 generalize hQr : retQ _ _ _ = Qr
 refine AW.seq fun K1 hK1 => ?_
 refine AW.regionK 0 (fun _ => none) [0] [] ?_
 simp only [go_sem, reduceIte, reduceCtorEq, zA, zM, zE, zL, zD, zS, zP, zB, zI, zR]
 repeat with_reducible refine cj ?_ ?_
 all_goals try first | omega
 refine hK1 _ _ _ ?_; clear hK1
 refine AW.seq fun K2 hK2 => ?_
 refine AW.regionK 0 (fun _ => none) [0] [] ?_
 simp only [go_sem, reduceIte, reduceCtorEq, zA, zM, zE, zL, zD, zS, zP, zB, zI, zR, h1]
 repeat with_reducible refine cj ?_ ?_
 all_goals try first | omega
 refine hK2 _ _ _ ?_; clear hK2
 refine AW.seq fun K3 hK3 => ?_
 refine AW.regionK 0 (fun _ => none) [0] [] ?_
 simp only [go_sem, reduceIte, reduceCtorEq, zA, zM, zE, zL, zD, zS, zP, zB, zI, zR, h2]
 repeat with_reducible refine cj ?_ ?_
 all_goals try first | omega
 refine hK3 _ _ _ ?_; clear hK3
 refine AW.seq fun K4 hK4 => ?_
 refine AW.regionK 0 (fun _ => none) [0] [] ?_
 simp only [go_sem, reduceIte, reduceCtorEq, zA, zM, zE, zL, zD, zS, zP, zB, zI, zR, h3]
 repeat with_reducible refine cj ?_ ?_
 all_goals try first | omega
 refine hK4 _ _ _ ?_; clear hK4
 refine AW.seq fun K5 hK5 => ?_
 refine AW.regionK 0 (fun _ => none) [0] [] ?_
 simp only [go_sem, reduceIte, reduceCtorEq, zA, zM, zE, zL, zD, zS, zP, zB, zI, zR, h4]
 repeat with_reducible refine cj ?_ ?_
 all_goals try first | omega
 refine hK5 _ _ _ ?_; clear hK5
 refine AW.seq fun K6 hK6 => ?_
 refine AW.regionK 0 (fun _ => none) [0] [] ?_
 simp only [go_sem, reduceIte, reduceCtorEq, zA, zM, zE, zL, zD, zS, zP, zB, zI, zR, h5]
 repeat with_reducible refine cj ?_ ?_
 all_goals try first | omega
 refine hK6 _ _ _ ?_; clear hK6
 refine AW.seq fun K7 hK7 => ?_
 refine AW.regionK 0 (fun _ => none) [0] [] ?_
 simp only [go_sem, reduceIte, reduceCtorEq, zA, zM, zE, zL, zD, zS, zP, zB, zI, zR, h6]
 repeat with_reducible refine cj ?_ ?_
 all_goals try first | omega
 refine hK7 _ _ _ ?_; clear hK7
 refine AW.seq fun K8 hK8 => ?_
 refine AW.regionK 0 (fun _ => none) [2] [] ?_
 simp only [go_sem, reduceIte, reduceCtorEq, zA, zM, zE, zL, zD, zS, zP, zB, zI, zR, h7]
 repeat with_reducible refine cj ?_ ?_
 all_goals try first | omega
 refine hK8 _ _ _ ?_; clear hK8
 refine AW.ret ?_
 rw [← hQr]
 simp only [go_sem, reduceIte, reduceCtorEq, zA, zM, zE, zL, zD, zS, zP, zB, zI, zR]
 exact Wk.refl _
end Go.Proofs.W

namespace Go.Proofs.W
open Go.AM Go
set_option maxRecDepth 100000
set_option maxHeartbeats 2000000
theorem count_r (N : Int) (W : List Int) (hv : validS N W = true) (hW : okW W) : Reads Tryd.prog 51 false [.agg [.int .i64 N, .rsl 1 (words W)]] (.int .i64 ((memT W W.length).length : Nat)) := by
 obtain ⟨hN0, hN1, hNl⟩ := yfn hv
 have hwr := ya8 hN0
 have h := yd2 N W (by omega)
 rw [hv] at h
 have hml := ymd W
 refine Reads.body (rs := [.tmp 2]) Tryd.func51 rfl Tryd.ntmps51 rfl (by simp) ?_
 generalize hQr : retQ _ _ _ = Qr
 refine AW.seq fun K1 hK1 => ?_
 refine AW.regionK 0 (fun _ => none) [1] [1] ?_
 simp only [go_sem, reduceIte, reduceCtorEq, zA, zM, zE, zL, zD, zS, zP, zB, zI, zR]
 repeat with_reducible refine cj ?_ ?_
 all_goals try first | omega
 refine hK1 _ _ _ ?_; clear hK1
 refine AW.seq fun K2 hK2 => ?_
 refine AW.seq fun K3 hK3 => ?_
 refine AW.regionK 0 (fun ii => if ii = 1 then some (.reads false (.bool true)) else none) [1, 8] [1] ?_
 simp only [go_sem, reduceIte, reduceCtorEq, zA, zM, zE, zL, zD, zS, zP, zB, zI, zR]
 repeat with_reducible refine cj ?_ ?_
 all_goals try first | (exact h) | omega | exact ent (by kernel_rfl)
 refine hK3 _ _ _ ?_; clear hK3
 refine AW.cond rfl (by simp only [go_sem, reduceIte, reduceCtorEq, zA, zM, zE, zL, zD, zS, zP, zB, zI, zR]) ?_ ?_
 ·intro hb
  try simp only [hB, decide_eq_true_eq, decide_eq_false_iff_not] at hb
  simp at hb
 ·intro hb
  try simp only [hB, decide_eq_true_eq, decide_eq_false_iff_not] at hb
  refine AW.skip ?_
  refine hK2 _ _ _ ?_; clear hK2
  refine AW.seq fun K4 hK4 => ?_
  refine AW.regionK 0 (fun _ => none) [1, 3] [1] ?_
  simp only [go_sem, reduceIte, reduceCtorEq, zA, zM, zE, zL, zD, zS, zP, zB, zI, zR]
  repeat with_reducible refine cj ?_ ?_
  all_goals try first | omega
  refine hK4 _ _ _ ?_; clear hK4
  refine AW.seq fun K5 hK5 => ?_
  refine AW.seq fun K6 hK6 => ?_
  refine AW.regionK 0 (fun _ => none) [3, 10, 11, 12] [] ?_
  simp only [go_sem, reduceIte, reduceCtorEq, zA, zM, zE, zL, zD, zS, zP, zB, zI, zR]
  repeat with_reducible refine cj ?_ ?_
  all_goals try first | omega
  refine hK6 _ _ _ ?_; clear hK6
  refine AW.block ?_
  refine AW.loopE (fun mm ee ss kk => ∃ (k c : Nat), W.length - k = mm ∧ ee = [(3, .int .i64 (c : Nat)), (10, .rsl 1 (words W)), (11, .int .i64 W.length), (12, .int .i64 (k : Nat))] ∧ ss = [] ∧ (k ≤ W.length ∧ c = (memT W k).length)) ?_ ?_
  ·refine ⟨_, 0, 0, rfl, ?henv, ?hstore, ?hst⟩
   case henv =>
    repeat' (first | rfl | refine yaa ?_ ?_ | refine yad ?_ ?_ ?_ ?_ | refine yah ?_ | refine yae ?_ | refine yai ?_ | refine yaj ?_ | refine yan ?_ ?_ ?_ | refine yak ?_ ?_ ?_ | refine yal ?_ | refine yaf ?_ ?_ | refine yab ?_ ?_)
    all_goals (first | (simp; done) | omega | (simp; omega))
   case hstore =>
    repeat' (first | rfl | refine yaa ?_ ?_ | refine yad ?_ ?_ ?_ ?_ | refine yah ?_ | refine yae ?_ | refine yai ?_ | refine yaj ?_ | refine yan ?_ ?_ ?_ | refine yak ?_ ?_ ?_ | refine yal ?_ | refine yaf ?_ ?_ | refine yab ?_ ?_)
    all_goals (first | (simp; done) | omega | (simp; omega))
   case hst =>
    exact ⟨Nat.zero_le _, rfl⟩
  rintro mm ee ss kk ⟨k, c, rfl, rfl, rfl, hI⟩
  generalize hQl1 : ybd _ _ = Ql1
  obtain ⟨hk, hc⟩ := hI
  have hmk := hml k
  refine AW.seq fun K7 hK7 => ?_
  refine AW.regionK 0 (fun _ => none) [3, 10, 11, 12, 13] [] ?_
  simp only [go_sem, reduceIte, reduceCtorEq, zA, zM, zE, zL, zD, zS, zP, zB, zI, zR]
  repeat with_reducible refine cj ?_ ?_
  all_goals try first | omega
  refine hK7 _ _ _ ?_; clear hK7
  refine AW.seq fun K8 hK8 => ?_
  refine AW.cond rfl (by simp only [go_sem, reduceIte, reduceCtorEq, zA, zM, zE, zL, zD, zS, zP, zB, zI, zR]) ?_ ?_
  ·intro hb
   try simp only [hB, decide_eq_true_eq, decide_eq_false_iff_not] at hb
   have hgw := ybo (l := W) (i := k) (by omega)
   have hwk := hW k
   have hms := yhp W k
   have hmk2 : memK W k = (yf9 (W.getD k 0).toNat).map fun j => 64 * k + j := rfl
   obtain ⟨x, hx⟩ : ∃ x : Nat, W.getD k 0 = (x : Int) := ⟨_, (Int.toNat_of_nonneg hwk.1).symm⟩
   have hpop := pop_r x (by omega)
   rw [hx, Int.toNat_natCast] at hmk2
   rw [hx] at hgw
   have hlen : (memT W (k + 1)).length = c + (yf9 x).length := by rw [hms, hmk2, List.length_append, List.length_map, hc]
   have hmk3 := hml (k + 1)
   refine AW.skip ?_
   refine hK8 _ _ _ ?_; clear hK8
   refine AW.seq fun K9 hK9 => ?_
   refine AW.block ?_
   refine AW.seq fun K10 hK10 => ?_
   refine AW.regionK 0 (fun _ => none) [3, 5, 10, 11, 12] [] ?_
   simp only [go_sem, reduceIte, reduceCtorEq, zA, zM, zE, zL, zD, zS, zP, zB, zI, zR, hgw]
   repeat with_reducible refine cj ?_ ?_
   all_goals try first | omega
   refine hK10 _ _ _ ?_; clear hK10
   refine AW.regionK 0 (fun ii => if ii = 2 then some (.reads false (.int .i64 ((yf9 x).length : Nat))) else none) [3, 10, 11, 12] [] ?_
   simp only [go_sem, reduceIte, reduceCtorEq, zA, zM, zE, zL, zD, zS, zP, zB, zI, zR]
   repeat with_reducible refine cj ?_ ?_
   all_goals try first | (exact hpop) | omega | exact ent (by kernel_rfl)
   refine hK9 _ _ _ ?_; clear hK9
   refine AW.regionK 0 (fun _ => none) [3, 10, 11, 12] [] ?_
   simp only [go_sem, reduceIte, reduceCtorEq, zA, zM, zE, zL, zD, zS, zP, zB, zI, zR]
   repeat with_reducible refine cj ?_ ?_
   all_goals try first | omega
   rw [← hQl1]
   change Exists _
   refine ⟨_, ?hm, k + 1, c + (yf9 x).length, rfl, ?henv, ?hstore, ?hst⟩
   case henv =>
    repeat' (first | rfl | refine yaa ?_ ?_ | refine yad ?_ ?_ ?_ ?_ | refine yah ?_ | refine yae ?_ | refine yai ?_ | refine yaj ?_ | refine yan ?_ ?_ ?_ | refine yak ?_ ?_ ?_ | refine yal ?_ | refine yaf ?_ ?_ | refine yab ?_ ?_)
    all_goals (first | (simp; done) | omega | (simp; omega))
   case hstore =>
    repeat' (first | rfl | refine yaa ?_ ?_ | refine yad ?_ ?_ ?_ ?_ | refine yah ?_ | refine yae ?_ | refine yai ?_ | refine yaj ?_ | refine yan ?_ ?_ ?_ | refine yak ?_ ?_ ?_ | refine yal ?_ | refine yaf ?_ ?_ | refine yab ?_ ?_)
    all_goals (first | (simp; done) | omega | (simp; omega))
   case hst =>
    exact ⟨by omega, hlen.symm⟩
   case hm => omega
  ·intro hb
   try simp only [hB, decide_eq_true_eq, decide_eq_false_iff_not] at hb
   refine AW.keep [3] [] ?_
   try simp only [go_sem, reduceIte, reduceCtorEq, zA, zM, zE, zL, zD, zS, zP, zB, zI, zR]
   refine AW.exit ?_
   rw [← hQl1]
   refine hK5 _ _ _ ?_; clear hK5
   refine AW.seq fun K11 hK11 => ?_
   refine AW.regionK 0 (fun _ => none) [2] [] ?_
   simp only [go_sem, reduceIte, reduceCtorEq, zA, zM, zE, zL, zD, zS, zP, zB, zI, zR]
   repeat with_reducible refine cj ?_ ?_
   all_goals try first | omega
   refine hK11 _ _ _ ?_; clear hK11
   refine AW.ret ?_
   rw [← hQr]
   simp only [go_sem, reduceIte, reduceCtorEq, zA, zM, zE, zL, zD, zS, zP, zB, zI, zR]
   have hkl : k = W.length := by omega
   subst hkl
   rw [hc]
   exact Wk.refl _
end Go.Proofs.W

namespace Go.Proofs.W
open Go.AM Go
set_option maxRecDepth 100000
set_option maxHeartbeats 2000000
theorem minusf_r (a b : Int) : Reads Tryd.prog 97 false [.int .u64 a, .int .u64 b] (.int .u64 (ygl .u64 a b)) := by
 refine Reads.body (rs := [.tmp 4]) Tryd.func97 rfl Tryd.ntmps97 rfl (by simp) ?_
 generalize hQr : retQ _ _ _ = Qr
 refine AW.seq fun K1 hK1 => ?_
 refine AW.regionK 0 (fun _ => none) [0, 1] [] ?_
 simp only [go_sem, reduceIte, reduceCtorEq, zA, zM, zE, zL, zD, zS, zP, zB, zI, zR]
 repeat with_reducible refine cj ?_ ?_
 all_goals try first | omega
 refine hK1 _ _ _ ?_; clear hK1
 refine AW.seq fun K2 hK2 => ?_
 refine AW.regionK 0 (fun _ => none) [4] [] ?_
 simp only [go_sem, reduceIte, reduceCtorEq, zA, zM, zE, zL, zD, zS, zP, zB, zI, zR]
 repeat with_reducible refine cj ?_ ?_
 all_goals try first | omega
 refine hK2 _ _ _ ?_; clear hK2
 refine AW.ret ?_
 rw [← hQr]
 simp only [go_sem, reduceIte, reduceCtorEq, zA, zM, zE, zL, zD, zS, zP, zB, zI, zR]
 exact Wk.refl _
theorem bmatching_r (N M : Int) (W V : List Int) (hl : W.length ≤ 9223372036854775807) (hl2 : V.length ≤ 9223372036854775807) : Reads Tryd.prog 102 false [.agg [.int .i64 N, .rsl 1 (words W)], .agg [.int .i64 M, .rsl 1 (words V)]] (.bool (validS N W && validS M V && decide (N = M))) := by
 have h1 := yd2 N W hl
 have h2 := yd2 M V hl2
 refine Reads.body (rs := [.tmp 4]) Tryd.func102 rfl Tryd.ntmps102 rfl (by simp) ?_
 generalize hQr : retQ _ _ _ = Qr
 refine AW.seq fun K1 hK1 => ?_
 refine AW.regionK 0 (fun _ => none) [2, 3] [2, 3] ?_
 simp only [go_sem, reduceIte, reduceCtorEq, zA, zM, zE, zL, zD, zS, zP, zB, zI, zR]
 repeat with_reducible refine cj ?_ ?_
 all_goals try first | omega
 refine hK1 _ _ _ ?_; clear hK1
 refine AW.seq fun K2 hK2 => ?_
 refine AW.regionK 0 (fun ii => if ii = 1 then some (.reads false (.bool (validS N W))) else if ii = 4 then some (.reads false (.bool (validS M V))) else none) [4] [] ?_
 simp only [go_sem, reduceIte, reduceCtorEq, zA, zM, zE, zL, zD, zS, zP, zB, zI, zR]
 repeat with_reducible refine cj ?_ ?_
 all_goals try first | (first | exact h1 | exact h2 | (intro hh; exact ⟨hh, h2⟩)) | (intros; (repeat' apply And.intro) <;> first | assumption | (first | exact h1 | exact h2 | (intro hh; exact ⟨hh, h2⟩))) | omega | exact ent (by kernel_rfl) | (intro hgd; exact absurd hgd (by decide)) | rfl | (simp only [go_sem, reduceIte, reduceCtorEq, zA, zM, zE, zL, zD, zS, zP, zB, zI, zR]; done) | (intro _hgd; simp_all [go_sem]; done)
 refine hK2 _ _ _ ?_; clear hK2
 refine AW.ret ?_
 rw [← hQr]
 simp only [go_sem, reduceIte, reduceCtorEq, zA, zM, zE, zL, zD, zS, zP, zB, zI, zR]
 exact Wk.refl _
theorem copied_u (N : Int) (W : List Int) (hl : W.length ≤ 1000) : Upd Tryd.prog 103 [] [.agg [.int .i64 N, .rsl 1 (words W)]] (fun k => .agg [.int .i64 N, .sl ⟨0, k, none⟩ 0 W.length none]) (fun k => [(0, some ⟨k, k, 1, words W⟩)]) := by
 refine Upd.of_body (rs := [.cell 2 27]) Tryd.func103 rfl Tryd.ntmps103 rfl (by simp) ?_
 intro k0 k hk0 hk1
 generalize hQr : retQ _ _ _ = Qr
 refine AW.seq fun K1 hK1 => ?_
 refine AW.regionK 100 (fun _ => none) [1, 2] [101, 102] ?_
 simp only [go_sem, reduceIte, reduceCtorEq, zA, zM, zE, zL, zD, zS, zP, zB, zI, zR]
 repeat with_reducible refine cj ?_ ?_
 all_goals try first | omega
 refine hK1 _ _ _ ?_; clear hK1
 refine AW.seq fun K2 hK2 => ?_
 refine AW.regionD yd6 100 (fun _ => none) [1, 2, 3] [101, 102, 103, 109] ?_
 simp only [go_sem, reduceIte, reduceCtorEq, zA, zM, zE, zL, zD, zS, zP, zB, zI, zR]
 repeat with_reducible refine cj ?_ ?_
 all_goals try first | omega | exact chk (by kernel_rfl)
 refine hK2 _ _ _ ?_; clear hK2
 refine AW.seq fun K3 hK3 => ?_
 refine AW.regionK 100 (fun _ => none) [2, 3] [102, 103, 109] ?_
 simp only [go_sem, reduceIte, reduceCtorEq, zA, zM, zE, zL, zD, zS, zP, zB, zI, zR]
 repeat with_reducible refine cj ?_ ?_
 all_goals try first | omega | (simp [scP, ybi]; done) | exact ybe _ | exact ybj _ | exact ybf _
 refine hK3 _ _ _ ?_; clear hK3
 refine AW.seq fun K4 hK4 => ?_
 refine AW.regionK 100 (fun _ => none) [2] [102, 109] ?_
 simp only [go_sem, reduceIte, reduceCtorEq, zA, zM, zE, zL, zD, zS, zP, zB, zI, zR]
 repeat with_reducible refine cj ?_ ?_
 all_goals try first | omega
 refine hK4 _ _ _ ?_; clear hK4
 refine AW.ret ?_
 rw [← hQr]
 simp only [go_sem, reduceIte, reduceCtorEq, zA, zM, zE, zL, zD, zS, zP, zB, zI, zR]
 have e1 : words (List.take (min W.length W.length) W) ++ List.drop (min W.length W.length) (List.replicate W.length [AV.int IntKind.u64 0]) = words W := by rw [Nat.min_self, List.take_of_length_le (Nat.le_refl _), List.drop_of_length_le (by simp), List.append_nil]
 rw [e1]
 refine ⟨[(109, 0, true)], ?_⟩
 simp only [go_sem, reduceIte, zE, yk7]
end Go.Proofs.W

namespace Go.Proofs.W
open Go.AM Go
set_option maxRecDepth 100000
set_option maxHeartbeats 2000000
def zipK (g : Int → Int → Int) (W V : List Int) (k : Nat) : List Int := (List.zipWith g W V).take k ++ W.drop k
theorem zipK_len {g : Int → Int → Int} {W V : List Int} (hl : V.length = W.length) {k : Nat} (hk : k ≤ W.length) : (zipK g W V k).length = W.length := by simp [zipK, hl]; omega
theorem zipK_get {g : Int → Int → Int} {W V : List Int} (hl : V.length = W.length) {k : Nat} (hk : k < W.length) : (zipK g W V k).getD k 0 = W.getD k 0 := by
 unfold zipK
 rw [Go.AM.getD_append, if_neg (by simp [hl]; omega)]
 simp [List.getD_eq_getElem?_getD, hl, Nat.min_eq_left (Nat.le_of_lt hk)]
theorem zipK_set {g : Int → Int → Int} {W V : List Int} (hl : V.length = W.length) {k : Nat} (hk : k < W.length) : (zipK g W V k).set k (g (W.getD k 0) (V.getD k 0)) = zipK g W V (k + 1) := by
 unfold zipK
 have h1 : ((List.zipWith g W V).take k).length = k := by simp [hl]; omega
 rw [List.set_append_right _ _ (by omega), h1, Nat.sub_self, List.drop_eq_getElem_cons hk, List.set_cons_zero, List.take_succ_eq_append_getElem (by simp [hl]; omega), List.append_assoc]
 simp [List.getD_eq_getElem?_getD, hk, show k < V.length by omega]
theorem combined_r (N M : Int) (W V : List Int) (F : Nat) (g : Int → Int → Int) (hl : W.length ≤ 1000) (hl2 : V.length ≤ 1000) (hlen : V.length = W.length) (hok : (validS N W && validS M V && decide (N = M)) = true) (he : yaq Tryd.prog F = true) (hf : ∀ a b, Reads Tryd.prog F false [.int .u64 a, .int .u64 b] (.int .u64 (g a b))) :
  Reads Tryd.prog 96 false [.agg [.int .i64 N, .rsl 1 (words W)], .agg [.int .i64 M, .rsl 1 (words V)], .fn F []] (.tup [.agg [.int .i64 N, .rsl 1 (words (List.zipWith g W V))], .int .i64 ((0 : Nat) : Int)]) := by
 have hm := bmatching_r N M W V (by omega) (by omega)
 rw [hok] at hm
 have hc := copied_u N W hl
 refine Reads.body (rs := [.cell 6 27, .tmp 7]) Tryd.func96 rfl Tryd.ntmps96 rfl (by simp) ?_
 generalize hQr : retQ _ _ _ = Qr
 refine AW.seq fun K1 hK1 => ?_
 refine AW.regionK 0 (fun _ => none) [2, 3, 4, 6] [3, 4, 6] ?_
 simp only [go_sem, reduceIte, reduceCtorEq, zA, zM, zE, zL, zD, zS, zP, zB, zI, zR]
 repeat with_reducible refine cj ?_ ?_
 all_goals try first | omega
 refine hK1 _ _ _ ?_; clear hK1
 refine AW.seq fun K2 hK2 => ?_
 refine AW.seq fun K3 hK3 => ?_
 refine AW.regionK 0 (fun ii => if ii = 2 then some (.reads false (.bool true)) else none) [2, 3, 4, 6, 14] [3, 4, 6] ?_
 simp only [go_sem, reduceIte, reduceCtorEq, zA, zM, zE, zL, zD, zS, zP, zB, zI, zR]
 repeat with_reducible refine cj ?_ ?_
 all_goals try first | (exact hm) | omega | exact ent (by kernel_rfl)
 refine hK3 _ _ _ ?_; clear hK3
 refine AW.cond rfl (by simp only [go_sem, reduceIte, reduceCtorEq, zA, zM, zE, zL, zD, zS, zP, zB, zI, zR]) ?_ ?_
 ·intro hb
  try simp only [hB, decide_eq_true_eq, decide_eq_false_iff_not] at hb
  simp at hb
 ·intro hb
  try simp only [hB, decide_eq_true_eq, decide_eq_false_iff_not] at hb
  refine AW.skip ?_
  refine hK2 _ _ _ ?_; clear hK2
  refine AW.seq fun K4 hK4 => ?_
  refine AW.regionK 0 (fun ii => if ii = 1 then some (.upd [] (fun k => [(0, some ⟨k, k, 1, words W⟩)]) (fun k => .agg [.int .i64 N, .sl ⟨0, k, none⟩ 0 W.length none])) else none) [2, 4, 6, 8] [4, 6, 8, 17] ?_
  simp only [go_sem, reduceIte, reduceCtorEq, zA, zM, zE, zL, zD, zS, zP, zB, zI, zR]
  repeat with_reducible refine cj ?_ ?_
  all_goals try first | (exact hc) | omega | exact ent (by kernel_rfl)
  refine hK4 _ _ _ ?_; clear hK4
  refine AW.seq fun K5 hK5 => ?_
  refine AW.seq fun K6 hK6 => ?_
  refine AW.regionK 0 (fun _ => none) [2, 6, 8, 19, 20, 21] [6, 8, 17] ?_
  simp only [go_sem, reduceIte, reduceCtorEq, zA, zM, zE, zL, zD, zS, zP, zB, zI, zR]
  repeat with_reducible refine cj ?_ ?_
  all_goals try first | omega
  refine hK6 _ _ _ ?_; clear hK6
  refine AW.block ?_
  refine AW.loopE (fun mm ee ss kk => ∃ (k g6 v6 g8 v8 g17 v17 : Nat), W.length - k = mm ∧ ee = [(2, .fn F []), (6, .ptr ⟨6, g6, none⟩ 0 0), (8, .ptr ⟨8, g8, none⟩ 0 0), (19, .rsl 1 (words V)), (20, .int .i64 V.length), (21, .int .i64 (k : Nat))] ∧ ss = [(6, some ⟨g6, v6, 2, [[.int .i64 0, .nilsl]]⟩), (8, some ⟨g8, v8, 2, [[.int .i64 N, .sl ⟨17, g17, none⟩ 0 W.length none]]⟩), (17, some ⟨g17, v17, 1, words (zipK g W V k)⟩)] ∧ (k ≤ W.length)) ?_ ?_
  ·refine ⟨_, 0, ?_, ?_, ?_, ?_, ?_, ?_, rfl, ?henv, ?hstore, ?hst⟩
   case henv =>
    repeat' (first | rfl | refine yaa ?_ ?_ | refine yad ?_ ?_ ?_ ?_ | refine yah ?_ | refine yae ?_ | refine yai ?_ | refine yaj ?_ | refine yan ?_ ?_ ?_ | refine yak ?_ ?_ ?_ | refine yal ?_ | refine yaf ?_ ?_ | refine yab ?_ ?_)
    all_goals (first | (simp; done) | omega | (simp; omega))
   case hstore =>
    repeat' (first | rfl | refine yaa ?_ ?_ | refine yad ?_ ?_ ?_ ?_ | refine yah ?_ | refine yae ?_ | refine yai ?_ | refine yaj ?_ | refine yan ?_ ?_ ?_ | refine yak ?_ ?_ ?_ | refine yal ?_ | refine yaf ?_ ?_ | refine yab ?_ ?_)
    all_goals (first | (simp; done) | omega | (simp; omega))
   case hst =>
    first | trivial | omega | (simp; done) | (simp; omega)
  rintro mm ee ss kk ⟨k, g6, v6, g8, v8, g17, v17, rfl, rfl, rfl, hI⟩
  generalize hQl1 : ybd _ _ = Ql1
  refine AW.seq fun K7 hK7 => ?_
  refine AW.regionK 0 (fun _ => none) [2, 6, 8, 19, 20, 21, 22] [6, 8, 17] ?_
  simp only [go_sem, reduceIte, reduceCtorEq, zA, zM, zE, zL, zD, zS, zP, zB, zI, zR]
  repeat with_reducible refine cj ?_ ?_
  all_goals try first | omega
  refine hK7 _ _ _ ?_; clear hK7
  refine AW.seq fun K8 hK8 => ?_
  refine AW.cond rfl (by simp only [go_sem, reduceIte, reduceCtorEq, zA, zM, zE, zL, zD, zS, zP, zB, zI, zR]) ?_ ?_
  ·intro hb
   try simp only [hB, decide_eq_true_eq, decide_eq_false_iff_not] at hb
   have hzl := zipK_len (g := g) hlen (k := k) (by omega)
   have hzg := zipK_get (g := g) hlen (k := k) (by omega)
   have hzs := zipK_set (g := g) hlen (k := k) (by omega)
   have hgv := ybo (l := V) (i := k) (by omega)
   have hgz := ybo (l := zipK g W V k) (i := k) (by omega)
   rw [hzg] at hgz
   have hff := hf (W.getD k 0) (V.getD k 0)
   refine AW.skip ?_
   refine hK8 _ _ _ ?_; clear hK8
   refine AW.seq fun K9 hK9 => ?_
   refine AW.block ?_
   refine AW.seq fun K10 hK10 => ?_
   refine AW.regionK 0 (fun _ => none) [2, 6, 8, 9, 10, 19, 20, 21] [6, 8, 17] ?_
   simp only [go_sem, reduceIte, reduceCtorEq, zA, zM, zE, zL, zD, zS, zP, zB, zI, zR, hgv]
   repeat with_reducible refine cj ?_ ?_
   all_goals try first | omega
   refine hK10 _ _ _ ?_; clear hK10
   refine AW.regionD yd6 0 (fun ii => if ii = 10 then some (.reads false (.int .u64 (g (W.getD k 0) (V.getD k 0)))) else none) [2, 6, 8, 19, 20, 21] [6, 8, 17] ?_
   simp only [go_sem, reduceIte, reduceCtorEq, zA, zM, zE, zL, zD, zS, zP, zB, zI, zR, hgz, hzl]
   repeat with_reducible refine cj ?_ ?_
   all_goals try first | (first | exact hff | exact he) | omega | exact chk (by kernel_rfl) | exact ent (by kernel_rfl)
   refine hK9 _ _ _ ?_; clear hK9
   refine AW.regionK 0 (fun _ => none) [2, 6, 8, 19, 20, 21] [6, 8, 17] ?_
   simp only [go_sem, reduceIte, reduceCtorEq, zA, zM, zE, zL, zD, zS, zP, zB, zI, zR]
   repeat with_reducible refine cj ?_ ?_
   all_goals try first | omega
   rw [← hQl1]
   change Exists _
   refine ⟨_, ?hm, k + 1, ?_, ?_, ?_, ?_, ?_, ?_, rfl, ?henv, ?hstore, ?hst⟩
   case henv =>
    repeat' (first | rfl | refine yaa ?_ ?_ | refine yad ?_ ?_ ?_ ?_ | refine yah ?_ | refine yae ?_ | refine yai ?_ | refine yaj ?_ | refine yan ?_ ?_ ?_ | refine yak ?_ ?_ ?_ | refine yal ?_ | refine yaf ?_ ?_ | refine yab ?_ ?_)
    all_goals (first | (simp; done) | omega | (simp; omega))
   case hstore =>
    repeat' (first | rfl | refine yaa ?_ ?_ | refine yad ?_ ?_ ?_ ?_ | refine yah ?_ | refine yae ?_ | refine yai ?_ | refine yaj ?_ | refine yan ?_ ?_ ?_ | refine yak ?_ ?_ ?_ | refine yal ?_ | refine yaf ?_ ?_ | refine yab ?_ ?_)
    all_goals (rw [← hzs])
   case hst =>
    first | trivial | omega | (simp; done) | (simp; omega)
   case hm => omega
  ·intro hb
   try simp only [hB, decide_eq_true_eq, decide_eq_false_iff_not] at hb
   refine AW.exit ?_
   rw [← hQl1]
   refine hK5 _ _ _ ?_; clear hK5
   refine AW.seq fun K11 hK11 => ?_
   refine AW.regionK 0 (fun _ => none) [6, 7] [6, 8, 17] ?_
   simp only [go_sem, reduceIte, reduceCtorEq, zA, zM, zE, zL, zD, zS, zP, zB, zI, zR]
   repeat with_reducible refine cj ?_ ?_
   all_goals try first | omega
   refine hK11 _ _ _ ?_; clear hK11
   refine AW.ret ?_
   rw [← hQr]
   simp only [go_sem, reduceIte, reduceCtorEq, zA, zM, zE, zL, zD, zS, zP, zB, zI, zR]
   have hkl : k = W.length := by omega
   subst hkl
   have hz : (zipK g W V W.length).take W.length = List.zipWith g W V := by unfold zipK; rw [List.drop_of_length_le (Nat.le_refl _), List.append_nil, List.take_take, Nat.min_self, List.take_of_length_le (by simp [hlen])]
   rw [hz]
   exact Wk.refl _
end Go.Proofs.W

namespace Go.Proofs.W
open Go.AM Go
set_option maxRecDepth 100000
set_option maxHeartbeats 2000000
theorem yjm {b : List Bool} (h : b.length ≤ 512) : (setW b b.length).length ≤ 1000 := by
 rw [ya1]; have := ya8 (n := (b.length : Int)) (by omega); omega
theorem minus_r (a b : List Bool) (ha : a.length ≤ 512) (hl : b.length = a.length) : Reads Tryd.prog 90 false [.agg (rowB a), .agg (rowB b)] (.tup [.agg (rowB (List.zipWith (fun x y => x && !y) a b)), .int .i64 ((0 : Nat) : Int)]) := by
 have hz := ynp bitOp_andNot (a := a) (b := b) hl.symm
 have h := combined_r a.length b.length (setW a a.length) (setW b b.length) 97 (ygl .u64) (yjm ha) (yjm (by omega)) (by rw [ya1, ya1, hl]) (by rw [yci ha, yci (by omega), hl]; simp) (by kernel_rfl) minusf_r
 have e : (List.zipWith (fun x y => x && !y) a b).length = a.length := by simp [hl]
 rw [hz] at h
 unfold rowB
 rw [e]
 refine Reads.body (rs := [.cell 4 27, .tmp 5]) Tryd.func90 rfl Tryd.ntmps90 rfl (by simp) ?_
 generalize hQr : retQ _ _ _ = Qr
 refine AW.seq fun K1 hK1 => ?_
 refine AW.regionK 0 (fun _ => none) [2, 3, 4] [2, 3, 4] ?_
 simp only [go_sem, reduceIte, reduceCtorEq, zA, zM, zE, zL, zD, zS, zP, zB, zI, zR]
 repeat with_reducible refine cj ?_ ?_
 all_goals try first | omega
 refine hK1 _ _ _ ?_; clear hK1
 refine AW.seq fun K2 hK2 => ?_
 refine AW.regionK 0 (fun ii => if ii = 2 then some (.reads false (.tup [.agg [.int .i64 a.length, .rsl 1 (words (setW (List.zipWith (fun x y => x && !y) a b) a.length))], .int .i64 ((0 : Nat) : Int)])) else none) [4, 5] [4] ?_
 simp only [go_sem, reduceIte, reduceCtorEq, zA, zM, zE, zL, zD, zS, zP, zB, zI, zR]
 repeat with_reducible refine cj ?_ ?_
 all_goals try first | (exact h) | omega | exact ent (by kernel_rfl)
 refine hK2 _ _ _ ?_; clear hK2
 refine AW.ret ?_
 rw [← hQr]
 simp only [go_sem, reduceIte, reduceCtorEq, zA, zM, zE, zL, zD, zS, zP, zB, zI, zR]
 exact Wk.refl _
end Go.Proofs.W

/- Strict orders as tables of truths. -/
namespace Go.AM
/-! ### Members of a row. -/
def memB (b : List Bool) : List Nat := (List.range b.length).filter fun i => b.getD i false
theorem memB_mem {b : List Bool} {i : Nat} : i ∈ memB b ↔ i < b.length ∧ b.getD i false = true := by
  unfold memB; simp [List.mem_filter]
theorem yme (b : List Bool) : (memB b).length ≤ b.length := by
  unfold memB; have := List.length_filter_le (fun i => b.getD i false) (List.range b.length); simpa using this
def subB (a b : List Bool) : Bool := (List.range a.length).all fun i => !a.getD i false || b.getD i false
theorem subB_iff {a b : List Bool} : subB a b = true ↔ ∀ i, i < a.length → a.getD i false = true → b.getD i false = true := by
  unfold subB
  rw [List.all_eq_true]
  constructor
  · intro h i hi ha
    have := h i (List.mem_range.2 hi)
    rw [ha] at this
    simpa using this
  · intro h i hi
    have := h i (List.mem_range.1 hi)
    cases ha : a.getD i false
    · rfl
    · rw [this ha]; rfl
/-! ### Orders. -/
def poB (n : Nat) (t : List (List Bool)) : Bool := (List.range n).all fun i => (memB (rowT t i)).all fun j => !decide (j = i) && subB (rowT t j) (rowT t i)
structure IsPo (n : Nat) (t : List (List Bool)) : Prop where
  irr : ∀ i, i < n → atT t i i = false
  trans : ∀ i j k, i < n → j < n → k < n → atT t i j = true → atT t j k = true → atT t i k = true
theorem ydc {n : Nat} {t : List (List Bool)} (h : Sq n t) : poB n t = true ↔ IsPo n t := by
  unfold poB
  simp only [List.all_eq_true, List.mem_range, memB_mem, Bool.and_eq_true, Bool.not_eq_true', decide_eq_false_iff_not]
  constructor
  · intro H
    refine ⟨fun i hi => ?_, fun i j k hi hj hk h1 h2 => ?_⟩
    · cases e : atT t i i
      · rfl
      · exact absurd rfl (H i hi i ⟨by rw [h.rowLen hi]; exact hi, e⟩).1
    · exact subB_iff.1 (H i hi j ⟨by rw [h.rowLen hi]; exact hj, h1⟩).2 k (by rw [h.rowLen hj]; exact hk) h2
  · intro H i hi j hj
    have hjn : j < n := by rw [h.rowLen hi] at hj; exact hj.1
    refine ⟨fun e => ?_, subB_iff.2 fun k hk ha => ?_⟩
    · subst e
      have := H.irr _ hi
      unfold atT at this
      rw [this] at hj
      exact absurd hj.2 (by simp)
    · rw [h.rowLen hjn] at hk
      exact H.trans i j k hi hjn hk hj.2 ha
theorem IsPo.inv {n : Nat} {t : List (List Bool)} (h : IsPo n t) : IsPo n (invT n t) := by
  refine ⟨fun i hi => by rw [ydx hi hi]; exact h.irr i hi, fun i j k hi hj hk h1 h2 => ?_⟩
  rw [ydx hi hj] at h1
  rw [ydx hj hk] at h2
  rw [ydx hi hk]
  exact h.trans k j i hk hj hi h2 h1
theorem IsPo.warsh {n : Nat} {t : List (List Bool)} (hs : Sq n t) (h : IsPo n t) : warsh n t = t := by
  refine yrh hs.warsh hs fun i j hi hj => yl9 ⟨fun hw => ?_, fun hw => yhk hs hi hj hw⟩
  exact warsh_least hs (S := fun a b => atT t a b = true) (fun a b _ _ h => h) (fun a c b ha hc hb h1 h2 => h.trans a c b ha hc hb h1 h2) hi hj hw
theorem IsPo.acyc {n : Nat} {t : List (List Bool)} (hs : Sq n t) (h : IsPo n t) : acyc n t = true := by
  rw [acyc_iff]
  intro i hi
  rw [h.warsh hs]
  exact h.irr i hi
/-! ### Covers. -/
/-! ### Sets of elements. -/
def setR (n : Nat) (f : Nat → Bool) : List Bool := (List.range n).map f
theorem setR_len (n : Nat) (f : Nat → Bool) : (setR n f).length = n := by simp [setR]
theorem yp4 {n : Nat} {f : Nat → Bool} {i : Nat} (h : i < n) : (setR n f).getD i false = f i := by
  unfold setR; simp [List.getD_eq_getElem?_getD, h]
end Go.AM

namespace Go.Proofs.W
open Go.AM Go
set_option maxRecDepth 100000
set_option maxHeartbeats 2000000
theorem yn4 {b : List Bool} (hb : b.length ≤ 512) : memT (setW b b.length) (setW b b.length).length = memB b := by
 have hok := ydb b
 rw [ykl hok, ya1]
 have hw := ya8 (n := (b.length : Int)) (by omega)
 obtain ⟨c, hc⟩ : ∃ c, 64 * (ybb b.length).toNat = b.length + c := ⟨64 * (ybb b.length).toNat - b.length, by omega⟩
 rw [hc, ykk]
 have h2 : ((List.range c).filter fun j => hasW (setW b b.length) ((b.length + j : Nat) : Int)) = [] := by
  rw [List.filter_eq_nil_iff]
  intro j hj
  have hj := List.mem_range.1 hj
  rw [ycp b (i := b.length + j) (by rw [ya1]; omega)]
  simp [List.getD_eq_getElem?_getD]
 rw [h2, List.map_nil, List.append_nil]
 unfold memB
 refine List.filter_congr fun i hi => ?_
 exact yl4 (List.mem_range.1 hi)
theorem yhq (b : List Bool) (hb : b.length ≤ 512) : Reads Tryd.prog 40 false [.agg (rowB b)] (.tup [.rsl 1 (ints (nats (memB b))), .int .i64 ((0 : Nat) : Int)]) := by
 have h := members_r b.length (setW b b.length) (yci hb) (ydb b)
 rw [yn4 hb] at h
 exact h
theorem count_b (b : List Bool) (hb : b.length ≤ 512) : Reads Tryd.prog 51 false [.agg (rowB b)] (.int .i64 ((memB b).length : Nat)) := by
 have h := count_r b.length (setW b b.length) (yci hb) (ydb b)
 rw [yn4 hb] at h
 exact h
theorem subB_count {a b : List Bool} (hl : b.length = a.length) : decide (((memB (List.zipWith (fun x y => x && !y) a b)).length : Int) = 0) = subB a b := by
 have e : (List.zipWith (fun x y => x && !y) a b).length = a.length := by simp [hl]
 refine yl9 ?_
 rw [decide_eq_true_eq, show (((memB (List.zipWith (fun x y => x && !y) a b)).length : Int) = 0 ↔ memB (List.zipWith (fun x y => x && !y) a b) = []) from by rw [← List.length_eq_zero_iff]; omega]
 unfold memB subB
 rw [List.filter_eq_nil_iff, List.all_eq_true, e]
 constructor
 ·intro h i hi
  have := h i hi
  rw [yjj _ hl.symm (List.mem_range.1 hi)] at this
  cases h1 : a.getD i false <;> cases h2 : b.getD i false <;> simp_all
 ·intro h i hi
  have := h i hi
  rw [yjj _ hl.symm (List.mem_range.1 hi)]
  revert this
  cases a.getD i false <;> cases b.getD i false <;> decide
theorem subset_r (a b : List Bool) (ha : a.length ≤ 512) (hl : b.length = a.length) : Reads Tryd.prog 73 false [.agg (rowB a), .agg (rowB b)] (.bool (subB a b)) := by
 have hm := minus_r a b ha hl
 have e : (List.zipWith (fun x y => x && !y) a b).length = a.length := by simp [hl]
 have hc := count_b (List.zipWith (fun x y => x && !y) a b) (by omega)
 have hs := subB_count hl
 unfold rowB at *
 refine Reads.body (rs := [.tmp 4]) Tryd.func73 rfl Tryd.ntmps73 rfl (by simp) ?_
 generalize hQr : retQ _ _ _ = Qr
 refine AW.seq fun K1 hK1 => ?_
 refine AW.regionK 0 (fun _ => none) [2, 3] [2, 3] ?_
 simp only [go_sem, reduceIte, reduceCtorEq, zA, zM, zE, zL, zD, zS, zP, zB, zI, zR]
 repeat with_reducible refine cj ?_ ?_
 all_goals try first | omega
 refine hK1 _ _ _ ?_; clear hK1
 refine AW.seq fun K2 hK2 => ?_
 refine AW.regionK 0 (fun ii => if ii = 2 then some (.reads false (.tup [.agg (rowB (List.zipWith (fun x y => x && !y) a b)), .int .i64 ((0 : Nat) : Int)])) else none) [5, 6] [5] ?_
 simp only [go_sem, reduceIte, reduceCtorEq, zA, zM, zE, zL, zD, zS, zP, zB, zI, zR, rowB]
 repeat with_reducible refine cj ?_ ?_
 all_goals try first | (exact hm) | omega | exact ent (by kernel_rfl)
 refine hK2 _ _ _ ?_; clear hK2
 refine AW.seq fun K3 hK3 => ?_
 refine AW.regionK 0 (fun ii => if ii = 4 then some (.reads false (.int .i64 ((memB (List.zipWith (fun x y => x && !y) a b)).length : Nat))) else none) [4] [] ?_
 simp only [go_sem, reduceIte, reduceCtorEq, zA, zM, zE, zL, zD, zS, zP, zB, zI, zR]
 repeat with_reducible refine cj ?_ ?_
 all_goals try first | (first | exact hc | (intro hh; exact ⟨hh, hc⟩)) | (intros; (repeat' apply And.intro) <;> first | assumption | (first | exact hc | (intro hh; exact ⟨hh, hc⟩))) | omega | exact ent (by kernel_rfl) | (intro hgd; exact absurd hgd (by decide)) | rfl | (simp only [go_sem, reduceIte, reduceCtorEq, zA, zM, zE, zL, zD, zS, zP, zB, zI, zR]; done) | (intro _hgd; simp_all [go_sem]; done)
 refine hK3 _ _ _ ?_; clear hK3
 refine AW.ret ?_
 rw [← hQr]
 simp only [go_sem, reduceIte, reduceCtorEq, zA, zM, zE, zL, zD, zS, zP, zB, zI, zR]
 exact Wk.of_eq (by rw [← hs]; simp)
end Go.Proofs.W

namespace Go.Proofs.W
open Go.AM Go
set_option maxRecDepth 100000
set_option maxHeartbeats 2000000
theorem inside_r (N : Int) (W : List (List AV)) (i : Int) : Reads Tryd.prog 67 false [.agg [.int .i64 N, .rsl 1 W], .int .i64 i] (.bool (decide (0 ≤ i) && decide (i < N))) := by
 refine Reads.body (rs := [.tmp 4]) Tryd.func67 rfl Tryd.ntmps67 rfl (by simp) ?_
 generalize hQr : retQ _ _ _ = Qr
 refine AW.seq fun K1 hK1 => ?_
 refine AW.regionK 0 (fun _ => none) [1, 2] [2] ?_
 simp only [go_sem, reduceIte, reduceCtorEq, zA, zM, zE, zL, zD, zS, zP, zB, zI, zR]
 repeat with_reducible refine cj ?_ ?_
 all_goals try first | omega
 refine hK1 _ _ _ ?_; clear hK1
 refine AW.seq fun K2 hK2 => ?_
 refine AW.regionK 0 (fun _ => none) [4] [] ?_
 simp only [go_sem, reduceIte, reduceCtorEq, zA, zM, zE, zL, zD, zS, zP, zB, zI, zR]
 repeat with_reducible refine cj ?_ ?_
 all_goals try first | omega | (intros; (repeat' apply And.intro) <;> first | assumption | omega | decide) | (intro hgd; exact absurd hgd (by decide)) | rfl | (simp only [go_sem, reduceIte, reduceCtorEq, zA, zM, zE, zL, zD, zS, zP, zB, zI, zR]; done) | (intro _hgd; simp_all [go_sem]; done)
 refine hK2 _ _ _ ?_; clear hK2
 refine AW.ret ?_
 rw [← hQr]
 simp only [go_sem, reduceIte, reduceCtorEq, zA, zM, zE, zL, zD, zS, zP, zB, zI, zR]
 exact Wk.refl _
theorem bhas0_r (N : Int) (W : List Int) (i : Int) (hW : okW W) (h0 : 0 ≤ i) (h1 : i.tdiv 64 < W.length) (hl : W.length ≤ 9223372036854775807) : Reads Tryd.prog 68 false [.agg [.int .i64 N, .rsl 1 (words W)], .int .i64 i] (.bool (hasW W i)) := by
 have hd := ydv (i := i) (n := i + 1) h0 (by omega)
 have hgw := ybo (l := W) (i := (i.tdiv 64).toNat) (by omega)
 have hb := ypx hW h0
 refine Reads.body (rs := [.tmp 4]) Tryd.func68 rfl Tryd.ntmps68 rfl (by simp) ?_
 generalize hQr : retQ _ _ _ = Qr
 refine AW.seq fun K1 hK1 => ?_
 refine AW.regionK 0 (fun _ => none) [1, 2] [2] ?_
 simp only [go_sem, reduceIte, reduceCtorEq, zA, zM, zE, zL, zD, zS, zP, zB, zI, zR]
 repeat with_reducible refine cj ?_ ?_
 all_goals try first | omega
 refine hK1 _ _ _ ?_; clear hK1
 refine AW.seq fun K2 hK2 => ?_
 refine AW.regionK 0 (fun _ => none) [4] [] ?_
 simp only [go_sem, reduceIte, reduceCtorEq, zA, zM, zE, zL, zD, zS, zP, zB, zI, zR, hgw]
 repeat with_reducible refine cj ?_ ?_
 all_goals try first | omega
 refine hK2 _ _ _ ?_; clear hK2
 refine AW.ret ?_
 rw [← hQr]
 simp only [go_sem, reduceIte, reduceCtorEq, zA, zM, zE, zL, zD, zS, zP, zB, zI, zR]
 exact Wk.of_eq (by rw [hb])
theorem bhas_r (N : Int) (W : List Int) (i : Int) (hW : okW W) (hl : W.length ≤ 9223372036854775807) : Reads Tryd.prog 41 false [.agg [.int .i64 N, .rsl 1 (words W)], .int .i64 i] (.bool (memS N W i)) := by
 have hv := yd2 N W hl
 have hin := inside_r N (words W) i
 have hh0 := fun h0 h1 => bhas0_r N W i hW h0 h1 hl
 refine Reads.body (rs := [.tmp 4]) Tryd.func41 rfl Tryd.ntmps41 rfl (by simp) ?_
 generalize hQr : retQ _ _ _ = Qr
 refine AW.seq fun K1 hK1 => ?_
 refine AW.regionK 0 (fun _ => none) [1, 2] [2] ?_
 simp only [go_sem, reduceIte, reduceCtorEq, zA, zM, zE, zL, zD, zS, zP, zB, zI, zR]
 repeat with_reducible refine cj ?_ ?_
 all_goals try first | omega
 refine hK1 _ _ _ ?_; clear hK1
 refine AW.seq fun K2 hK2 => ?_
 refine AW.regionK 0 (fun ii => if ii = 1 then some (.reads false (.bool (validS N W))) else if ii = 5 then some (.reads false (.bool (decide (0 ≤ i) && decide (i < N)))) else if ii = 10 then some (.reads false (.bool (hasW W i))) else none) [4] [] ?_
 simp only [go_sem, reduceIte, reduceCtorEq, zA, zM, zE, zL, zD, zS, zP, zB, zI, zR]
 repeat with_reducible refine cj ?_ ?_
 all_goals try first | (first | exact hv | (intro hh; exact ⟨hh, hin⟩) | (intro hh; refine ⟨hh, ?_⟩; simp at hh; have hs := yfn hh.1; have hd := ydv (i := i) (n := N) (by omega) (by omega); exact hh0 (by omega) (by omega))) | (intros; (repeat' apply And.intro) <;> first | assumption | (first | exact hv | (intro hh; exact ⟨hh, hin⟩) | (intro hh; refine ⟨hh, ?_⟩; simp at hh; have hs := yfn hh.1; have hd := ydv (i := i) (n := N) (by omega) (by omega); exact hh0 (by omega) (by omega)))) | omega | exact ent (by kernel_rfl) | (intro hgd; exact absurd hgd (by decide)) | rfl | (simp only [go_sem, reduceIte, reduceCtorEq, zA, zM, zE, zL, zD, zS, zP, zB, zI, zR]; done) | (intro _hgd; simp_all [go_sem]; done)
 refine hK2 _ _ _ ?_; clear hK2
 refine AW.ret ?_
 rw [← hQr]
 simp only [go_sem, reduceIte, reduceCtorEq, zA, zM, zE, zL, zD, zS, zP, zB, zI, zR]
 exact Wk.of_eq (by simp [memS, Bool.and_assoc])
end Go.Proofs.W

namespace Go.Proofs.W
open Go.AM Go
set_option maxRecDepth 100000
set_option maxHeartbeats 2000000
end Go.Proofs.W

/- Levels of an order; tables filled pair by pair. -/
namespace Go.AM
structure IsLev (n : Nat) (t : List (List Bool)) (o : List Int) : Prop where
  len : o.length = n
  pos : ∀ j, j < n → 0 ≤ o.getD j 0
  up : ∀ i j, i < n → j < n → atT t i j = true → o.getD i 0 + 1 ≤ o.getD j 0
  att : ∀ j, j < n → o.getD j 0 = 0 ∨ ∃ i, i < n ∧ atT t i j = true ∧ o.getD j 0 = o.getD i 0 + 1
theorem yro {n : Nat} {t : List (List Bool)} {o o' : List Int} (h : IsLev n t o) (hp : ∀ j, j < n → 0 ≤ o'.getD j 0) (hu : ∀ i j, i < n → j < n → atT t i j = true → o'.getD i 0 + 1 ≤ o'.getD j 0) :
    ∀ (m : Nat) (j : Nat), j < n → o.getD j 0 ≤ m → o.getD j 0 ≤ o'.getD j 0
  | 0, j, hj, hm => by have := hp j hj; omega
  | m + 1, j, hj, hm => by
    rcases h.att j hj with h0 | ⟨i, hi, ha, he⟩
    · have := hp j hj; omega
    · have := yro h hp hu m i hi (by omega)
      have := hu i j hi hj ha
      omega
theorem yn5 {n : Nat} {t : List (List Bool)} {o : List Int} (h : IsLev n t o) : ∀ (m : Nat) (j : Nat), j < n → o.getD j 0 = m → ∀ v : Nat, v ≤ m → ∃ i, i < n ∧ o.getD i 0 = v
  | 0, j, hj, hm, v, hv => ⟨j, hj, by omega⟩
  | m + 1, j, hj, hm, v, hv => by
    by_cases e : v = m + 1
    · exact ⟨j, hj, by rw [hm, e]⟩
    · rcases h.att j hj with h0 | ⟨i, hi, ha, he⟩
      · omega
      · exact yn5 h m i hi (by omega) v (by omega)
theorem yp5 {n : Nat} {t : List (List Bool)} {o : List Int} (h : IsLev n t o) {j : Nat} (hj : j < n) : o.getD j 0 < n := by
  have hp := h.pos j hj
  have hs := yov ((o.getD j 0).toNat + 1) ((List.range n).map fun i => (o.getD i 0).toNat) (fun v hv => by
    obtain ⟨i, hi, he⟩ := yn5 h (o.getD j 0).toNat j hj (by omega) v (by omega)
    exact List.mem_map.2 ⟨i, List.mem_range.2 hi, by rw [he]; rfl⟩)
  rw [List.length_map, List.length_range] at hs
  omega
/-! ### The program: along an order. -/
def levJ (i : Nat) (o : List Int) (j : Nat) : List Int := o.set j (max (o.getD j 0) (o.getD i 0 + 1))
def levS (t : List (List Bool)) (o : List Int) (i : Nat) : List Int := (memB (rowT t i)).foldl (levJ i) o
def levO (n : Nat) (t : List (List Bool)) : List Int := (ordO n t n []).foldl (levS t) (List.replicate n 0)
theorem yp6 (i : Nat) (l : List Nat) : ∀ o : List Int, (l.foldl (levJ i) o).length = o.length := by
  induction l with
  | nil => intro o; rfl
  | cons a l ih => intro o; rw [List.foldl_cons, ih]; simp [levJ]
theorem ymf (i : Nat) : ∀ (l : List Nat) (o : List Int), l.Nodup → (∀ j ∈ l, j < o.length ∧ j ≠ i) → ∀ k, (l.foldl (levJ i) o).getD k 0 = if k ∈ l then max (o.getD k 0) (o.getD i 0 + 1) else o.getD k 0
  | [], o, _, _, k => by simp
  | a :: l, o, hn, hl, k => by
    have ha := hl a (List.mem_cons_self ..)
    have hn2 := List.nodup_cons.1 hn
    rw [List.foldl_cons, ymf i l _ hn2.2 (fun j hj => by have := hl j (List.mem_cons_of_mem _ hj); simpa [levJ] using this) k]
    have hi : (levJ i o a).getD i 0 = o.getD i 0 := Go.AM.getD_set_ne ha.2 ..
    rw [hi]
    by_cases e : a = k
    · subst e
      rw [if_neg hn2.1, if_pos (List.mem_cons_self ..)]
      exact Go.AM.getD_set_eq ha.1 _ _
    · have : (levJ i o a).getD k 0 = o.getD k 0 := Go.AM.getD_set_ne e ..
      rw [this]
      have e2 : (k ∈ a :: l) = (k ∈ l) := by
        apply propext; rw [List.mem_cons]; exact ⟨fun h => h.resolve_left (fun h => e h.symm), .inr⟩
      simp only [e2]
theorem memB_nodup (b : List Bool) : (memB b).Nodup := List.Pairwise.sublist List.filter_sublist List.nodup_range
theorem levS_len (t : List (List Bool)) (o : List Int) (i : Nat) : (levS t o i).length = o.length := yp6 i _ o
theorem levS_get {n : Nat} {t : List (List Bool)} (hs : Sq n t) (hp : IsPo n t) {o : List Int} (ho : o.length = n) {i : Nat} (hi : i < n) {k : Nat} (hk : k < n) : (levS t o i).getD k 0 = if atT t i k = true then max (o.getD k 0) (o.getD i 0 + 1) else o.getD k 0 := by
  unfold levS
  rw [ymf i _ _ (memB_nodup _) (fun j hj => by
    have := memB_mem.1 hj
    rw [hs.rowLen hi] at this
    refine ⟨by omega, fun e => ?_⟩
    subst e
    have h2 := hp.irr _ hi
    unfold atT at h2
    rw [h2] at this
    exact absurd this.2 (by simp)) k]
  have e : (k ∈ memB (rowT t i)) = (atT t i k = true) := by
    apply propext; rw [memB_mem, hs.rowLen hi]; exact ⟨fun h => h.2, fun h => ⟨hk, h⟩⟩
  simp only [e]
structure LevI (n : Nat) (t : List (List Bool)) (pre : List Nat) (o : List Int) : Prop where
  len : o.length = n
  pos : ∀ j, j < n → 0 ≤ o.getD j 0
  up : ∀ i j, i ∈ pre → j < n → atT t i j = true → o.getD i 0 + 1 ≤ o.getD j 0
  att : ∀ j, j < n → o.getD j 0 = 0 ∨ ∃ i, i ∈ pre ∧ atT t i j = true ∧ o.getD j 0 = o.getD i 0 + 1
  bnd : ∀ j, j < n → o.getD j 0 ≤ pre.length
theorem LevI.nil (n : Nat) (t : List (List Bool)) : LevI n t [] (List.replicate n 0) := by
  have e : ∀ j, (List.replicate n (0 : Int)).getD j 0 = 0 := fun j => by rw [List.getD_eq_getElem?_getD, List.getElem?_replicate]; split <;> rfl
  exact ⟨by simp, fun j _ => by rw [e]; exact Int.le_refl _, (fun i j h => absurd h List.not_mem_nil), fun j _ => Or.inl (e j), fun j _ => by rw [e]; simp⟩
theorem yp7 {l : List Nat} (h : l.Nodup) {p q : Nat} (hp : p < l.length) (hq : q < l.length) (e : l[p] = l[q]) : p = q := (List.getElem_inj h).1 e
/-- What stands before: the elements of a list that is closed downwards. -/
theorem LevI.snoc {n : Nat} {t : List (List Bool)} (hs : Sq n t) (hp : IsPo n t) {pre : List Nat} {o : List Int} (h : LevI n t pre o) {i : Nat} (hi : i < n) (hin : i ∉ pre) (hpr : ∀ k ∈ pre, k < n) (hcl : ∀ k, k ∈ pre → atT t i k = false) : LevI n t (pre ++ [i]) (levS t o i) := by
  have hg := fun k hk => levS_get (k := k) hs hp h.len hi hk
  have hgi : (levS t o i).getD i 0 = o.getD i 0 := by rw [hg i hi, hp.irr i hi]; simp
  have hgp : ∀ k, k ∈ pre → (levS t o i).getD k 0 = o.getD k 0 := fun k hk => by rw [hg k (hpr k hk), hcl k hk]; simp
  have hge : ∀ k, k < n → o.getD k 0 ≤ (levS t o i).getD k 0 := fun k hk => by rw [hg k hk]; split <;> omega
  refine ⟨by rw [levS_len, h.len], fun j hj => Int.le_trans (h.pos j hj) (hge j hj), fun k j hk hj ha => ?_, fun j hj => ?_, fun j hj => ?_⟩
  · rcases List.mem_append.1 hk with hk | hk
    · rw [hgp k hk]
      exact Int.le_trans (h.up k j hk hj ha) (hge j hj)
    · obtain rfl := List.mem_singleton.1 hk
      rw [hgi, hg j hj, if_pos ha]
      omega
  · rw [hg j hj]
    have hold : o.getD j 0 = 0 ∨ ∃ k, k ∈ pre ++ [i] ∧ atT t k j = true ∧ o.getD j 0 = (levS t o i).getD k 0 + 1 := by
      rcases h.att j hj with h0 | ⟨k, hk, ha, he⟩
      · exact .inl h0
      · exact .inr ⟨k, List.mem_append_left _ hk, ha, by rw [hgp k hk]; exact he⟩
    split
    · rename_i ha
      by_cases hm : o.getD i 0 + 1 ≤ o.getD j 0
      · rw [Int.max_eq_left hm]; exact hold
      · rw [Int.max_eq_right (by omega)]
        exact .inr ⟨i, List.mem_append_right _ (List.mem_singleton.2 rfl), ha, by rw [hgi]⟩
    · exact hold
  · rw [hg j hj, List.length_append]
    have h1 := h.bnd j hj
    have h2 := h.bnd i hi
    simp only [List.length_singleton, Int.natCast_add, Int.natCast_one]
    split <;> omega
theorem LevI.all {n : Nat} {t : List (List Bool)} (hs : Sq n t) (hp : IsPo n t) {l : List Nat} (ho : OrdI n t l) : ∀ k, k ≤ l.length → LevI n t (l.take k) ((l.take k).foldl (levS t) (List.replicate n 0))
  | 0, _ => by simpa using LevI.nil n t
  | k + 1, hk => by
    have ih := LevI.all hs hp ho k (by omega)
    have e : l.take (k + 1) = l.take k ++ [l[k]] := by rw [List.take_succ_eq_append_getElem (by omega)]
    rw [e, List.foldl_append]
    have hm : l[k] ∈ l := List.getElem_mem ..
    have hin : ∀ x ∈ l, x < n := ho.rng
    refine LevI.snoc hs hp ih (hin _ hm) ?_ (fun x hx => hin x (List.mem_of_mem_take hx)) fun x hx => ?_
    · intro hx
      obtain ⟨q, hq, hqe⟩ := List.mem_iff_getElem.1 hx
      have hql : q < k := by simp at hq; omega
      rw [List.getElem_take] at hqe
      exact absurd (yp7 ho.nd (by omega) (by omega) hqe) (by omega)
    · cases ea : atT t l[k] x
      · rfl
      · exfalso
        obtain ⟨q, hq, hqe⟩ := List.mem_iff_getElem.1 hx
        have hql : q < k := by simp at hq; omega
        rw [List.getElem_take] at hqe
        obtain ⟨p, hp1, hp2⟩ := ho.top q x l[k] (by rw [List.getElem?_eq_getElem (by omega), hqe]) (hin _ hm) ea
        rw [List.getElem?_eq_getElem (by omega)] at hp2
        exact absurd (yp7 ho.nd (by omega) (by omega) (Option.some.inj hp2)) (by omega)
theorem ymg {n : Nat} {t : List (List Bool)} (hs : Sq n t) (hp : IsPo n t) : IsLev n t (levO n t) := by
  obtain ⟨ho, hl⟩ := yow hs (hp.acyc hs) n [] (OrdI.nil n t) (by simp)
  have h := LevI.all hs hp ho n (by omega)
  rw [List.take_of_length_le (by omega)] at h
  refine ⟨h.len, h.pos, fun i j hi hj ha => ?_, fun j hj => ?_⟩
  · refine h.up i j ?_ hj ha
    apply Classical.byContradiction
    intro hn
    have := yn1 n (i :: ordO n t n []) (List.nodup_cons.2 ⟨hn, ho.nd⟩) (fun x hx => by rcases List.mem_cons.1 hx with rfl | hx; exact hi; exact ho.rng x hx)
    simp at this; omega
  · rcases h.att j hj with h0 | ⟨i, hi, ha, he⟩
    · exact .inl h0
    · exact .inr ⟨i, ho.rng i hi, ha, he⟩
/-! ### The reference: rounds. -/
def relJ (t : List (List Bool)) (i j : Nat) (o : List Int) : List Int := if atT t i j = true ∧ o.getD j 0 ≤ o.getD i 0 then o.set j (o.getD i 0 + 1) else o
structure RndI (n : Nat) (t : List (List Bool)) (L : List Int) (r : Nat) (vis : Nat → Nat → Prop) (c : Bool) (o : List Int) : Prop where
  len : o.length = n
  pos : ∀ j, j < n → 0 ≤ o.getD j 0
  le : ∀ j, j < n → o.getD j 0 ≤ L.getD j 0
  low : ∀ j, j < n → min (L.getD j 0) r ≤ o.getD j 0
  nxt : ∀ i j, i < n → j < n → vis i j → atT t i j = true → min (L.getD i 0) r + 1 ≤ o.getD j 0
  same : c = false → ∀ i j, i < n → j < n → vis i j → atT t i j = true → o.getD i 0 < o.getD j 0
theorem RndI.start {n : Nat} {t : List (List Bool)} {L : List Int} (hL : IsLev n t L) : RndI n t L 0 (fun _ _ => False) false (List.replicate n 0) := by
  have e : ∀ j, (List.replicate n (0 : Int)).getD j 0 = 0 := fun j => by rw [List.getD_eq_getElem?_getD, List.getElem?_replicate]; split <;> rfl
  refine ⟨by simp, fun j _ => by rw [e]; exact Int.le_refl _, fun j hj => by rw [e]; exact hL.pos j hj, fun j hj => ?_, fun _ _ _ _ h => h.elim, fun _ _ _ _ _ h => h.elim⟩
  rw [e]; have := hL.pos j hj; omega
theorem RndI.step {n : Nat} {t : List (List Bool)} {L : List Int} (hL : IsLev n t L) (hp : IsPo n t) {r : Nat} {vis vis' : Nat → Nat → Prop} {c : Bool} {o : List Int} (h : RndI n t L r vis c o) {i j : Nat} (hi : i < n) (hj : j < n)
    (hv : ∀ a b, vis' a b → vis a b ∨ (a = i ∧ b = j)) :
    RndI n t L r vis' (c || (atT t i j && decide (o.getD j 0 ≤ o.getD i 0))) (relJ t i j o) := by
  unfold relJ
  by_cases hc : atT t i j = true ∧ o.getD j 0 ≤ o.getD i 0
  · have hne : i ≠ j := fun e => by subst e; have := hp.irr _ hi; rw [this] at hc; exact absurd hc.1 (by simp)
    rw [if_pos hc]
    have hg : ∀ k, (o.set j (o.getD i 0 + 1)).getD k 0 = if k = j then o.getD i 0 + 1 else o.getD k 0 := fun k => by
      by_cases e : k = j
      · subst e; rw [if_pos rfl]; exact Go.AM.getD_set_eq (by rw [h.len]; exact hj) _ _
      · rw [if_neg e]; exact Go.AM.getD_set_ne (fun q => e q.symm) ..
    have hge : ∀ k, k < n → o.getD k 0 ≤ (o.set j (o.getD i 0 + 1)).getD k 0 := fun k _ => by rw [hg]; split; (rename_i e; subst e; omega); exact Int.le_refl _
    refine ⟨by simp [h.len], fun k hk => Int.le_trans (h.pos k hk) (hge k hk), fun k hk => ?_, fun k hk => Int.le_trans (h.low k hk) (hge k hk), fun a b ha hb hab hat => ?_, fun hf => ?_⟩
    · rw [hg]
      split
      · rename_i e; subst e
        have := h.le i hi
        have := hL.up i _ hi hj hc.1
        omega
      · exact h.le k hk
    · rcases hv a b hab with h1 | ⟨rfl, rfl⟩
      · exact Int.le_trans (h.nxt a b ha hb h1 hat) (hge b hb)
      · rw [hg, if_pos rfl]
        have := h.low a ha
        omega
    · exfalso; rw [hc.1, decide_eq_true hc.2] at hf; simp at hf
  · rw [if_neg hc]
    refine ⟨h.len, h.pos, h.le, h.low, fun a b ha hb hab hat => ?_, fun hf a b ha hb hab hat => ?_⟩
    · rcases hv a b hab with h1 | ⟨rfl, rfl⟩
      · exact h.nxt a b ha hb h1 hat
      · have := h.low a ha
        have : ¬ o.getD b 0 ≤ o.getD a 0 := fun q => hc ⟨hat, q⟩
        omega
    · rcases hv a b hab with h1 | ⟨rfl, rfl⟩
      · exact h.same (by rw [Bool.or_eq_false_iff] at hf; exact hf.1) a b ha hb h1 hat
      · have : ¬ o.getD b 0 ≤ o.getD a 0 := fun q => hc ⟨hat, q⟩
        omega
theorem RndI.next {n : Nat} {t : List (List Bool)} {L : List Int} (hL : IsLev n t L) {r : Nat} {vis vis' : Nat → Nat → Prop} {c : Bool} {o : List Int} (h : RndI n t L r vis c o) (hv : ∀ i j, i < n → j < n → vis i j) (hv' : ∀ i j, ¬ vis' i j) : RndI n t L (r + 1) vis' false o := by
  refine ⟨h.len, h.pos, h.le, fun j hj => ?_, fun i j _ _ hh => (hv' i j hh).elim, fun _ i j _ _ hh => (hv' i j hh).elim⟩
  rcases hL.att j hj with h0 | ⟨i, hi, ha, he⟩
  · have := h.pos j hj; omega
  · have := h.nxt i j hi hj (hv i j hi hj) ha; omega
theorem RndI.stop {n : Nat} {t : List (List Bool)} {L : List Int} (hL : IsLev n t L) {r : Nat} {vis : Nat → Nat → Prop} {o : List Int} (h : RndI n t L r vis false o) (hv : ∀ i j, i < n → j < n → vis i j) : o = L := by
  refine yd0 (by rw [h.len, hL.len]) fun k hk => ?_
  rw [h.len] at hk
  have h1 := yro hL h.pos (fun i j hi hj ha => by have := h.same rfl i j hi hj (hv i j hi hj) ha; omega) (L.getD k 0).toNat k hk (by have := hL.pos k hk; omega)
  have h2 := h.le k hk
  omega
theorem RndI.last {n : Nat} {t : List (List Bool)} {L : List Int} (hL : IsLev n t L) {vis : Nat → Nat → Prop} {c : Bool} {o : List Int} (h : RndI n t L n vis c o) : o = L := by
  refine yd0 (by rw [h.len, hL.len]) fun k hk => ?_
  rw [h.len] at hk
  have h1 := h.low k hk
  have h2 := h.le k hk
  have h3 := yp5 hL hk
  omega
/-! ### Tables filled pair by pair. -/
def tabF (n : Nat) (f : Nat → Nat → Bool) : List (List Bool) := (List.range n).map fun i => setR n (f i)
theorem rowT_tabF {n : Nat} {f : Nat → Nat → Bool} {i : Nat} (hi : i < n) : rowT (tabF n f) i = setR n (f i) := yl1 (by simp [tabF, hi])
theorem atT_tabF {n : Nat} {f : Nat → Nat → Bool} {i j : Nat} (hi : i < n) (hj : j < n) : atT (tabF n f) i j = f i j := by unfold atT; rw [rowT_tabF hi, yp4 hj]
end Go.AM

namespace Go.Proofs.W
open Go.AM Go
set_option maxRecDepth 100000
set_option maxHeartbeats 2000000
def pvJ (t : List (List Bool)) (i j : Nat) : Bool := !decide (j = i) && subB (rowT t j) (rowT t i)
theorem yf3 (n : Nat) (t : List (List Bool)) (hs : Sq n t) (hn : n ≤ 512) : Reads Tryd.prog 46 false [relB t] (.bool (poB n t)) := by
 have h := yl8 n t hs hn
 have hlt : (tabR t).length = n := by rw [ybt, hs.len]
 have hgr := fun i hi => yeu (t := t) (i := i) hi
 have hmb := fun b hb => yhq b hb
 have hsb := fun a b ha hl => subset_r a b ha hl
 have hpo : poB n t = (List.range n).all fun i => (memB (rowT t i)).all (pvJ t i) := rfl
 have hlen := hs.len
 unfold relB rowB at *
 refine Reads.body (rs := [.tmp 2]) Tryd.func46 rfl Tryd.ntmps46 rfl (by simp) ?_
 generalize hQr : retQ _ _ _ = Qr
 refine AW.seq fun K1 hK1 => ?_
 refine AW.regionK 0 (fun _ => none) [1] [1] ?_
 simp only [go_sem, reduceIte, reduceCtorEq, zA, zM, zE, zL, zD, zS, zP, zB, zI, zR, hlt]
 repeat with_reducible refine cj ?_ ?_
 all_goals try first | omega
 refine hK1 _ _ _ ?_; clear hK1
 refine AW.seq fun K2 hK2 => ?_
 refine AW.seq fun K3 hK3 => ?_
 refine AW.regionK 0 (fun ii => if ii = 1 then some (.reads false (.bool true)) else none) [1, 11] [1] ?_
 simp only [go_sem, reduceIte, reduceCtorEq, zA, zM, zE, zL, zD, zS, zP, zB, zI, zR, hlt]
 repeat with_reducible refine cj ?_ ?_
 all_goals try first | (exact h) | omega | exact ent (by kernel_rfl)
 refine hK3 _ _ _ ?_; clear hK3
 refine AW.cond rfl (by simp only [go_sem, reduceIte, reduceCtorEq, zA, zM, zE, zL, zD, zS, zP, zB, zI, zR]) ?_ ?_
 ·intro hb
  try simp only [hB, decide_eq_true_eq, decide_eq_false_iff_not] at hb
  simp at hb
 ·intro hb
  try simp only [hB, decide_eq_true_eq, decide_eq_false_iff_not] at hb
  refine AW.skip ?_
  refine hK2 _ _ _ ?_; clear hK2
  refine AW.seq fun K4 hK4 => ?_
  refine AW.seq fun K5 hK5 => ?_
  refine AW.regionK 0 (fun _ => none) [1, 13, 14, 15] [1] ?_
  simp only [go_sem, reduceIte, reduceCtorEq, zA, zM, zE, zL, zD, zS, zP, zB, zI, zR, hlt]
  repeat with_reducible refine cj ?_ ?_
  all_goals try first | omega
  refine hK5 _ _ _ ?_; clear hK5
  refine AW.block ?_
  refine AW.loopE (fun mm ee ss kk => ∃ (i g1 v1 : Nat), n - i = mm ∧ ee = [(1, .ptr ⟨1, g1, none⟩ 0 0), (13, .rsl 2 (tabR t)), (14, .int .i64 n), (15, .int .i64 (i : Nat))] ∧ ss = [(1, some ⟨g1, v1, 1, [[.rsl 2 (tabR t)]]⟩)] ∧ (i ≤ n ∧ ((List.range i).all fun i => (memB (rowT t i)).all (pvJ t i)) = true)) ?_ ?_
  ·refine ⟨_, 0, ?_, ?_, rfl, ?henv, ?hstore, ?hst⟩
   case henv =>
    repeat' (first | rfl | refine yaa ?_ ?_ | refine yad ?_ ?_ ?_ ?_ | refine yah ?_ | refine yae ?_ | refine yai ?_ | refine yaj ?_ | refine yan ?_ ?_ ?_ | refine yak ?_ ?_ ?_ | refine yal ?_ | refine yaf ?_ ?_ | refine yab ?_ ?_)
    all_goals (first | (simp; done) | omega | (simp; omega))
   case hstore =>
    repeat' (first | rfl | refine yaa ?_ ?_ | refine yad ?_ ?_ ?_ ?_ | refine yah ?_ | refine yae ?_ | refine yai ?_ | refine yaj ?_ | refine yan ?_ ?_ ?_ | refine yak ?_ ?_ ?_ | refine yal ?_ | refine yaf ?_ ?_ | refine yab ?_ ?_)
    all_goals (first | (simp; done) | omega | (simp; omega))
   case hst =>
    exact ⟨Nat.zero_le _, rfl⟩
  rintro mm ee ss kk ⟨i, g1, v1, rfl, rfl, rfl, hI⟩
  generalize hQl1 : ybd _ _ = Ql1
  obtain ⟨hi, hall⟩ := hI
  refine AW.seq fun K6 hK6 => ?_
  refine AW.regionK 0 (fun _ => none) [1, 13, 14, 15, 16] [1] ?_
  simp only [go_sem, reduceIte, reduceCtorEq, zA, zM, zE, zL, zD, zS, zP, zB, zI, zR, hlt]
  repeat with_reducible refine cj ?_ ?_
  all_goals try first | omega
  refine hK6 _ _ _ ?_; clear hK6
  refine AW.seq fun K7 hK7 => ?_
  refine AW.cond rfl (by simp only [go_sem, reduceIte, reduceCtorEq, zA, zM, zE, zL, zD, zS, zP, zB, zI, zR]) ?_ ?_
  ·intro hb
   try simp only [hB, decide_eq_true_eq, decide_eq_false_iff_not] at hb
   have hgi := hgr i (by omega)
   have hri := hs.rowLen (i := i) (by omega)
   have hmi := hmb (rowT t i) (by omega)
   have hsi := fun j (hj : j < n) => hsb (rowT t j) (rowT t i) (by rw [hs.rowLen hj]; exact hn) (by rw [hs.rowLen hj, hri])
   have hmm : ∀ j, j ∈ memB (rowT t i) → j < n := fun j hj => by have := (memB_mem.1 hj).1; omega
   have hml := yme (rowT t i)
   have hrs := ygh (p := fun i => (memB (rowT t i)).all (pvJ t i)) i
   rw [hall, Bool.true_and] at hrs
   have hrf := yfo (p := fun i => (memB (rowT t i)).all (pvJ t i)) (j := i) (m := n) (by omega)
   generalize hM : memB (rowT t i) = M at *
   refine AW.skip ?_
   refine hK7 _ _ _ ?_; clear hK7
   refine AW.seq fun K8 hK8 => ?_
   refine AW.block ?_
   refine AW.seq fun K9 hK9 => ?_
   refine AW.regionK 0 (fun _ => none) [1, 3, 4, 13, 14, 15] [1, 4] ?_
   simp only [go_sem, reduceIte, reduceCtorEq, zA, zM, zE, zL, zD, zS, zP, zB, zI, zR, hlt, hgi]
   repeat with_reducible refine cj ?_ ?_
   all_goals try first | omega
   refine hK9 _ _ _ ?_; clear hK9
   refine AW.seq fun K10 hK10 => ?_
   refine AW.regionK 0 (fun ii => if ii = 1 then some (.reads false (.tup [.rsl 1 (ints (nats M)), .int .i64 ((0 : Nat) : Int)])) else none) [1, 3, 4, 5, 13, 14, 15] [1, 4] ?_
   simp only [go_sem, reduceIte, reduceCtorEq, zA, zM, zE, zL, zD, zS, zP, zB, zI, zR, hlt]
   repeat with_reducible refine cj ?_ ?_
   all_goals try first | (exact hmi) | omega | exact ent (by kernel_rfl)
   refine hK10 _ _ _ ?_; clear hK10
   refine AW.seq fun K11 hK11 => ?_
   refine AW.regionK 0 (fun _ => none) [1, 3, 4, 13, 14, 15, 25, 26, 27] [1, 4] ?_
   simp only [go_sem, reduceIte, reduceCtorEq, zA, zM, zE, zL, zD, zS, zP, zB, zI, zR, hlt, yac, yb3]
   repeat with_reducible refine cj ?_ ?_
   all_goals try first | omega
   refine hK11 _ _ _ ?_; clear hK11
   refine AW.block ?_
   refine AW.loopE (fun mm ee ss kk => ∃ (j g1 v1 g4 v4 : Nat), M.length - j = mm ∧ ee = [(1, .ptr ⟨1, g1, none⟩ 0 0), (3, .int .i64 (i : Nat)), (4, .ptr ⟨4, g4, none⟩ 0 0), (13, .rsl 2 (tabR t)), (14, .int .i64 n), (15, .int .i64 (i : Nat)), (25, .rsl 1 (ints (nats M))), (26, .int .i64 M.length), (27, .int .i64 (j : Nat))] ∧ ss = [(1, some ⟨g1, v1, 1, [[.rsl 2 (tabR t)]]⟩), (4, some ⟨g4, v4, 2, [[.int .i64 (rowT t i).length, .rsl 1 (words (setW (rowT t i) (rowT t i).length))]]⟩)] ∧ (j ≤ M.length ∧ (M.take j).all (pvJ t i) = true)) ?_ ?_
   ·refine ⟨_, 0, ?_, ?_, ?_, ?_, rfl, ?henv, ?hstore, ?hst⟩
    case henv =>
     repeat' (first | rfl | refine yaa ?_ ?_ | refine yad ?_ ?_ ?_ ?_ | refine yah ?_ | refine yae ?_ | refine yai ?_ | refine yaj ?_ | refine yan ?_ ?_ ?_ | refine yak ?_ ?_ ?_ | refine yal ?_ | refine yaf ?_ ?_ | refine yab ?_ ?_)
     all_goals (first | (simp; done) | omega | (simp; omega))
    case hstore =>
     repeat' (first | rfl | refine yaa ?_ ?_ | refine yad ?_ ?_ ?_ ?_ | refine yah ?_ | refine yae ?_ | refine yai ?_ | refine yaj ?_ | refine yan ?_ ?_ ?_ | refine yak ?_ ?_ ?_ | refine yal ?_ | refine yaf ?_ ?_ | refine yab ?_ ?_)
     all_goals (first | (simp; done) | omega | (simp; omega))
    case hst =>
     exact ⟨Nat.zero_le _, rfl⟩
   rintro mm ee ss kk ⟨j, g1, v1, g4, v4, rfl, rfl, rfl, hI⟩
   generalize hQl2 : ybd _ _ = Ql2
   obtain ⟨hj, hallj⟩ := hI
   refine AW.seq fun K12 hK12 => ?_
   refine AW.regionK 0 (fun _ => none) [1, 3, 4, 13, 14, 15, 25, 26, 27, 28] [1, 4] ?_
   simp only [go_sem, reduceIte, reduceCtorEq, zA, zM, zE, zL, zD, zS, zP, zB, zI, zR, hlt]
   repeat with_reducible refine cj ?_ ?_
   all_goals try first | omega
   refine hK12 _ _ _ ?_; clear hK12
   refine AW.seq fun K13 hK13 => ?_
   refine AW.cond rfl (by simp only [go_sem, reduceIte, reduceCtorEq, zA, zM, zE, zL, zD, zS, zP, zB, zI, zR]) ?_ ?_
   ·intro hb
    try simp only [hB, decide_eq_true_eq, decide_eq_false_iff_not] at hb
    obtain ⟨q, hq⟩ := getI (l := M) (j := j) (by omega)
    have hgq : (ints (nats M)).getD j [] = [.int .i64 (q : Nat)] := yer (by simp [nats, hq])
    have hqn := hmm q (List.mem_of_getElem? hq)
    have hgt := hgr q (by omega)
    have hsq := hsi q hqn
    have hats := yeq (p := pvJ t i) hq
    have haf := yiy (p := pvJ t i) hq
    have hqi : decide ((q : Int) = (i : Int)) = decide (q = i) := decide_eq_decide.2 (by omega)
    have hpv : pvJ t i q = (!decide (q = i) && subB (rowT t q) (rowT t i)) := rfl
    refine AW.skip ?_
    refine hK13 _ _ _ ?_; clear hK13
    refine AW.seq fun K14 hK14 => ?_
    refine AW.block ?_
    refine AW.seq fun K15 hK15 => ?_
    refine AW.regionK 0 (fun _ => none) [1, 3, 4, 8, 13, 14, 15, 25, 26, 27] [1, 4] ?_
    simp only [go_sem, reduceIte, reduceCtorEq, zA, zM, zE, zL, zD, zS, zP, zB, zI, zR, hlt, hgq, yac, yb3]
    repeat with_reducible refine cj ?_ ?_
    all_goals try first | omega
    refine hK15 _ _ _ ?_; clear hK15
    refine AW.seq fun K16 hK16 => ?_
    refine AW.regionD yd6 0 (fun ii => if ii = 10 then some (.reads false (.bool (subB (rowT t q) (rowT t i)))) else none) [1, 3, 4, 13, 14, 15, 25, 26, 27, 43] [1, 4] ?_
    simp only [go_sem, reduceIte, reduceCtorEq, zA, zM, zE, zL, zD, zS, zP, zB, zI, zR, hlt, hgt, hqi]
    repeat with_reducible refine cj ?_ ?_
    all_goals try first | (first | exact hsq | (intro hh; exact hsq)) | (intros; (repeat' apply And.intro) <;> first | assumption | (first | exact hsq | (intro hh; exact hsq))) | omega | exact chk (by kernel_rfl) | exact ent (by kernel_rfl) | (intro hgd; exact absurd hgd (by decide)) | rfl | (simp only [go_sem, reduceIte, reduceCtorEq, zA, zM, zE, zL, zD, zS, zP, zB, zI, zR, hlt, hgt, hqi]; done) | (intro _hgd; simp_all [go_sem]; done)
    refine hK16 _ _ _ ?_; clear hK16
    refine AW.cond rfl (by simp only [go_sem, reduceIte, reduceCtorEq, zA, zM, zE, zL, zD, zS, zP, zB, zI, zR]) ?_ ?_
    ·intro hb
     try simp only [hB, decide_eq_true_eq, decide_eq_false_iff_not] at hb
     refine AW.seq fun K17 hK17 => ?_
     refine AW.regionK 0 (fun _ => none) [2] [] ?_
     simp only [go_sem, reduceIte, reduceCtorEq, zA, zM, zE, zL, zD, zS, zP, zB, zI, zR, hlt]
     repeat with_reducible refine cj ?_ ?_
     all_goals try first | omega
     refine hK17 _ _ _ ?_; clear hK17
     refine AW.ret ?_
     rw [← hQl2]
     rw [← hQl1]
     rw [← hQr]
     simp only [go_sem, reduceIte, reduceCtorEq, zA, zM, zE, zL, zD, zS, zP, zB, zI, zR, hlt]
     refine Wk.of_eq ?_
     rw [hpo, hrf (haf (by rw [hpv]; revert hb; by_cases e : q = i <;> cases subB (rowT t q) (rowT t i) <;> simp [e]))]
    ·intro hb
     try simp only [hB, decide_eq_true_eq, decide_eq_false_iff_not] at hb
     refine AW.skip ?_
     refine hK14 _ _ _ ?_; clear hK14
     refine AW.regionK 0 (fun _ => none) [1, 3, 4, 13, 14, 15, 25, 26, 27] [1, 4] ?_
     simp only [go_sem, reduceIte, reduceCtorEq, zA, zM, zE, zL, zD, zS, zP, zB, zI, zR, hlt]
     repeat with_reducible refine cj ?_ ?_
     all_goals try first | omega
     rw [← hQl2]
     change Exists _
     refine ⟨_, ?hm, j + 1, ?_, ?_, ?_, ?_, rfl, ?henv, ?hstore, ?hst⟩
     case henv =>
      repeat' (first | rfl | refine yaa ?_ ?_ | refine yad ?_ ?_ ?_ ?_ | refine yah ?_ | refine yae ?_ | refine yai ?_ | refine yaj ?_ | refine yan ?_ ?_ ?_ | refine yak ?_ ?_ ?_ | refine yal ?_ | refine yaf ?_ ?_ | refine yab ?_ ?_)
      all_goals (first | (simp; done) | omega | (simp; omega))
     case hstore =>
      repeat' (first | rfl | refine yaa ?_ ?_ | refine yad ?_ ?_ ?_ ?_ | refine yah ?_ | refine yae ?_ | refine yai ?_ | refine yaj ?_ | refine yan ?_ ?_ ?_ | refine yak ?_ ?_ ?_ | refine yal ?_ | refine yaf ?_ ?_ | refine yab ?_ ?_)
      all_goals (first | (simp; done) | omega | (simp; omega))
     case hst =>
      refine ⟨by omega, ?_⟩
      rw [hats, hallj, hpv]; revert hb; by_cases e : q = i <;> cases subB (rowT t q) (rowT t i) <;> simp [e]
     case hm => omega
   ·intro hb
    try simp only [hB, decide_eq_true_eq, decide_eq_false_iff_not] at hb
    have hj2 : j = M.length := by omega
    subst hj2
    rw [List.take_of_length_le (Nat.le_refl _)] at hallj
    refine AW.keep [1, 13, 14, 15] [1] ?_
    try simp only [go_sem, reduceIte, reduceCtorEq, zA, zM, zE, zL, zD, zS, zP, zB, zI, zR]
    refine AW.exit ?_
    rw [← hQl2]
    refine hK8 _ _ _ ?_; clear hK8
    refine AW.regionK 0 (fun _ => none) [1, 13, 14, 15] [1] ?_
    simp only [go_sem, reduceIte, reduceCtorEq, zA, zM, zE, zL, zD, zS, zP, zB, zI, zR, hlt]
    repeat with_reducible refine cj ?_ ?_
    all_goals try first | omega
    rw [← hQl1]
    change Exists _
    refine ⟨_, ?hm, i + 1, ?_, ?_, rfl, ?henv, ?hstore, ?hst⟩
    case henv =>
     repeat' (first | rfl | refine yaa ?_ ?_ | refine yad ?_ ?_ ?_ ?_ | refine yah ?_ | refine yae ?_ | refine yai ?_ | refine yaj ?_ | refine yan ?_ ?_ ?_ | refine yak ?_ ?_ ?_ | refine yal ?_ | refine yaf ?_ ?_ | refine yab ?_ ?_)
     all_goals (first | (simp; done) | omega | (simp; omega))
    case hstore =>
     repeat' (first | rfl | refine yaa ?_ ?_ | refine yad ?_ ?_ ?_ ?_ | refine yah ?_ | refine yae ?_ | refine yai ?_ | refine yaj ?_ | refine yan ?_ ?_ ?_ | refine yak ?_ ?_ ?_ | refine yal ?_ | refine yaf ?_ ?_ | refine yab ?_ ?_)
     all_goals (first | (simp; done) | omega | (simp; omega))
    case hst =>
     refine ⟨by omega, ?_⟩
     rw [hrs, hallj]
    case hm => omega
  ·intro hb
   try simp only [hB, decide_eq_true_eq, decide_eq_false_iff_not] at hb
   refine AW.keep [] [] ?_
   try simp only [go_sem, reduceIte, reduceCtorEq, zA, zM, zE, zL, zD, zS, zP, zB, zI, zR]
   refine AW.exit ?_
   rw [← hQl1]
   refine hK4 _ _ _ ?_; clear hK4
   refine AW.seq fun K18 hK18 => ?_
   refine AW.regionK 0 (fun _ => none) [2] [] ?_
   simp only [go_sem, reduceIte, reduceCtorEq, zA, zM, zE, zL, zD, zS, zP, zB, zI, zR, hlt]
   repeat with_reducible refine cj ?_ ?_
   all_goals try first | omega
   refine hK18 _ _ _ ?_; clear hK18
   refine AW.ret ?_
   rw [← hQr]
   simp only [go_sem, reduceIte, reduceCtorEq, zA, zM, zE, zL, zD, zS, zP, zB, zI, zR, hlt]
   have hi2 : i = n := by omega
   subst hi2
   exact Wk.of_eq (by rw [hpo, hall])
end Go.Proofs.W

namespace Go.Proofs.W
open Go.AM Go
set_option maxRecDepth 100000
set_option maxHeartbeats 2000000
theorem memS_row {b : List Bool} (hb : b.length ≤ 512) (i : Int) : memS b.length (setW b b.length) i = (decide (0 ≤ i) && decide (i < b.length) && b.getD i.toNat false) := by
 unfold memS
 rw [yci hb, Bool.true_and]
 by_cases h0 : 0 ≤ i
 ·by_cases h1 : i < b.length
  ·rw [decide_eq_true h0, decide_eq_true h1, Bool.true_and, Bool.true_and, Bool.true_and, setW_mem h0 h1]
  ·rw [decide_eq_false h1]; simp
 ·rw [decide_eq_false h0]; simp
theorem rowH_r (b : List Bool) (hb : b.length ≤ 512) (i : Int) : Reads Tryd.prog 41 false [.agg (rowB b), .int .i64 i] (.bool (decide (0 ≤ i) && decide (i < b.length) && b.getD i.toNat false)) := by
 have h := bhas_r b.length (setW b b.length) i (ydb b) (by have := ya1 b; have := ya8 (n := (b.length : Int)) (by omega); omega)
 rw [memS_row hb] at h
 exact h
theorem element_r (es : List (List AV)) (hl : es.length ≤ 9223372036854775807) (i : Int) : Reads Tryd.prog 75 false [.agg [.rsl 2 es], .int .i64 i] (.bool (decide (0 ≤ i) && decide (i < es.length))) := by
 refine Reads.body (rs := [.tmp 4]) Tryd.func75 rfl Tryd.ntmps75 rfl (by simp) ?_
 generalize hQr : retQ _ _ _ = Qr
 refine AW.seq fun K1 hK1 => ?_
 refine AW.regionK 0 (fun _ => none) [1, 2] [2] ?_
 simp only [go_sem, reduceIte, reduceCtorEq, zA, zM, zE, zL, zD, zS, zP, zB, zI, zR]
 repeat with_reducible refine cj ?_ ?_
 all_goals try first | omega
 refine hK1 _ _ _ ?_; clear hK1
 refine AW.seq fun K2 hK2 => ?_
 refine AW.regionK 0 (fun _ => none) [4] [] ?_
 simp only [go_sem, reduceIte, reduceCtorEq, zA, zM, zE, zL, zD, zS, zP, zB, zI, zR]
 repeat with_reducible refine cj ?_ ?_
 all_goals try first | omega | (intros; (repeat' apply And.intro) <;> first | assumption | omega | decide) | (intro hgd; exact absurd hgd (by decide)) | rfl | (simp only [go_sem, reduceIte, reduceCtorEq, zA, zM, zE, zL, zD, zS, zP, zB, zI, zR]; done) | (intro _hgd; simp_all [go_sem]; done)
 refine hK2 _ _ _ ?_; clear hK2
 refine AW.ret ?_
 rw [← hQr]
 simp only [go_sem, reduceIte, reduceCtorEq, zA, zM, zE, zL, zD, zS, zP, zB, zI, zR]
 exact Wk.refl _
def yjb (n : Nat) (t : List (List Bool)) (i j : Int) : Bool := decide (0 ≤ i) && decide (i < n) && decide (0 ≤ j) && decide (j < n) && atT t i.toNat j.toNat
theorem yss (n : Nat) (t : List (List Bool)) (hs : Sq n t) (hn : n ≤ 512) (i j : Int) : Reads Tryd.prog 49 false [relB t, .int .i64 i, .int .i64 j] (.bool (poB n t && yjb n t i j)) := by
 have h := yf3 n t hs hn
 have he := fun k => element_r (tabR t) (by rw [ybt, hs.len]; omega) k
 have hlt : (tabR t).length = n := by rw [ybt, hs.len]
 have hgr := fun i hi => yeu (t := t) (i := i) hi
 have hh := rowH_r
 have hlen := hs.len
 rw [hlt] at he
 have hhc : 0 ≤ i → i < n → 0 ≤ j → j < n → Reads Tryd.prog 41 false [.agg (rowB (rowT t i.toNat)), .int .i64 j] (.bool (atT t i.toNat j.toNat)) := fun h0 h1 h2 h3 => by
  have hr := hs.rowLen (i := i.toNat) (by omega)
  have := hh (rowT t i.toNat) (by omega) j
  rw [decide_eq_true h2, decide_eq_true (by omega : j < (rowT t i.toNat).length)] at this
  exact this
 unfold relB rowB at *
 refine Reads.body (rs := [.tmp 6]) Tryd.func49 rfl Tryd.ntmps49 rfl (by simp) ?_
 generalize hQr : retQ _ _ _ = Qr
 refine AW.seq fun K1 hK1 => ?_
 refine AW.regionK 0 (fun _ => none) [1, 2, 3] [3] ?_
 simp only [go_sem, reduceIte, reduceCtorEq, zA, zM, zE, zL, zD, zS, zP, zB, zI, zR, hlt]
 repeat with_reducible refine cj ?_ ?_
 all_goals try first | omega
 refine hK1 _ _ _ ?_; clear hK1
 refine AW.seq fun K2 hK2 => ?_
 refine AW.regionK 0 (fun ii => if ii = 1 then some (.reads false (.bool (poB n t))) else if ii = 5 then some (.reads false (.bool (decide (0 ≤ i) && decide (i < n)))) else if ii = 10 then some (.reads false (.bool (decide (0 ≤ j) && decide (j < n)))) else if ii = 19 then some (.reads false (.bool (atT t i.toNat j.toNat))) else none) [6] [] ?_
 simp only [go_sem, reduceIte, reduceCtorEq, zA, zM, zE, zL, zD, zS, zP, zB, zI, zR, hlt]
 repeat with_reducible refine cj ?_ ?_
 all_goals try first | (first | exact h | (intro hh; exact ⟨hh, he _⟩) | (intro hh; have hc := hh; simp only [Bool.and_eq_true, decide_eq_true_eq] at hc; obtain ⟨⟨hpp, hi0, hi1⟩, hj0, hj1⟩ := hc; have hg := hgr i.toNat (by omega); refine ⟨hh, ?_⟩; first | exact ⟨hh, hi0, hi1⟩ | (rw [hg]; exact Nat.le_refl 2) | (rw [hg]; exact ⟨rfl, hhc hi0 hi1 hj0 hj1⟩))) | (intros; (repeat' apply And.intro) <;> first | assumption | (first | exact h | (intro hh; exact ⟨hh, he _⟩) | (intro hh; have hc := hh; simp only [Bool.and_eq_true, decide_eq_true_eq] at hc; obtain ⟨⟨hpp, hi0, hi1⟩, hj0, hj1⟩ := hc; have hg := hgr i.toNat (by omega); refine ⟨hh, ?_⟩; first | exact ⟨hh, hi0, hi1⟩ | (rw [hg]; exact Nat.le_refl 2) | (rw [hg]; exact ⟨rfl, hhc hi0 hi1 hj0 hj1⟩)))) | omega | exact ent (by kernel_rfl) | (intro hgd; exact absurd hgd (by decide)) | rfl | (simp only [go_sem, reduceIte, reduceCtorEq, zA, zM, zE, zL, zD, zS, zP, zB, zI, zR, hlt]; done) | (intro _hgd; simp_all [go_sem]; done)
 refine hK2 _ _ _ ?_; clear hK2
 refine AW.ret ?_
 rw [← hQr]
 simp only [go_sem, reduceIte, reduceCtorEq, zA, zM, zE, zL, zD, zS, zP, zB, zI, zR, hlt]
 exact Wk.of_eq (by unfold yjb; cases poB n t <;> simp [Bool.and_assoc])
end Go.Proofs.W

/- Rows made of lists of members. -/
namespace Go.AM
def rowL (n : Nat) (l : List Int) : List Bool := setR n fun i => decide ((i : Int) ∈ l)
theorem rowL_len (n : Nat) (l : List Int) : (rowL n l).length = n := setR_len _ _
theorem ymh {n : Nat} {l : List Int} {i : Nat} (h : i < n) : (rowL n l).getD i false = decide ((i : Int) ∈ l) := yp4 h
end Go.AM

namespace Go.Proofs.W
open Go.AM Go
set_option maxRecDepth 100000
set_option maxHeartbeats 2000000
end Go.Proofs.W

namespace Go.Proofs.W
open Go.AM Go
set_option maxRecDepth 100000
set_option maxHeartbeats 2000000
end Go.Proofs.W

/- The restriction of an order. -/
namespace Go.AM
def resT (t : List (List Bool)) (M : List Nat) : List (List Bool) := tabF M.length fun a c => atT t (M.getD a 0) (M.getD c 0)
theorem ymi {t : List (List Bool)} {M : List Nat} {a c : Nat} (ha : a < M.length) (hc : c < M.length) : atT (resT t M) a c = atT t (M.getD a 0) (M.getD c 0) := atT_tabF ha hc
theorem IsPo.res {n : Nat} {t : List (List Bool)} (h : IsPo n t) {M : List Nat} (hM : ∀ i ∈ M, i < n) : IsPo M.length (resT t M) := by
  have hl : ∀ a, a < M.length → M.getD a 0 < n := fun a ha => hM _ (yb1 ha 0)
  refine ⟨fun i hi => by rw [ymi hi hi]; exact h.irr _ (hl i hi), fun i j k hi hj hk h1 h2 => ?_⟩
  rw [ymi hi hj] at h1
  rw [ymi hj hk] at h2
  rw [ymi hi hk]
  exact h.trans _ _ _ (hl i hi) (hl j hj) (hl k hk) h1 h2
end Go.AM

namespace Go.Proofs.W
open Go.AM Go
set_option maxRecDepth 100000
set_option maxHeartbeats 2000000
theorem levels_g (n : Nat) (t : List (List Bool)) (hs : Sq n t) (hn : n ≤ 512) (hp : poB n t = true) : Reads Tryd.prog 37 false [relB t] (.tup [.rsl 1 (ints (levO n t)), .int .i64 ((0 : Nat) : Int)]) := by
 have h := yf3 n t hs hn
 rw [hp] at h
 have hpo := (ydc hs).1 hp
 have hac := hpo.acyc hs
 have ho := order_g n t hs hn hac
 obtain ⟨hoi, hol⟩ := yow hs hac n [] (OrdI.nil n t) (by simp)
 have hla := fun k hk => LevI.all hs hpo hoi k hk
 have hlt : (tabR t).length = n := by rw [ybt, hs.len]
 have hgr := fun i hi => yeu (t := t) (i := i) hi
 have hmb := fun b hb => yhq b hb
 have hlev : levO n t = (ordO n t n []).foldl (levS t) (List.replicate n 0) := rfl
 have hmx : ∀ a b : Int, (if a < b then b else a) = max a b := fun a b => by split <;> omega
 have hrng := hoi.rng
 generalize hO : ordO n t n [] = O at *
 unfold relB rowB at *
 refine Reads.body (rs := [.tmp 2, .tmp 3]) Tryd.func37 rfl Tryd.ntmps37 rfl (by simp) ?_
 generalize hQr : retQ _ _ _ = Qr
 refine AW.seq fun K1 hK1 => ?_
 refine AW.regionK 0 (fun _ => none) [1] [1] ?_
 simp only [go_sem, reduceIte, reduceCtorEq, zA, zM, zE, zL, zD, zS, zP, zB, zI, zR, hlt]
 repeat with_reducible refine cj ?_ ?_
 all_goals try first | omega
 refine hK1 _ _ _ ?_; clear hK1
 refine AW.seq fun K2 hK2 => ?_
 refine AW.seq fun K3 hK3 => ?_
 refine AW.regionK 0 (fun ii => if ii = 1 then some (.reads false (.bool true)) else none) [1, 15] [1] ?_
 simp only [go_sem, reduceIte, reduceCtorEq, zA, zM, zE, zL, zD, zS, zP, zB, zI, zR, hlt]
 repeat with_reducible refine cj ?_ ?_
 all_goals try first | (exact h) | omega | exact ent (by kernel_rfl)
 refine hK3 _ _ _ ?_; clear hK3
 refine AW.cond rfl (by simp only [go_sem, reduceIte, reduceCtorEq, zA, zM, zE, zL, zD, zS, zP, zB, zI, zR]) ?_ ?_
 ·intro hb
  try simp only [hB, decide_eq_true_eq, decide_eq_false_iff_not] at hb
  simp at hb
 ·intro hb
  try simp only [hB, decide_eq_true_eq, decide_eq_false_iff_not] at hb
  refine AW.skip ?_
  refine hK2 _ _ _ ?_; clear hK2
  refine AW.seq fun K4 hK4 => ?_
  refine AW.regionK 0 (fun ii => if ii = 1 then some (.reads false (.tup [.rsl 1 (ints (nats O)), .int .i64 ((0 : Nat) : Int)])) else none) [1, 4] [1] ?_
  simp only [go_sem, reduceIte, reduceCtorEq, zA, zM, zE, zL, zD, zS, zP, zB, zI, zR, hlt]
  repeat with_reducible refine cj ?_ ?_
  all_goals try first | (exact ho) | omega | exact ent (by kernel_rfl)
  refine hK4 _ _ _ ?_; clear hK4
  refine AW.seq fun K5 hK5 => ?_
  refine AW.regionK 0 (fun _ => none) [1, 4, 6] [1, 24] ?_
  simp only [go_sem, reduceIte, reduceCtorEq, zA, zM, zE, zL, zD, zS, zP, zB, zI, zR, hlt]
  repeat with_reducible refine cj ?_ ?_
  all_goals try first | omega
  refine hK5 _ _ _ ?_; clear hK5
  refine AW.seq fun K6 hK6 => ?_
  refine AW.seq fun K7 hK7 => ?_
  refine AW.regionK 0 (fun _ => none) [1, 6, 25, 26, 27] [1, 24] ?_
  simp only [go_sem, reduceIte, reduceCtorEq, zA, zM, zE, zL, zD, zS, zP, zB, zI, zR, hlt, yac, yb3, hol]
  repeat with_reducible refine cj ?_ ?_
  all_goals try first | omega
  refine hK7 _ _ _ ?_; clear hK7
  refine AW.block ?_
  refine AW.loopE (fun mm ee ss kk => ∃ (k g1 v1 g v : Nat), n - k = mm ∧ ee = [(1, .ptr ⟨1, g1, none⟩ 0 0), (6, .sl ⟨24, g, none⟩ 0 n none), (25, .rsl 1 (ints (nats O))), (26, .int .i64 n), (27, .int .i64 (k : Nat))] ∧ ss = [(1, some ⟨g1, v1, 1, [[.rsl 2 (tabR t)]]⟩), (24, some ⟨g, v, 1, ints ((O.take k).foldl (levS t) (List.replicate n 0))⟩)] ∧ (k ≤ n)) ?_ ?_
  ·refine ⟨_, 0, ?_, ?_, ?_, ?_, rfl, ?henv, ?hstore, ?hst⟩
   case henv =>
    repeat' (first | rfl | refine yaa ?_ ?_ | refine yad ?_ ?_ ?_ ?_ | refine yah ?_ | refine yae ?_ | refine yai ?_ | refine yaj ?_ | refine yan ?_ ?_ ?_ | refine yak ?_ ?_ ?_ | refine yal ?_ | refine yaf ?_ ?_ | refine yab ?_ ?_)
    all_goals (first | (simp; done) | omega | (simp; omega))
   case hstore =>
    repeat' (first | rfl | refine yaa ?_ ?_ | refine yad ?_ ?_ ?_ ?_ | refine yah ?_ | refine yae ?_ | refine yai ?_ | refine yaj ?_ | refine yan ?_ ?_ ?_ | refine yak ?_ ?_ ?_ | refine yal ?_ | refine yaf ?_ ?_ | refine yab ?_ ?_)
    all_goals (simp [ints])
   case hst =>
    first | trivial | omega | (simp; done) | (simp; omega)
  rintro mm ee ss kk ⟨k, g1, v1, g, v, rfl, rfl, rfl, hI⟩
  generalize hQl1 : ybd _ _ = Ql1
  refine AW.seq fun K8 hK8 => ?_
  refine AW.regionK 0 (fun _ => none) [1, 6, 25, 26, 27, 28] [1, 24] ?_
  simp only [go_sem, reduceIte, reduceCtorEq, zA, zM, zE, zL, zD, zS, zP, zB, zI, zR, hlt]
  repeat with_reducible refine cj ?_ ?_
  all_goals try first | omega
  refine hK8 _ _ _ ?_; clear hK8
  refine AW.seq fun K9 hK9 => ?_
  refine AW.cond rfl (by simp only [go_sem, reduceIte, reduceCtorEq, zA, zM, zE, zL, zD, zS, zP, zB, zI, zR]) ?_ ?_
  ·intro hb
   try simp only [hB, decide_eq_true_eq, decide_eq_false_iff_not] at hb
   obtain ⟨i, hi⟩ := getI (l := O) (j := k) (by omega)
   have hgi : (ints (nats O)).getD k [] = [.int .i64 (i : Nat)] := yer (by simp [nats, hi])
   have hin := hrng i (List.mem_of_getElem? hi)
   have hgt := hgr i (by have := hs.len; omega)
   have hri := hs.rowLen hin
   have hlk := hla k (by omega)
   have hts : O.take (k + 1) = O.take k ++ [i] := by obtain ⟨h1, h2⟩ := List.getElem?_eq_some_iff.1 hi; rw [List.take_succ_eq_append_getElem h1, h2]
   have hfs : (O.take (k + 1)).foldl (levS t) (List.replicate n 0) = levS t ((O.take k).foldl (levS t) (List.replicate n 0)) i := by rw [hts, List.foldl_append]; rfl
   generalize hU : (O.take k).foldl (levS t) (List.replicate n 0) = U at *
   have hmi := hmb (rowT t i) (by omega)
   have hml := yme (rowT t i)
   have hmn := memB_nodup (rowT t i)
   have hls : levS t U i = (memB (rowT t i)).foldl (levJ i) U := rfl
   have hmm : ∀ j, j ∈ memB (rowT t i) → j < n ∧ j ≠ i := fun j hj => by
    have hj := memB_mem.1 hj
    refine ⟨by omega, fun e => ?_⟩
    subst e
    have h2 := hpo.irr _ hin
    unfold atT at h2
    rw [h2] at hj
    exact absurd hj.2 (by simp)
   generalize hM : memB (rowT t i) = M at *
   have hul := hlk.len
   have hub := hlk.bnd i hin
   have hup := hlk.pos i hin
   have hkk : (O.take k).length ≤ n := by simp; omega
   refine AW.skip ?_
   refine hK9 _ _ _ ?_; clear hK9
   refine AW.seq fun K10 hK10 => ?_
   refine AW.block ?_
   refine AW.seq fun K11 hK11 => ?_
   refine AW.regionK 0 (fun _ => none) [1, 6, 8, 25, 26, 27] [1, 24] ?_
   simp only [go_sem, reduceIte, reduceCtorEq, zA, zM, zE, zL, zD, zS, zP, zB, zI, zR, hlt, hgi, yac, yb3]
   repeat with_reducible refine cj ?_ ?_
   all_goals try first | omega
   refine hK11 _ _ _ ?_; clear hK11
   refine AW.seq fun K12 hK12 => ?_
   refine AW.regionK 0 (fun ii => if ii = 5 then some (.reads false (.tup [.rsl 1 (ints (nats M)), .int .i64 ((0 : Nat) : Int)])) else none) [1, 6, 8, 9, 25, 26, 27] [1, 24] ?_
   simp only [go_sem, reduceIte, reduceCtorEq, zA, zM, zE, zL, zD, zS, zP, zB, zI, zR, hlt, hgt]
   repeat with_reducible refine cj ?_ ?_
   all_goals try first | (exact hmi) | omega | exact ent (by kernel_rfl)
   refine hK12 _ _ _ ?_; clear hK12
   refine AW.seq fun K13 hK13 => ?_
   refine AW.regionK 0 (fun _ => none) [1, 6, 8, 25, 26, 27, 40, 41, 42] [1, 24] ?_
   simp only [go_sem, reduceIte, reduceCtorEq, zA, zM, zE, zL, zD, zS, zP, zB, zI, zR, hlt, yac, yb3]
   repeat with_reducible refine cj ?_ ?_
   all_goals try first | omega
   refine hK13 _ _ _ ?_; clear hK13
   refine AW.block ?_
   refine AW.loopE (fun mm ee ss kk => ∃ (j g1 v1 g v : Nat), M.length - j = mm ∧ ee = [(1, .ptr ⟨1, g1, none⟩ 0 0), (6, .sl ⟨24, g, none⟩ 0 n none), (8, .int .i64 (i : Nat)), (25, .rsl 1 (ints (nats O))), (26, .int .i64 n), (27, .int .i64 (k : Nat)), (40, .rsl 1 (ints (nats M))), (41, .int .i64 M.length), (42, .int .i64 (j : Nat))] ∧ ss = [(1, some ⟨g1, v1, 1, [[.rsl 2 (tabR t)]]⟩), (24, some ⟨g, v, 1, ints ((M.take j).foldl (levJ i) U)⟩)] ∧ (j ≤ M.length)) ?_ ?_
   ·refine ⟨_, 0, ?_, ?_, ?_, ?_, rfl, ?henv, ?hstore, ?hst⟩
    case henv =>
     repeat' (first | rfl | refine yaa ?_ ?_ | refine yad ?_ ?_ ?_ ?_ | refine yah ?_ | refine yae ?_ | refine yai ?_ | refine yaj ?_ | refine yan ?_ ?_ ?_ | refine yak ?_ ?_ ?_ | refine yal ?_ | refine yaf ?_ ?_ | refine yab ?_ ?_)
     all_goals (first | (simp; done) | omega | (simp; omega))
    case hstore =>
     repeat' (first | rfl | refine yaa ?_ ?_ | refine yad ?_ ?_ ?_ ?_ | refine yah ?_ | refine yae ?_ | refine yai ?_ | refine yaj ?_ | refine yan ?_ ?_ ?_ | refine yak ?_ ?_ ?_ | refine yal ?_ | refine yaf ?_ ?_ | refine yab ?_ ?_)
     all_goals (first | (simp; done) | omega | (simp; omega))
    case hst =>
     first | trivial | omega | (simp; done) | (simp; omega)
   rintro mm ee ss kk ⟨j, g1, v1, g, v, rfl, rfl, rfl, hI⟩
   generalize hQl2 : ybd _ _ = Ql2
   refine AW.seq fun K14 hK14 => ?_
   refine AW.regionK 0 (fun _ => none) [1, 6, 8, 25, 26, 27, 40, 41, 42, 43] [1, 24] ?_
   simp only [go_sem, reduceIte, reduceCtorEq, zA, zM, zE, zL, zD, zS, zP, zB, zI, zR, hlt]
   repeat with_reducible refine cj ?_ ?_
   all_goals try first | omega
   refine hK14 _ _ _ ?_; clear hK14
   refine AW.seq fun K15 hK15 => ?_
   refine AW.cond rfl (by simp only [go_sem, reduceIte, reduceCtorEq, zA, zM, zE, zL, zD, zS, zP, zB, zI, zR]) ?_ ?_
   ·intro hb
    try simp only [hB, decide_eq_true_eq, decide_eq_false_iff_not] at hb
    obtain ⟨q, hq⟩ := getI (l := M) (j := j) (by omega)
    have hgq : (ints (nats M)).getD j [] = [.int .i64 (q : Nat)] := yer (by simp [nats, hq])
    have hqn := hmm q (List.mem_of_getElem? hq)
    have hmt : ∀ x ∈ M.take j, x < U.length ∧ x ≠ i := fun x hx => by have := hmm x (List.mem_of_mem_take hx); omega
    have hvi := ymf i (M.take j) U (List.Pairwise.sublist (List.take_sublist _ _) hmn) hmt i
    rw [if_neg (fun h => (hmt i h).2 rfl)] at hvi
    have hvl := yp6 i (M.take j) U
    have hms : (M.take (j + 1)).foldl (levJ i) U = ((M.take j).foldl (levJ i) U).set q (max (((M.take j).foldl (levJ i) U).getD q 0) (((M.take j).foldl (levJ i) U).getD i 0 + 1)) := by
     obtain ⟨h1, h2⟩ := List.getElem?_eq_some_iff.1 hq
     rw [List.take_succ_eq_append_getElem h1, h2, List.foldl_append]; rfl
    generalize (M.take j).foldl (levJ i) U = V at *
    have hg1 := ybv (l := V) (i := q) (by omega)
    have hg2 := ybv (l := V) (i := i) (by omega)
    refine AW.skip ?_
    refine hK15 _ _ _ ?_; clear hK15
    refine AW.seq fun K16 hK16 => ?_
    refine AW.block ?_
    refine AW.seq fun K17 hK17 => ?_
    refine AW.regionK 0 (fun _ => none) [1, 6, 8, 12, 25, 26, 27, 40, 41, 42] [1, 24] ?_
    simp only [go_sem, reduceIte, reduceCtorEq, zA, zM, zE, zL, zD, zS, zP, zB, zI, zR, hlt, hgq, yac, yb3]
    repeat with_reducible refine cj ?_ ?_
    all_goals try first | omega
    refine hK17 _ _ _ ?_; clear hK17
    refine AW.regionD yd6 0 (fun _ => none) [1, 6, 8, 25, 26, 27, 40, 41, 42] [1, 24] ?_
    simp only [go_sem, reduceIte, reduceCtorEq, zA, zM, zE, zL, zD, zS, zP, zB, zI, zR, hlt, hg1, hg2, hvl, hul, hmx]
    repeat with_reducible refine cj ?_ ?_
    all_goals try first | omega | exact chk (by kernel_rfl)
    refine hK16 _ _ _ ?_; clear hK16
    refine AW.regionK 0 (fun _ => none) [1, 6, 8, 25, 26, 27, 40, 41, 42] [1, 24] ?_
    simp only [go_sem, reduceIte, reduceCtorEq, zA, zM, zE, zL, zD, zS, zP, zB, zI, zR, hlt]
    repeat with_reducible refine cj ?_ ?_
    all_goals try first | omega
    rw [← hQl2]
    change Exists _
    refine ⟨_, ?hm, j + 1, ?_, ?_, ?_, ?_, rfl, ?henv, ?hstore, ?hst⟩
    case henv =>
     repeat' (first | rfl | refine yaa ?_ ?_ | refine yad ?_ ?_ ?_ ?_ | refine yah ?_ | refine yae ?_ | refine yai ?_ | refine yaj ?_ | refine yan ?_ ?_ ?_ | refine yak ?_ ?_ ?_ | refine yal ?_ | refine yaf ?_ ?_ | refine yab ?_ ?_)
     all_goals (first | (simp; done) | omega | (simp; omega))
    case hstore =>
     repeat' (first | rfl | refine yaa ?_ ?_ | refine yad ?_ ?_ ?_ ?_ | refine yah ?_ | refine yae ?_ | refine yai ?_ | refine yaj ?_ | refine yan ?_ ?_ ?_ | refine yak ?_ ?_ ?_ | refine yal ?_ | refine yaf ?_ ?_ | refine yab ?_ ?_)
     all_goals (rw [hms])
    case hst =>
     first | trivial | omega | (simp; done) | (simp; omega)
    case hm => omega
   ·intro hb
    try simp only [hB, decide_eq_true_eq, decide_eq_false_iff_not] at hb
    have hj : j = M.length := by omega
    subst hj
    rw [List.take_of_length_le (Nat.le_refl _), ← hls, ← hfs]
    refine AW.keep [1, 6, 25, 26, 27] [1, 24] ?_
    try simp only [go_sem, reduceIte, reduceCtorEq, zA, zM, zE, zL, zD, zS, zP, zB, zI, zR]
    refine AW.exit ?_
    rw [← hQl2]
    refine hK10 _ _ _ ?_; clear hK10
    refine AW.regionK 0 (fun _ => none) [1, 6, 25, 26, 27] [1, 24] ?_
    simp only [go_sem, reduceIte, reduceCtorEq, zA, zM, zE, zL, zD, zS, zP, zB, zI, zR, hlt]
    repeat with_reducible refine cj ?_ ?_
    all_goals try first | omega
    rw [← hQl1]
    change Exists _
    refine ⟨_, ?hm, k + 1, ?_, ?_, ?_, ?_, rfl, ?henv, ?hstore, ?hst⟩
    case henv =>
     repeat' (first | rfl | refine yaa ?_ ?_ | refine yad ?_ ?_ ?_ ?_ | refine yah ?_ | refine yae ?_ | refine yai ?_ | refine yaj ?_ | refine yan ?_ ?_ ?_ | refine yak ?_ ?_ ?_ | refine yal ?_ | refine yaf ?_ ?_ | refine yab ?_ ?_)
     all_goals (first | (simp; done) | omega | (simp; omega))
    case hstore =>
     repeat' (first | rfl | refine yaa ?_ ?_ | refine yad ?_ ?_ ?_ ?_ | refine yah ?_ | refine yae ?_ | refine yai ?_ | refine yaj ?_ | refine yan ?_ ?_ ?_ | refine yak ?_ ?_ ?_ | refine yal ?_ | refine yaf ?_ ?_ | refine yab ?_ ?_)
     all_goals (first | (simp; done) | omega | (simp; omega))
    case hst =>
     first | trivial | omega | (simp; done) | (simp; omega)
    case hm => omega
  ·intro hb
   try simp only [hB, decide_eq_true_eq, decide_eq_false_iff_not] at hb
   refine AW.keep [6] [24] ?_
   try simp only [go_sem, reduceIte, reduceCtorEq, zA, zM, zE, zL, zD, zS, zP, zB, zI, zR]
   refine AW.exit ?_
   rw [← hQl1]
   refine hK6 _ _ _ ?_; clear hK6
   refine AW.seq fun K18 hK18 => ?_
   refine AW.regionK 0 (fun _ => none) [2, 3] [24] ?_
   simp only [go_sem, reduceIte, reduceCtorEq, zA, zM, zE, zL, zD, zS, zP, zB, zI, zR, hlt]
   repeat with_reducible refine cj ?_ ?_
   all_goals try first | omega
   refine hK18 _ _ _ ?_; clear hK18
   refine AW.ret ?_
   rw [← hQr]
   simp only [go_sem, reduceIte, reduceCtorEq, zA, zM, zE, zL, zD, zS, zP, zB, zI, zR, hlt]
   have hk : k = n := by omega
   subst hk
   rw [List.take_of_length_le (by omega : O.length ≤ k), ← hlev, List.take_of_length_le (by rw [(ymg hs hpo).len]; exact Nat.le_refl _)]
   exact Wk.refl _
end Go.Proofs.W

namespace Go.Proofs.W.R
open Go.AM Go
set_option maxRecDepth 100000
set_option maxHeartbeats 1000000
theorem formed_a (N n : Int) (W : List Int) (hl : W.length ≤ 9223372036854775807) (hn0 : 0 ≤ n) (hn1 : n ≤ 512) (hm : n.tmod 64 = 0) : Reads Tryd.prog 11 false [.agg [.int .i64 N, .rsl 1 (words W)], .int .i64 n] (.bool (decide (N = n) && validS n W)) := by
 have hwe := yig n
 have hwn := ya8 (n := n) hn0
 have hdiv : 0 ≤ n.tdiv 64 ∧ n.tdiv 64 ≤ 512 ∧ n.tdiv 64 = ybb n := by rw [← hwe]; rw [Int.tmod_eq_emod_of_nonneg hn0] at hm; rw [Int.tdiv_eq_ediv_of_nonneg (by omega), Int.tdiv_eq_ediv_of_nonneg (by omega)]; omega
 refine Reads.body (rs := [.tmp 4]) Tryd.func11 rfl Tryd.ntmps11 rfl (by simp) ?_
 generalize hQr : retQ _ _ _ = Qr
 refine AW.seq fun K1 hK1 => ?_
 refine AW.regionK 0 (fun _ => none) [1, 2] [2] ?_
 simp only [go_sem, reduceIte, reduceCtorEq, zA, zM, zE, zL, zD, zS, zP, zB, zI, zR]
 repeat with_reducible refine cj ?_ ?_
 all_goals try first | omega
 refine hK1 _ _ _ ?_; clear hK1
 refine AW.seq fun K2 hK2 => ?_
 refine AW.seq fun K3 hK3 => ?_
 refine AW.regionK 0 (fun _ => none) [1, 2, 17] [2] ?_
 simp only [go_sem, reduceIte, reduceCtorEq, zA, zM, zE, zL, zD, zS, zP, zB, zI, zR, hwe]
 repeat with_reducible refine cj ?_ ?_
 all_goals try first | omega | (intros; (repeat' apply And.intro) <;> first | assumption | omega | decide) | (intro hgd; exact absurd hgd (by decide)) | rfl | (simp only [go_sem, reduceIte, reduceCtorEq, zA, zM, zE, zL, zD, zS, zP, zB, zI, zR, hwe]; done) | (intro _hgd; simp_all [go_sem]; done)
 refine hK3 _ _ _ ?_; clear hK3
 refine AW.cond rfl (by simp only [go_sem, reduceIte, reduceCtorEq, zA, zM, zE, zL, zD, zS, zP, zB, zI, zR]) ?_ ?_
 ·intro hb
  try simp only [hB, decide_eq_true_eq, decide_eq_false_iff_not] at hb
  refine AW.seq fun K4 hK4 => ?_
  refine AW.regionK 0 (fun _ => none) [4] [] ?_
  simp only [go_sem, reduceIte, reduceCtorEq, zA, zM, zE, zL, zD, zS, zP, zB, zI, zR]
  repeat with_reducible refine cj ?_ ?_
  all_goals try first | omega
  refine hK4 _ _ _ ?_; clear hK4
  refine AW.ret ?_
  rw [← hQr]
  simp only [go_sem, reduceIte, reduceCtorEq, zA, zM, zE, zL, zD, zS, zP, zB, zI, zR]
  exact Wk.of_eq (by congr 1; symm; simp [validS]; intros; omega)
 ·intro hb
  try simp only [hB, decide_eq_true_eq, decide_eq_false_iff_not] at hb
  have hlen : (W.length : Int) = ybb n := by omega
  have hNn : N = n := by omega
  have hgw : (words W).getD (n.tdiv 64).toNat [] = [] := by rw [List.getD_eq_getElem?_getD, List.getElem?_eq_none (by rw [ydu]; omega)]; rfl
  refine AW.skip ?_
  refine hK2 _ _ _ ?_; clear hK2
  refine AW.seq fun K5 hK5 => ?_
  refine AW.regionK 0 (fun _ => none) [4] [] ?_
  simp only [go_sem, reduceIte, reduceCtorEq, zA, zM, zE, zL, zD, zS, zP, zB, zI, zR, hgw, hm]
  repeat with_reducible refine cj ?_ ?_
  all_goals try first | ((intro hh; (repeat' apply And.intro) <;> first | exact hh | omega | (exfalso; simp at hh; done))) | (intros; (repeat' apply And.intro) <;> first | assumption | ((intro hh; (repeat' apply And.intro) <;> first | exact hh | omega | (exfalso; simp at hh; done)))) | omega | (intro hgd; exact absurd hgd (by decide)) | rfl | (simp only [go_sem, reduceIte, reduceCtorEq, zA, zM, zE, zL, zD, zS, zP, zB, zI, zR, hgw, hm]; done) | (intro _hgd; simp_all [go_sem]; done)
  refine hK5 _ _ _ ?_; clear hK5
  refine AW.ret ?_
  rw [← hQr]
  simp only [go_sem, reduceIte, reduceCtorEq, zA, zM, zE, zL, zD, zS, zP, zB, zI, zR]
  exact Wk.of_eq (by simp [validS, topB, hm, hNn, hlen, hn0, hn1])
theorem formed_b (N n : Int) (W : List Int) (hl : W.length ≤ 9223372036854775807) (hn0 : 0 ≤ n) (hn1 : n ≤ 512) (hm : n.tmod 64 ≠ 0) : Reads Tryd.prog 11 false [.agg [.int .i64 N, .rsl 1 (words W)], .int .i64 n] (.bool (decide (N = n) && validS n W)) := by
 have hwe := yig n
 have hwn := ya8 (n := n) hn0
 have hmod : 0 ≤ n.tmod 64 ∧ n.tmod 64 < 64 := by rw [Int.tmod_eq_emod_of_nonneg (by omega)]; omega
 have hnz : n ≠ 0 := by rintro rfl; exact hm rfl
 have hwr : IntKind.u64.wrap (n.tmod 64) = n.tmod 64 := by simp [IntKind.wrap, IntKind.signed, IntKind.bits]; omega
 refine Reads.body (rs := [.tmp 4]) Tryd.func11 rfl Tryd.ntmps11 rfl (by simp) ?_
 generalize hQr : retQ _ _ _ = Qr
 refine AW.seq fun K1 hK1 => ?_
 refine AW.regionK 0 (fun _ => none) [1, 2] [2] ?_
 simp only [go_sem, reduceIte, reduceCtorEq, zA, zM, zE, zL, zD, zS, zP, zB, zI, zR]
 repeat with_reducible refine cj ?_ ?_
 all_goals try first | omega
 refine hK1 _ _ _ ?_; clear hK1
 refine AW.seq fun K2 hK2 => ?_
 refine AW.seq fun K3 hK3 => ?_
 refine AW.regionK 0 (fun _ => none) [1, 2, 17] [2] ?_
 simp only [go_sem, reduceIte, reduceCtorEq, zA, zM, zE, zL, zD, zS, zP, zB, zI, zR, hwe]
 repeat with_reducible refine cj ?_ ?_
 all_goals try first | omega | (intros; (repeat' apply And.intro) <;> first | assumption | omega | decide) | (intro hgd; exact absurd hgd (by decide)) | rfl | (simp only [go_sem, reduceIte, reduceCtorEq, zA, zM, zE, zL, zD, zS, zP, zB, zI, zR, hwe]; done) | (intro _hgd; simp_all [go_sem]; done)
 refine hK3 _ _ _ ?_; clear hK3
 refine AW.cond rfl (by simp only [go_sem, reduceIte, reduceCtorEq, zA, zM, zE, zL, zD, zS, zP, zB, zI, zR]) ?_ ?_
 ·intro hb
  try simp only [hB, decide_eq_true_eq, decide_eq_false_iff_not] at hb
  refine AW.seq fun K4 hK4 => ?_
  refine AW.regionK 0 (fun _ => none) [4] [] ?_
  simp only [go_sem, reduceIte, reduceCtorEq, zA, zM, zE, zL, zD, zS, zP, zB, zI, zR]
  repeat with_reducible refine cj ?_ ?_
  all_goals try first | omega
  refine hK4 _ _ _ ?_; clear hK4
  refine AW.ret ?_
  rw [← hQr]
  simp only [go_sem, reduceIte, reduceCtorEq, zA, zM, zE, zL, zD, zS, zP, zB, zI, zR]
  exact Wk.of_eq (by congr 1; symm; simp [validS]; intros; omega)
 ·intro hb
  try simp only [hB, decide_eq_true_eq, decide_eq_false_iff_not] at hb
  have hlen : (W.length : Int) = ybb n := by omega
  have hNn : N = n := by omega
  obtain ⟨hti, htl⟩ := yrf hn0 hlen hm
  have hdiv : 0 ≤ n.tdiv 64 ∧ n.tdiv 64 ≤ 512 := by rw [Int.tdiv_eq_ediv_of_nonneg (by omega)]; omega
  have hgw : (words W).getD (n.tdiv 64).toNat [] = [.int .u64 (W.getD (W.length - 1) 0)] := by rw [← hti]; exact ybo (by omega)
  refine AW.skip ?_
  refine hK2 _ _ _ ?_; clear hK2
  refine AW.seq fun K5 hK5 => ?_
  refine AW.regionK 0 (fun _ => none) [4] [] ?_
  simp only [go_sem, reduceIte, reduceCtorEq, zA, zM, zE, zL, zD, zS, zP, zB, zI, zR, hgw, hwr]
  repeat with_reducible refine cj ?_ ?_
  all_goals try first | ((intro hh; (repeat' apply And.intro) <;> first | exact hh | omega)) | (intros; (repeat' apply And.intro) <;> first | assumption | ((intro hh; (repeat' apply And.intro) <;> first | exact hh | omega))) | omega | (intro hgd; exact absurd hgd (by decide)) | rfl | (simp only [go_sem, reduceIte, reduceCtorEq, zA, zM, zE, zL, zD, zS, zP, zB, zI, zR, hgw, hwr]; done) | (intro _hgd; simp_all [go_sem]; done)
  refine hK5 _ _ _ ?_; clear hK5
  refine AW.ret ?_
  rw [← hQr]
  simp only [go_sem, reduceIte, reduceCtorEq, zA, zM, zE, zL, zD, zS, zP, zB, zI, zR]
  exact Wk.of_eq (by simp [validS, topB, hm, hNn, hlen, hn0, hn1])
theorem formed_r (N n : Int) (W : List Int) (hl : W.length ≤ 9223372036854775807) (hn0 : 0 ≤ n) (hn1 : n ≤ 512) : Reads Tryd.prog 11 false [.agg [.int .i64 N, .rsl 1 (words W)], .int .i64 n] (.bool (decide (N = n) && validS n W)) := by
 by_cases hm : n.tmod 64 = 0
 ·exact formed_a N n W hl hn0 hn1 hm
 ·exact formed_b N n W hl hn0 hn1 hm
def goodRow (n : Nat) (x : USet) : Bool := decide (x.N = n) && validS n x.W
theorem validR_good (rs : List USet) : yc9 rs = (decide (rs.length ≤ 512) && rs.all (goodRow rs.length)) := by
 unfold yc9
 have : (fun x : USet => decide (x.N = (rs.length : Int)) && validS x.N x.W) = goodRow rs.length := by
  funext x
  unfold goodRow
  by_cases h : x.N = (rs.length : Int)
  ·rw [h]
  ·simp [h]
 rw [this]
theorem rrvalid_r (rs : List USet) (hl : rs.length ≤ 9223372036854775807) (hx : ∀ x ∈ rs, x.W.length ≤ 9223372036854775807) : Reads Tryd.prog 45 false [relV rs] (.bool (yc9 rs)) := by
 have hf := fun x hxm h => formed_r x.N (rs.length : Nat) x.W (hx x hxm) (by omega) h
 have hvg := validR_good rs
 unfold relV
 refine Reads.body (rs := [.tmp 2]) Tryd.func45 rfl Tryd.ntmps45 rfl (by simp) ?_
 generalize hQr : retQ _ _ _ = Qr
 refine AW.seq fun K1 hK1 => ?_
 refine AW.regionK 0 (fun _ => none) [1] [1] ?_
 simp only [go_sem, reduceIte, reduceCtorEq, zA, zM, zE, zL, zD, zS, zP, zB, zI, zR]
 repeat with_reducible refine cj ?_ ?_
 all_goals try first | omega
 refine hK1 _ _ _ ?_; clear hK1
 refine AW.seq fun K2 hK2 => ?_
 refine AW.regionK 0 (fun _ => none) [1, 3] [1] ?_
 simp only [go_sem, reduceIte, reduceCtorEq, zA, zM, zE, zL, zD, zS, zP, zB, zI, zR]
 repeat with_reducible refine cj ?_ ?_
 all_goals try first | omega
 refine hK2 _ _ _ ?_; clear hK2
 refine AW.seq fun K3 hK3 => ?_
 refine AW.seq fun K4 hK4 => ?_
 refine AW.regionK 0 (fun _ => none) [1, 3, 9] [1] ?_
 simp only [go_sem, reduceIte, reduceCtorEq, zA, zM, zE, zL, zD, zS, zP, zB, zI, zR]
 repeat with_reducible refine cj ?_ ?_
 all_goals try first | omega
 refine hK4 _ _ _ ?_; clear hK4
 refine AW.cond rfl (by simp only [go_sem, reduceIte, reduceCtorEq, zA, zM, zE, zL, zD, zS, zP, zB, zI, zR]) ?_ ?_
 ·intro hb
  try simp only [hB, decide_eq_true_eq, decide_eq_false_iff_not] at hb
  refine AW.seq fun K5 hK5 => ?_
  refine AW.regionK 0 (fun _ => none) [2] [] ?_
  simp only [go_sem, reduceIte, reduceCtorEq, zA, zM, zE, zL, zD, zS, zP, zB, zI, zR]
  repeat with_reducible refine cj ?_ ?_
  all_goals try first | omega
  refine hK5 _ _ _ ?_; clear hK5
  refine AW.ret ?_
  rw [← hQr]
  simp only [go_sem, reduceIte, reduceCtorEq, zA, zM, zE, zL, zD, zS, zP, zB, zI, zR]
  have hn : ¬ rs.length ≤ 512 := by omega
  exact Wk.of_eq (by rw [hvg]; simp [hn])
 ·intro hb
  try simp only [hB, decide_eq_true_eq, decide_eq_false_iff_not] at hb
  have h512 : rs.length ≤ 512 := by omega
  refine AW.skip ?_
  refine hK3 _ _ _ ?_; clear hK3
  refine AW.seq fun K6 hK6 => ?_
  refine AW.seq fun K7 hK7 => ?_
  refine AW.regionK 0 (fun _ => none) [1, 3, 4] [1] ?_
  simp only [go_sem, reduceIte, reduceCtorEq, zA, zM, zE, zL, zD, zS, zP, zB, zI, zR]
  repeat with_reducible refine cj ?_ ?_
  all_goals try first | omega
  refine hK7 _ _ _ ?_; clear hK7
  refine AW.block ?_
  refine AW.loopE (fun mm ee ss kk => ∃ (j g v : Nat), rs.length - j = mm ∧ ee = [(1, .ptr ⟨1, g, none⟩ 0 0), (3, .int .i64 rs.length), (4, .int .i64 (j : Nat))] ∧ ss = [(1, some ⟨g, v, 1, [[.rsl 2 (rs.map rowV)]]⟩)] ∧ (j ≤ rs.length ∧ (rs.take j).all (goodRow rs.length) = true)) ?_ ?_
  ·refine ⟨_, 0, ?_, ?_, rfl, ?henv, ?hstore, ?hst⟩
   case henv =>
    repeat' (first | rfl | refine yaa ?_ ?_ | refine yad ?_ ?_ ?_ ?_ | refine yah ?_ | refine yae ?_ | refine yai ?_ | refine yaj ?_ | refine yan ?_ ?_ ?_ | refine yak ?_ ?_ ?_ | refine yal ?_ | refine yaf ?_ ?_ | refine yab ?_ ?_)
    all_goals (first | (simp; done) | omega | (simp; omega))
   case hstore =>
    repeat' (first | rfl | refine yaa ?_ ?_ | refine yad ?_ ?_ ?_ ?_ | refine yah ?_ | refine yae ?_ | refine yai ?_ | refine yaj ?_ | refine yan ?_ ?_ ?_ | refine yak ?_ ?_ ?_ | refine yal ?_ | refine yaf ?_ ?_ | refine yab ?_ ?_)
    all_goals (first | (simp; done) | omega | (simp; omega))
   case hst =>
    exact ⟨Nat.zero_le _, rfl⟩
  rintro mm ee ss kk ⟨j, g, v, rfl, rfl, rfl, hI⟩
  generalize hQl1 : ybd _ _ = Ql1
  obtain ⟨hj, hall⟩ := hI
  refine AW.seq fun K8 hK8 => ?_
  refine AW.seq fun K9 hK9 => ?_
  refine AW.regionK 0 (fun _ => none) [1, 3, 4, 12] [1] ?_
  simp only [go_sem, reduceIte, reduceCtorEq, zA, zM, zE, zL, zD, zS, zP, zB, zI, zR]
  repeat with_reducible refine cj ?_ ?_
  all_goals try first | omega
  refine hK9 _ _ _ ?_; clear hK9
  refine AW.cond rfl (by simp only [go_sem, reduceIte, reduceCtorEq, zA, zM, zE, zL, zD, zS, zP, zB, zI, zR]) ?_ ?_
  ·intro hb
   try simp only [hB, decide_eq_true_eq, decide_eq_false_iff_not] at hb
   obtain ⟨x, hx2⟩ := getI (l := rs) (j := j) (by omega)
   have hgx := getV (f := rowV) hx2
   have hats := yeq (p := goodRow rs.length) hx2
   have hfx := hf x (List.mem_of_getElem? hx2) (by omega)
   refine AW.skip ?_
   refine hK8 _ _ _ ?_; clear hK8
   refine AW.seq fun K10 hK10 => ?_
   refine AW.block ?_
   refine AW.seq fun K11 hK11 => ?_
   refine AW.regionK 0 (fun ii => if ii = 6 then some (.reads false (.bool (goodRow rs.length x))) else none) [1, 3, 4, 22] [1] ?_
   simp only [go_sem, reduceIte, reduceCtorEq, zA, zM, zE, zL, zD, zS, zP, zB, zI, zR, hgx, rowV]
   repeat with_reducible refine cj ?_ ?_
   all_goals try first | (exact hfx) | omega | exact ent (by kernel_rfl)
   refine hK11 _ _ _ ?_; clear hK11
   refine AW.cond rfl (by simp only [go_sem, reduceIte, reduceCtorEq, zA, zM, zE, zL, zD, zS, zP, zB, zI, zR]) ?_ ?_
   ·intro hb
    try simp only [hB, decide_eq_true_eq, decide_eq_false_iff_not] at hb
    refine AW.seq fun K12 hK12 => ?_
    refine AW.regionK 0 (fun _ => none) [2] [] ?_
    simp only [go_sem, reduceIte, reduceCtorEq, zA, zM, zE, zL, zD, zS, zP, zB, zI, zR]
    repeat with_reducible refine cj ?_ ?_
    all_goals try first | omega
    refine hK12 _ _ _ ?_; clear hK12
    refine AW.ret ?_
    rw [← hQl1]
    rw [← hQr]
    simp only [go_sem, reduceIte, reduceCtorEq, zA, zM, zE, zL, zD, zS, zP, zB, zI, zR]
    exact Wk.of_eq (by rw [hvg, yiy hx2 hb]; simp)
   ·intro hb
    try simp only [hB, decide_eq_true_eq, decide_eq_false_iff_not] at hb
    refine AW.skip ?_
    refine hK10 _ _ _ ?_; clear hK10
    refine AW.regionK 0 (fun _ => none) [1, 3, 4] [1] ?_
    simp only [go_sem, reduceIte, reduceCtorEq, zA, zM, zE, zL, zD, zS, zP, zB, zI, zR]
    repeat with_reducible refine cj ?_ ?_
    all_goals try first | omega
    rw [← hQl1]
    change Exists _
    refine ⟨_, ?hm, j + 1, ?_, ?_, rfl, ?henv, ?hstore, ?hst⟩
    case henv =>
     repeat' (first | rfl | refine yaa ?_ ?_ | refine yad ?_ ?_ ?_ ?_ | refine yah ?_ | refine yae ?_ | refine yai ?_ | refine yaj ?_ | refine yan ?_ ?_ ?_ | refine yak ?_ ?_ ?_ | refine yal ?_ | refine yaf ?_ ?_ | refine yab ?_ ?_)
     all_goals (first | (simp; done) | omega | (simp; omega))
    case hstore =>
     repeat' (first | rfl | refine yaa ?_ ?_ | refine yad ?_ ?_ ?_ ?_ | refine yah ?_ | refine yae ?_ | refine yai ?_ | refine yaj ?_ | refine yan ?_ ?_ ?_ | refine yak ?_ ?_ ?_ | refine yal ?_ | refine yaf ?_ ?_ | refine yab ?_ ?_)
     all_goals (first | (simp; done) | omega | (simp; omega))
    case hst =>
     exact ⟨by omega, by rw [hats, hall, hb]; rfl⟩
    case hm => omega
  ·intro hb
   try simp only [hB, decide_eq_true_eq, decide_eq_false_iff_not] at hb
   refine AW.keep [] [] ?_
   try simp only [go_sem, reduceIte, reduceCtorEq, zA, zM, zE, zL, zD, zS, zP, zB, zI, zR]
   refine AW.exit ?_
   rw [← hQl1]
   refine hK6 _ _ _ ?_; clear hK6
   refine AW.seq fun K13 hK13 => ?_
   refine AW.regionK 0 (fun _ => none) [2] [] ?_
   simp only [go_sem, reduceIte, reduceCtorEq, zA, zM, zE, zL, zD, zS, zP, zB, zI, zR]
   repeat with_reducible refine cj ?_ ?_
   all_goals try first | omega
   refine hK13 _ _ _ ?_; clear hK13
   refine AW.ret ?_
   rw [← hQr]
   simp only [go_sem, reduceIte, reduceCtorEq, zA, zM, zE, zL, zD, zS, zP, zB, zI, zR]
   exact Wk.of_eq (by rw [List.take_of_length_le (by omega)] at hall; rw [hvg, hall]; simp [h512])
end Go.Proofs.W.R

namespace Go.Proofs.W.R
open Go.AM Go
set_option maxRecDepth 100000
set_option maxHeartbeats 1000000
theorem table_r (n : Nat) (t : List (List Bool)) (hs : Sq n t) (hn : n ≤ 512) : Reads Tryd.prog 20 true [relB t] (.rsl 1 (yii t)) := by
 have hlen := hs.len
 have hrl := ybt t
 have hwn := ya8 (n := (n : Int)) (by omega)
 unfold relB
 refine Reads.bodyF (rs := [.tmp 2]) Tryd.func20 rfl Tryd.ntmps20 rfl (by simp) ?_
 generalize hQr : retQ _ _ _ = Qr
 refine AW.seq fun K1 hK1 => ?_
 refine AW.regionK 0 (fun _ => none) [1] [1] ?_
 simp only [go_sem, reduceIte, reduceCtorEq, zA, zM, zE, zL, zD, zS, zP, zB, zI, zR, hrl, hlen]
 repeat with_reducible refine cj ?_ ?_
 all_goals try first | omega
 refine hK1 _ _ _ ?_; clear hK1
 refine AW.seq fun K2 hK2 => ?_
 refine AW.regionK 0 (fun _ => none) [1, 3] [1] ?_
 simp only [go_sem, reduceIte, reduceCtorEq, zA, zM, zE, zL, zD, zS, zP, zB, zI, zR, hrl, hlen]
 repeat with_reducible refine cj ?_ ?_
 all_goals try first | omega
 refine hK2 _ _ _ ?_; clear hK2
 refine AW.seq fun K3 hK3 => ?_
 refine AW.regionK 0 (fun _ => none) [1, 3, 4] [1] ?_
 simp only [go_sem, reduceIte, reduceCtorEq, zA, zM, zE, zL, zD, zS, zP, zB, zI, zR, hrl, hlen]
 repeat with_reducible refine cj ?_ ?_
 all_goals try first | omega
 refine hK3 _ _ _ ?_; clear hK3
 refine AW.seq fun K4 hK4 => ?_
 refine AW.seq fun K5 hK5 => ?_
 refine AW.regionK 0 (fun _ => none) [1, 3, 4, 5] [1] ?_
 simp only [go_sem, reduceIte, reduceCtorEq, zA, zM, zE, zL, zD, zS, zP, zB, zI, zR, hrl, hlen]
 repeat with_reducible refine cj ?_ ?_
 all_goals try first | omega
 refine hK5 _ _ _ ?_; clear hK5
 refine AW.block ?_
 refine AW.nilOwn 4 200 1 (by simp only [go_sem, reduceIte, zE]) ?_
 refine AW.keep [1, 3, 4, 5] [1, 200] ?_
 simp only [go_sem, reduceIte, zE]
 refine AW.loopE (fun mm ee ss kk => ∃ (i g1 v1 g v : Nat), n - i = mm ∧ ee = [(1, .ptr ⟨1, g1, none⟩ 0 0), (3, .int .i64 n), (4, .sl ⟨200, g, none⟩ 0 i none), (5, .int .i64 (i : Nat))] ∧ ss = [(1, some ⟨g1, v1, 1, [[.rsl 2 (tabR t)]]⟩), (200, some ⟨g, v, 1, ygx (t.take i)⟩)] ∧ (i ≤ n)) ?_ ?_
 ·refine ⟨_, 0, ?_, ?_, ?_, ?_, rfl, ?henv, ?hstore, ?hst⟩
  case henv =>
   repeat' (first | rfl | refine yaa ?_ ?_ | refine yad ?_ ?_ ?_ ?_ | refine yah ?_ | refine yae ?_ | refine yai ?_ | refine yaj ?_ | refine yan ?_ ?_ ?_ | refine yak ?_ ?_ ?_ | refine yal ?_ | refine yaf ?_ ?_ | refine yab ?_ ?_)
   all_goals (first | (simp; done) | omega | (simp; omega))
  case hstore =>
   repeat' (first | rfl | refine yaa ?_ ?_ | refine yad ?_ ?_ ?_ ?_ | refine yah ?_ | refine yae ?_ | refine yai ?_ | refine yaj ?_ | refine yan ?_ ?_ ?_ | refine yak ?_ ?_ ?_ | refine yal ?_ | refine yaf ?_ ?_ | refine yab ?_ ?_)
   all_goals (first | (simp; done) | omega | (simp; omega))
  case hst =>
   first | trivial | omega | (simp; done) | (simp; omega)
 rintro mm ee ss kk ⟨i, g1, v1, g, v, rfl, rfl, rfl, hI⟩
 generalize hQl1 : ybd _ _ = Ql1
 refine AW.seq fun K6 hK6 => ?_
 refine AW.seq fun K7 hK7 => ?_
 refine AW.regionK 0 (fun _ => none) [1, 3, 4, 5, 13] [1, 200] ?_
 simp only [go_sem, reduceIte, reduceCtorEq, zA, zM, zE, zL, zD, zS, zP, zB, zI, zR, hrl, hlen]
 repeat with_reducible refine cj ?_ ?_
 all_goals try first | omega
 refine hK7 _ _ _ ?_; clear hK7
 refine AW.cond rfl (by simp only [go_sem, reduceIte, reduceCtorEq, zA, zM, zE, zL, zD, zS, zP, zB, zI, zR]) ?_ ?_
 ·intro hb
  try simp only [hB, decide_eq_true_eq, decide_eq_false_iff_not] at hb
  have hgr := yeu (t := t) (i := i) (by omega)
  have hrw := hs.rowLen (i := i) (by omega)
  have hti := take_succT (t := t) (i := i) (by omega)
  have htl : (ygx (t.take i)).length = i := by rw [ynr]; simp; omega
  have htk : (ygx (t.take i)).take i = ygx (t.take i) := List.take_of_length_le (by omega)
  generalize hb' : rowT t i = b at *
  have hap := rowsO_app (t.take i) b
  have hgl := fun x => yrk (ygx (t.take i)) x htl
  have hsl := fun x y => yrl (ygx (t.take i)) x y htl
  have hll := fun x => yrm (ygx (t.take i)) x htl
  have hwl := ya1 b
  rw [hrw] at hwl
  refine AW.skip ?_
  refine hK6 _ _ _ ?_; clear hK6
  refine AW.seq fun K8 hK8 => ?_
  refine AW.block ?_
  refine AW.seq fun K9 hK9 => ?_
  refine AW.regionK 0 (fun _ => none) [1, 3, 4, 5, 6] [1, 17, 200] ?_
  simp only [go_sem, reduceIte, reduceCtorEq, zA, zM, zE, zL, zD, zS, zP, zB, zI, zR, hrl, hlen]
  repeat with_reducible refine cj ?_ ?_
  all_goals try first | omega
  refine hK9 _ _ _ ?_; clear hK9
  refine AW.seq fun K10 hK10 => ?_
  refine AW.seq fun K11 hK11 => ?_
  refine AW.regionK 0 (fun _ => none) [1, 3, 4, 5, 6, 7] [1, 17, 200] ?_
  simp only [go_sem, reduceIte, reduceCtorEq, zA, zM, zE, zL, zD, zS, zP, zB, zI, zR, hrl, hlen]
  repeat with_reducible refine cj ?_ ?_
  all_goals try first | omega
  refine hK11 _ _ _ ?_; clear hK11
  refine AW.block ?_
  refine AW.loopE (fun mm ee ss kk => ∃ (j g1 v1 g17 v17 g v : Nat), n - j = mm ∧ ee = [(1, .ptr ⟨1, g1, none⟩ 0 0), (3, .int .i64 n), (4, .sl ⟨200, g, none⟩ 0 i none), (5, .int .i64 (i : Nat)), (6, .sl ⟨17, g17, none⟩ 0 n none), (7, .int .i64 (j : Nat))] ∧ ss = [(1, some ⟨g1, v1, 1, [[.rsl 2 (tabR t)]]⟩), (17, some ⟨g17, v17, 1, ybc (ykx b n j)⟩), (200, some ⟨g, v, 1, ygx (t.take i)⟩)] ∧ (j ≤ n)) ?_ ?_
  ·refine ⟨_, 0, ?_, ?_, ?_, ?_, ?_, ?_, rfl, ?henv, ?hstore, ?hst⟩
   case henv =>
    repeat' (first | rfl | refine yaa ?_ ?_ | refine yad ?_ ?_ ?_ ?_ | refine yah ?_ | refine yae ?_ | refine yai ?_ | refine yaj ?_ | refine yan ?_ ?_ ?_ | refine yak ?_ ?_ ?_ | refine yal ?_ | refine yaf ?_ ?_ | refine yab ?_ ?_)
    all_goals (first | (simp; done) | omega | (simp; omega))
   case hstore =>
    repeat' (first | rfl | refine yaa ?_ ?_ | refine yad ?_ ?_ ?_ ?_ | refine yah ?_ | refine yae ?_ | refine yai ?_ | refine yaj ?_ | refine yan ?_ ?_ ?_ | refine yak ?_ ?_ ?_ | refine yal ?_ | refine yaf ?_ ?_ | refine yab ?_ ?_)
    all_goals (rw [fillB_zero]; simp [ybc])
   case hst =>
    first | trivial | omega | (simp; done) | (simp; omega)
  rintro mm ee ss kk ⟨j, g1, v1, g17, v17, g, v, rfl, rfl, rfl, hI⟩
  generalize hQl2 : ybd _ _ = Ql2
  refine AW.seq fun K12 hK12 => ?_
  refine AW.seq fun K13 hK13 => ?_
  refine AW.regionK 0 (fun _ => none) [1, 3, 4, 5, 6, 7, 20] [1, 17, 200] ?_
  simp only [go_sem, reduceIte, reduceCtorEq, zA, zM, zE, zL, zD, zS, zP, zB, zI, zR, hrl, hlen]
  repeat with_reducible refine cj ?_ ?_
  all_goals try first | omega
  refine hK13 _ _ _ ?_; clear hK13
  refine AW.cond rfl (by simp only [go_sem, reduceIte, reduceCtorEq, zA, zM, zE, zL, zD, zS, zP, zB, zI, zR]) ?_ ?_
  ·intro hb
   try simp only [hB, decide_eq_true_eq, decide_eq_false_iff_not] at hb
   have hd := ydv (i := (j : Int)) (n := n) (by omega) (by omega)
   have hgw := ybo (l := setW b n) (i := ((j : Int).tdiv 64).toNat) (by omega)
   have hwr : IntKind.u64.wrap ((j : Int).tmod 64) = (j : Int).tmod 64 := by simp [IntKind.wrap, IntKind.signed, IntKind.bits]; omega
   have hhw := yl4 (b := b) (j := j) (by omega)
   unfold hasW at hhw
   rw [hrw] at hhw
   have hfs := fillB_succ hrw (i := j) (by omega)
   have hfl := fillB_len hrw (i := j) (by omega)
   refine AW.skip ?_
   refine hK12 _ _ _ ?_; clear hK12
   refine AW.seq fun K14 hK14 => ?_
   refine AW.block ?_
   refine AW.regionK 0 (fun _ => none) [1, 3, 4, 5, 6, 7] [1, 17, 200] ?_
   simp only [go_sem, reduceIte, reduceCtorEq, zA, zM, zE, zL, zD, zS, zP, zB, zI, zR, hrl, hlen, hgr, rowB, hrw, hgw, hwr, hhw, hfl]
   repeat with_reducible refine cj ?_ ?_
   all_goals try first | omega
   refine hK14 _ _ _ ?_; clear hK14
   refine AW.regionK 0 (fun _ => none) [1, 3, 4, 5, 6, 7] [1, 17, 200] ?_
   simp only [go_sem, reduceIte, reduceCtorEq, zA, zM, zE, zL, zD, zS, zP, zB, zI, zR, hrl, hlen]
   repeat with_reducible refine cj ?_ ?_
   all_goals try first | omega
   rw [← hQl2]
   change Exists _
   refine ⟨_, ?hm, j + 1, ?_, ?_, ?_, ?_, ?_, ?_, rfl, ?henv, ?hstore, ?hst⟩
   case henv =>
    repeat' (first | rfl | refine yaa ?_ ?_ | refine yad ?_ ?_ ?_ ?_ | refine yah ?_ | refine yae ?_ | refine yai ?_ | refine yaj ?_ | refine yan ?_ ?_ ?_ | refine yak ?_ ?_ ?_ | refine yal ?_ | refine yaf ?_ ?_ | refine yab ?_ ?_)
    all_goals (first | (simp; done) | omega | (simp; omega))
   case hstore =>
    repeat' (first | rfl | refine yaa ?_ ?_ | refine yad ?_ ?_ ?_ ?_ | refine yah ?_ | refine yae ?_ | refine yai ?_ | refine yaj ?_ | refine yan ?_ ?_ ?_ | refine yak ?_ ?_ ?_ | refine yal ?_ | refine yaf ?_ ?_ | refine yab ?_ ?_)
    all_goals (rw [← hfs])
   case hst =>
    first | trivial | omega | (simp; done) | (simp; omega)
   case hm => omega
  ·intro hb
   try simp only [hB, decide_eq_true_eq, decide_eq_false_iff_not] at hb
   have hj : j = n := by omega
   subst hj
   rw [fillB_all hrw]
   refine AW.exit ?_
   rw [← hQl2]
   refine hK10 _ _ _ ?_; clear hK10
   refine AW.regionK 0 (fun _ => none) [1, 3, 4, 5] [1, 17, 200] ?_
   simp only [go_sem, reduceIte, reduceCtorEq, zA, zM, zE, zL, zD, zS, zP, zB, zI, zR, hrl, hlen, htk, htl]
   repeat with_reducible refine cj ?_ ?_
   all_goals try first | omega | (simp [scP, ybi]; done) | exact ybe _ | exact ybj _ | exact ybf _
   refine hK8 _ _ _ ?_; clear hK8
   refine AW.adoptK 200 i 0 17 ?_
   simp only [go_sem, reduceIte, zE, hgl, hsl, hll]
   repeat refine cj ?_ ?_
   any_goals first | exact noOsl_bools _ | decide | (rw [hrw]; done) | omega
   refine AW.keep [1, 3, 4, 5] [1, 200] ?_
   simp only [go_sem, reduceIte, zE, hap]
   refine AW.regionK 0 (fun _ => none) [1, 3, 4, 5] [1, 200] ?_
   simp only [go_sem, reduceIte, reduceCtorEq, zA, zM, zE, zL, zD, zS, zP, zB, zI, zR, hrl, hlen]
   repeat with_reducible refine cj ?_ ?_
   all_goals try first | omega
   rw [← hQl1]
   change Exists _
   refine ⟨_, ?hm, i + 1, ?_, ?_, ?_, ?_, rfl, ?henv, ?hstore, ?hst⟩
   case henv =>
    repeat' (first | rfl | refine yaa ?_ ?_ | refine yad ?_ ?_ ?_ ?_ | refine yah ?_ | refine yae ?_ | refine yai ?_ | refine yaj ?_ | refine yan ?_ ?_ ?_ | refine yak ?_ ?_ ?_ | refine yal ?_ | refine yaf ?_ ?_ | refine yab ?_ ?_)
    all_goals (first | (simp; done) | omega | (simp; omega))
   case hstore =>
    repeat' (first | rfl | refine yaa ?_ ?_ | refine yad ?_ ?_ ?_ ?_ | refine yah ?_ | refine yae ?_ | refine yai ?_ | refine yaj ?_ | refine yan ?_ ?_ ?_ | refine yak ?_ ?_ ?_ | refine yal ?_ | refine yaf ?_ ?_ | refine yab ?_ ?_)
    all_goals (rw [hti])
   case hst =>
    first | trivial | omega | (simp; done) | (simp; omega)
   case hm => omega
 ·intro hb
  try simp only [hB, decide_eq_true_eq, decide_eq_false_iff_not] at hb
  refine AW.exit ?_
  rw [← hQl1]
  refine hK4 _ _ _ ?_; clear hK4
  refine AW.seq fun K15 hK15 => ?_
  refine AW.regionK 0 (fun _ => none) [2] [200] ?_
  simp only [go_sem, reduceIte, reduceCtorEq, zA, zM, zE, zL, zD, zS, zP, zB, zI, zR, hrl, hlen]
  repeat with_reducible refine cj ?_ ?_
  all_goals try first | omega
  refine hK15 _ _ _ ?_; clear hK15
  refine AW.ret ?_
  rw [← hQr]
  simp only [go_sem, reduceIte, reduceCtorEq, zA, zM, zE, zL, zD, zS, zP, zB, zI, zR, hrl, hlen]
  have hi : i = n := by omega
  subst hi
  rw [List.take_of_length_le (by omega : t.length ≤ i), List.take_of_length_le (by rw [ynr]; omega), vwcF_rowsO]
  exact Wk.refl _
end Go.Proofs.W.R

namespace Go.Proofs.W.R
open Go.AM Go
set_option maxRecDepth 100000
set_option maxHeartbeats 1000000
theorem rpairs_r (n : Nat) (t : List (List Bool)) (hs : Sq n t) (hn : n ≤ 512) : Reads Tryd.prog 62 true [relB t] (.rsl 2 ((yat t n).map ya6)) := by
 have hlen := hs.len
 have htl := yns t
 have ht := table_r n t hs hn
 unfold relB at *
 refine Reads.bodyF (rs := [.tmp 2]) Tryd.func62 rfl Tryd.ntmps62 rfl (by simp) ?_
 generalize hQr : retQ _ _ _ = Qr
 refine AW.seq fun K1 hK1 => ?_
 refine AW.regionK 0 (fun _ => none) [1] [1] ?_
 simp only [go_sem, reduceIte, reduceCtorEq, zA, zM, zE, zL, zD, zS, zP, zB, zI, zR, htl, hlen]
 repeat with_reducible refine cj ?_ ?_
 all_goals try first | omega
 refine hK1 _ _ _ ?_; clear hK1
 refine AW.seq fun K2 hK2 => ?_
 refine AW.regionK 0 (fun ii => if ii = 1 then some (.reads true (.rsl 1 (yii t))) else none) [3] [] ?_
 simp only [go_sem, reduceIte, reduceCtorEq, zA, zM, zE, zL, zD, zS, zP, zB, zI, zR, htl, hlen]
 repeat with_reducible refine cj ?_ ?_
 all_goals try first | (exact ht) | omega | exact ent (by kernel_rfl)
 refine hK2 _ _ _ ?_; clear hK2
 refine AW.seq fun K3 hK3 => ?_
 refine AW.regionK 0 (fun _ => none) [3, 4] [] ?_
 simp only [go_sem, reduceIte, reduceCtorEq, zA, zM, zE, zL, zD, zS, zP, zB, zI, zR, htl, hlen]
 repeat with_reducible refine cj ?_ ?_
 all_goals try first | omega
 refine hK3 _ _ _ ?_; clear hK3
 refine AW.seq fun K4 hK4 => ?_
 refine AW.seq fun K5 hK5 => ?_
 refine AW.regionK 0 (fun _ => none) [3, 4, 5] [] ?_
 simp only [go_sem, reduceIte, reduceCtorEq, zA, zM, zE, zL, zD, zS, zP, zB, zI, zR, htl, hlen]
 repeat with_reducible refine cj ?_ ?_
 all_goals try first | omega
 refine hK5 _ _ _ ?_; clear hK5
 refine AW.block ?_
 refine AW.nilOwn 4 200 2 (by simp only [go_sem, reduceIte, zE]) ?_
 refine AW.keep [3, 4, 5] [200] ?_
 simp only [go_sem, reduceIte, zE]
 refine AW.loopE (fun mm ee ss kk => ∃ (i g v : Nat), n - i = mm ∧ ee = [(3, .rsl 1 (yii t)), (4, .sl ⟨200, g, none⟩ 0 (yav t n i).length none), (5, .int .i64 (i : Nat))] ∧ ss = [(200, some ⟨g, v, 2, (yav t n i).map ya6⟩)] ∧ (i ≤ n)) ?_ ?_
 ·refine ⟨_, 0, ?_, ?_, rfl, ?henv, ?hstore, ?hst⟩
  case henv =>
   repeat' (first | rfl | refine yaa ?_ ?_ | refine yad ?_ ?_ ?_ ?_ | refine yah ?_ | refine yae ?_ | refine yai ?_ | refine yaj ?_ | refine yan ?_ ?_ ?_ | refine yak ?_ ?_ ?_ | refine yal ?_ | refine yaf ?_ ?_ | refine yab ?_ ?_)
   all_goals (first | (simp; done) | omega | (simp; omega))
  case hstore =>
   repeat' (first | rfl | refine yaa ?_ ?_ | refine yad ?_ ?_ ?_ ?_ | refine yah ?_ | refine yae ?_ | refine yai ?_ | refine yaj ?_ | refine yan ?_ ?_ ?_ | refine yak ?_ ?_ ?_ | refine yal ?_ | refine yaf ?_ ?_ | refine yab ?_ ?_)
   all_goals (first | (simp; done) | omega | (simp; omega))
  case hst =>
   first | trivial | omega | (simp; done) | (simp; omega)
 rintro mm ee ss kk ⟨i, g, v, rfl, rfl, rfl, hI⟩
 generalize hQl1 : ybd _ _ = Ql1
 refine AW.seq fun K6 hK6 => ?_
 refine AW.seq fun K7 hK7 => ?_
 refine AW.regionK 0 (fun _ => none) [3, 4, 5, 12] [200] ?_
 simp only [go_sem, reduceIte, reduceCtorEq, zA, zM, zE, zL, zD, zS, zP, zB, zI, zR, htl, hlen]
 repeat with_reducible refine cj ?_ ?_
 all_goals try first | omega
 refine hK7 _ _ _ ?_; clear hK7
 refine AW.cond rfl (by simp only [go_sem, reduceIte, reduceCtorEq, zA, zM, zE, zL, zD, zS, zP, zB, zI, zR]) ?_ ?_
 ·intro hb
  try simp only [hB, decide_eq_true_eq, decide_eq_false_iff_not] at hb
  have hgr := yke (t := t) (i := i) (by omega)
  have hrw := hs.rowLen (i := i) (by omega)
  refine AW.skip ?_
  refine hK6 _ _ _ ?_; clear hK6
  refine AW.seq fun K8 hK8 => ?_
  refine AW.block ?_
  refine AW.seq fun K9 hK9 => ?_
  refine AW.regionK 0 (fun _ => none) [3, 4, 5, 6] [200] ?_
  simp only [go_sem, reduceIte, reduceCtorEq, zA, zM, zE, zL, zD, zS, zP, zB, zI, zR, htl, hlen]
  repeat with_reducible refine cj ?_ ?_
  all_goals try first | omega
  refine hK9 _ _ _ ?_; clear hK9
  refine AW.block ?_
  refine AW.loopE (fun mm ee ss kk => ∃ (j g v : Nat), n - j = mm ∧ ee = [(3, .rsl 1 (yii t)), (4, .sl ⟨200, g, none⟩ 0 (yav t n i ++ yax t i j).length none), (5, .int .i64 (i : Nat)), (6, .int .i64 (j : Nat))] ∧ ss = [(200, some ⟨g, v, 2, (yav t n i ++ yax t i j).map ya6⟩)] ∧ (j ≤ n)) ?_ ?_
  ·refine ⟨_, 0, ?_, ?_, rfl, ?henv, ?hstore, ?hst⟩
   case henv =>
    repeat' (first | rfl | refine yaa ?_ ?_ | refine yad ?_ ?_ ?_ ?_ | refine yah ?_ | refine yae ?_ | refine yai ?_ | refine yaj ?_ | refine yan ?_ ?_ ?_ | refine yak ?_ ?_ ?_ | refine yal ?_ | refine yaf ?_ ?_ | refine yab ?_ ?_)
    all_goals (simp [yax])
   case hstore =>
    repeat' (first | rfl | refine yaa ?_ ?_ | refine yad ?_ ?_ ?_ ?_ | refine yah ?_ | refine yae ?_ | refine yai ?_ | refine yaj ?_ | refine yan ?_ ?_ ?_ | refine yak ?_ ?_ ?_ | refine yal ?_ | refine yaf ?_ ?_ | refine yab ?_ ?_)
    all_goals (simp [yax])
   case hst =>
    first | trivial | omega | (simp; done) | (simp; omega)
  rintro mm ee ss kk ⟨j, g, v, rfl, rfl, rfl, hI⟩
  generalize hQl2 : ybd _ _ = Ql2
  refine AW.seq fun K10 hK10 => ?_
  refine AW.seq fun K11 hK11 => ?_
  refine AW.regionK 0 (fun _ => none) [3, 4, 5, 6, 18] [200] ?_
  simp only [go_sem, reduceIte, reduceCtorEq, zA, zM, zE, zL, zD, zS, zP, zB, zI, zR, htl, hlen]
  repeat with_reducible refine cj ?_ ?_
  all_goals try first | omega
  refine hK11 _ _ _ ?_; clear hK11
  refine AW.cond rfl (by simp only [go_sem, reduceIte, reduceCtorEq, zA, zM, zE, zL, zD, zS, zP, zB, zI, zR]) ?_ ?_
  ·intro hb
   try simp only [hB, decide_eq_true_eq, decide_eq_false_iff_not] at hb
   have hgb := yc0 (l := rowT t i) (i := j) (by omega)
   have hat : atT t i j = (rowT t i).getD j false := rfl
   rw [← hat] at hgb
   have hps := yew t i j
   have hpl := yc1 t n i
   have hrl := ygy t i j
   have hmul : n * i ≤ 262144 := Nat.le_trans (Nat.mul_le_mul hn (by omega : i ≤ 512)) (by decide)
   have hll : (yav t n i ++ yax t i j).length ≤ 300000 := by rw [List.length_append]; omega
   have hml : ((yav t n i ++ yax t i j).map ya6).length = (yav t n i ++ yax t i j).length := by simp
   have htk : ((yav t n i ++ yax t i j).map ya6).take (yav t n i ++ yax t i j).length = (yav t n i ++ yax t i j).map ya6 := List.take_of_length_le (by simp)
   generalize hL : yav t n i ++ yax t i j = L at *
   refine AW.skip ?_
   refine hK10 _ _ _ ?_; clear hK10
   refine AW.seq fun K12 hK12 => ?_
   refine AW.block ?_
   refine AW.seq fun K13 hK13 => ?_
   refine AW.regionK 0 (fun _ => none) [3, 4, 5, 6, 27] [200] ?_
   simp only [go_sem, reduceIte, reduceCtorEq, zA, zM, zE, zL, zD, zS, zP, zB, zI, zR, htl, hlen, hgr, hgb]
   repeat with_reducible refine cj ?_ ?_
   all_goals try first | omega
   refine hK13 _ _ _ ?_; clear hK13
   refine AW.cond rfl (by simp only [go_sem, reduceIte, reduceCtorEq, zA, zM, zE, zL, zD, zS, zP, zB, zI, zR]) ?_ ?_
   ·intro hb
    try simp only [hB, decide_eq_true_eq, decide_eq_false_iff_not] at hb
    rw [if_pos hb] at hps
    have hLs : yav t n i ++ yax t i (j + 1) = L ++ [((i : Int), (j : Int))] := by rw [hps, ← List.append_assoc, hL]
    refine AW.regionK 0 (fun _ => none) [3, 4, 5, 6] [200] ?_
    simp only [go_sem, reduceIte, reduceCtorEq, zA, zM, zE, zL, zD, zS, zP, zB, zI, zR, htl, hlen, htk, hml, yhi]
    repeat with_reducible refine cj ?_ ?_
    all_goals try first | omega | (simp [scP, ybi]; done) | exact ybe _ | exact ybj _ | exact ybf _
    refine hK12 _ _ _ ?_; clear hK12
    refine AW.regionK 0 (fun _ => none) [3, 4, 5, 6] [200] ?_
    simp only [go_sem, reduceIte, reduceCtorEq, zA, zM, zE, zL, zD, zS, zP, zB, zI, zR, htl, hlen]
    repeat with_reducible refine cj ?_ ?_
    all_goals try first | omega
    rw [← hQl2]
    change Exists _
    refine ⟨_, ?hm, j + 1, ?_, ?_, rfl, ?henv, ?hstore, ?hst⟩
    case henv =>
     repeat' (first | rfl | refine yaa ?_ ?_ | refine yad ?_ ?_ ?_ ?_ | refine yah ?_ | refine yae ?_ | refine yai ?_ | refine yaj ?_ | refine yan ?_ ?_ ?_ | refine yak ?_ ?_ ?_ | refine yal ?_ | refine yaf ?_ ?_ | refine yab ?_ ?_)
     all_goals (rw [hLs]; try simp)
    case hstore =>
     repeat' (first | rfl | refine yaa ?_ ?_ | refine yad ?_ ?_ ?_ ?_ | refine yah ?_ | refine yae ?_ | refine yai ?_ | refine yaj ?_ | refine yan ?_ ?_ ?_ | refine yak ?_ ?_ ?_ | refine yal ?_ | refine yaf ?_ ?_ | refine yab ?_ ?_)
     all_goals (rw [hLs])
    case hst =>
     first | trivial | omega | (simp; done) | (simp; omega)
    case hm => omega
   ·intro hb
    try simp only [hB, decide_eq_true_eq, decide_eq_false_iff_not] at hb
    rw [if_neg (by rw [hb]; simp)] at hps
    have hLs : yav t n i ++ yax t i (j + 1) = L := by rw [hps, hL]
    refine AW.skip ?_
    refine hK12 _ _ _ ?_; clear hK12
    refine AW.regionK 0 (fun _ => none) [3, 4, 5, 6] [200] ?_
    simp only [go_sem, reduceIte, reduceCtorEq, zA, zM, zE, zL, zD, zS, zP, zB, zI, zR, htl, hlen]
    repeat with_reducible refine cj ?_ ?_
    all_goals try first | omega
    rw [← hQl2]
    change Exists _
    refine ⟨_, ?hm, j + 1, ?_, ?_, rfl, ?henv, ?hstore, ?hst⟩
    case henv =>
     repeat' (first | rfl | refine yaa ?_ ?_ | refine yad ?_ ?_ ?_ ?_ | refine yah ?_ | refine yae ?_ | refine yai ?_ | refine yaj ?_ | refine yan ?_ ?_ ?_ | refine yak ?_ ?_ ?_ | refine yal ?_ | refine yaf ?_ ?_ | refine yab ?_ ?_)
     all_goals (rw [hLs]; try simp)
    case hstore =>
     repeat' (first | rfl | refine yaa ?_ ?_ | refine yad ?_ ?_ ?_ ?_ | refine yah ?_ | refine yae ?_ | refine yai ?_ | refine yaj ?_ | refine yan ?_ ?_ ?_ | refine yak ?_ ?_ ?_ | refine yal ?_ | refine yaf ?_ ?_ | refine yab ?_ ?_)
     all_goals (rw [hLs])
    case hst =>
     first | trivial | omega | (simp; done) | (simp; omega)
    case hm => omega
  ·intro hb
   try simp only [hB, decide_eq_true_eq, decide_eq_false_iff_not] at hb
   have hj : j = n := by omega
   subst hj
   have hps := yck t j i
   refine AW.exit ?_
   rw [← hQl2]
   refine hK8 _ _ _ ?_; clear hK8
   refine AW.regionK 0 (fun _ => none) [3, 4, 5] [200] ?_
   simp only [go_sem, reduceIte, reduceCtorEq, zA, zM, zE, zL, zD, zS, zP, zB, zI, zR, htl, hlen]
   repeat with_reducible refine cj ?_ ?_
   all_goals try first | omega
   rw [← hQl1]
   change Exists _
   refine ⟨_, ?hm, i + 1, ?_, ?_, rfl, ?henv, ?hstore, ?hst⟩
   case henv =>
    repeat' (first | rfl | refine yaa ?_ ?_ | refine yad ?_ ?_ ?_ ?_ | refine yah ?_ | refine yae ?_ | refine yai ?_ | refine yaj ?_ | refine yan ?_ ?_ ?_ | refine yak ?_ ?_ ?_ | refine yal ?_ | refine yaf ?_ ?_ | refine yab ?_ ?_)
    all_goals (rw [hps])
   case hstore =>
    repeat' (first | rfl | refine yaa ?_ ?_ | refine yad ?_ ?_ ?_ ?_ | refine yah ?_ | refine yae ?_ | refine yai ?_ | refine yaj ?_ | refine yan ?_ ?_ ?_ | refine yak ?_ ?_ ?_ | refine yal ?_ | refine yaf ?_ ?_ | refine yab ?_ ?_)
    all_goals (rw [hps])
   case hst =>
    first | trivial | omega | (simp; done) | (simp; omega)
   case hm => omega
 ·intro hb
  try simp only [hB, decide_eq_true_eq, decide_eq_false_iff_not] at hb
  refine AW.exit ?_
  rw [← hQl1]
  refine hK4 _ _ _ ?_; clear hK4
  refine AW.seq fun K14 hK14 => ?_
  refine AW.regionK 0 (fun _ => none) [2] [200] ?_
  simp only [go_sem, reduceIte, reduceCtorEq, zA, zM, zE, zL, zD, zS, zP, zB, zI, zR, htl, hlen]
  repeat with_reducible refine cj ?_ ?_
  all_goals try first | omega
  refine hK14 _ _ _ ?_; clear hK14
  refine AW.ret ?_
  rw [← hQr]
  simp only [go_sem, reduceIte, reduceCtorEq, zA, zM, zE, zL, zD, zS, zP, zB, zI, zR, htl, hlen]
  have hi : i = n := by omega
  subst hi
  rw [List.take_of_length_le (by simp), yif]
  exact Wk.refl _
end Go.Proofs.W.R

/- A map of pairs as a set; valid graphs. -/
namespace Go.AM
def keyA (e : Int × Int) : AV := .agg [.int .i64 e.1, .int .i64 e.2]
def kvM (e : Int × Int) : List AV := [keyA e, .bool true]
theorem keyEq_pair (a b : Int × Int) : keyEq (keyA a) (keyA b) = decide (a = b) := by
  obtain ⟨a1, a2⟩ := a
  obtain ⟨b1, b2⟩ := b
  simp only [keyA, keyEq, Prod.mk.injEq, Bool.decide_and]
theorem yik (e : Int × Int) : ∀ (l : List (Int × Int)) (i : Nat), (e ∉ l → mapFind (l.map kvM) (keyA e) i = none) ∧ (e ∈ l → ∃ j, mapFind (l.map kvM) (keyA e) i = some (j, .bool true))
  | [], i => ⟨fun _ => rfl, fun h => by cases h⟩
  | a :: l, i => by
    obtain ⟨h1, h2⟩ := yik e l (i + 1)
    simp only [List.map_cons, mapFind]
    have hk : (kvM a).getD 0 .any = keyA a := rfl
    have hv : (kvM a).getD 1 .any = .bool true := rfl
    rw [hk, hv, keyEq_pair]
    by_cases he : e = a
    · subst he
      exact ⟨fun h => absurd (by simp) h, fun _ => ⟨i, by simp⟩⟩
    · simp only [he, decide_false, Bool.false_eq_true, if_false, List.mem_cons, false_or]
      exact ⟨h1, h2⟩
theorem mapB_kv (l : List (Int × Int)) (e : Int × Int) : mapB (l.map kvM) (keyA e) = decide (e ∈ l) := by
  obtain ⟨h1, h2⟩ := yik e l 0
  by_cases he : e ∈ l
  · obtain ⟨j, hj⟩ := h2 he
    simp [mapB, ygp, hj, he]
  · simp [mapB, ygp, h1 he, he]
theorem mapPut_kv {l : List (Int × Int)} {e : Int × Int} (he : e ∉ l) : yg5 (l.map kvM) (keyA e) (.bool true) = (l ++ [e]).map kvM := by
  rw [ydr, (yik e l 0).1 he]
  simp [kvM]
theorem mapWf_kv {P : Program} {kt : TypeId} (h : ∀ e, yca P kt (keyA e) = true) (l : List (Int × Int)) : yq0 P kt none (l.map kvM) := fun row hr => by
  obtain ⟨e, _, rfl⟩ := List.mem_map.1 hr
  exact ⟨_, _, rfl, h e, rfl⟩
theorem keysWf_kv {P : Program} {kt : TypeId} (h : ∀ e, yca P kt (keyA e) = true) (l : List (Int × Int)) : yk3 P kt (l.map kvM) := fun row hr => by
  obtain ⟨e, _, rfl⟩ := List.mem_map.1 hr
  exact ⟨_, _, rfl, h e⟩

def yb8 (n m : Int) (e : Int × Int) : Bool := decide (0 ≤ e.1) && decide (e.1 < n) && decide (0 ≤ e.2) && decide (e.2 < m)
def ykm (n m : Int) (E : List (Int × Int)) : Bool := decide (0 ≤ n) && decide (n ≤ 512) && decide (0 ≤ m) && decide (m ≤ 512) && decide (E.length ≤ 2000)
def yjn (n m : Int) (E : List (Int × Int)) (j : Nat) : Prop := ∀ i e, i < j → E[i]? = some e → yb8 n m e = true ∧ e ∉ E.take i
def yhr (n m : Int) (E : List (Int × Int)) : Bool := ykm n m E && (E.all (yb8 n m) && decide E.Nodup)

theorem goodUpto_all {n m : Int} {E : List (Int × Int)} (h : yjn n m E E.length) : E.all (yb8 n m) = true ∧ E.Nodup := by
  constructor
  · rw [List.all_eq_true]
    intro e he
    obtain ⟨i, hi, rfl⟩ := List.getElem_of_mem he
    exact (h i _ hi (List.getElem?_eq_getElem hi)).1
  · refine List.pairwise_iff_getElem.2 fun i j hi hj hij e => ?_
    have h1 := (h j E[j] hj (List.getElem?_eq_getElem hj)).2
    apply h1
    rw [List.mem_take_iff_getElem]
    exact ⟨i, by omega, e⟩
theorem good_bad {n m : Int} {E : List (Int × Int)} {j : Nat} {e : Int × Int} (he : E[j]? = some e) (hb : yb8 n m e = false ∨ e ∈ E.take j) : yhr n m E = false := by
  have hj := (List.getElem?_eq_some_iff.1 he).1
  have hm : e ∈ E := List.mem_of_getElem? he
  unfold yhr
  rcases hb with h1 | h1
  · have : E.all (yb8 n m) = false := by
      rw [List.all_eq_false]
      exact ⟨e, hm, by simp [h1]⟩
    simp [this]
  · have : ¬ E.Nodup := fun hn => by
      rw [List.mem_take_iff_getElem] at h1
      obtain ⟨i, hi, e1⟩ := h1
      refine List.pairwise_iff_getElem.1 hn i j (by omega) hj (by omega) ?_
      rw [e1]
      exact ((List.getElem?_eq_some_iff.1 he).2).symm
    simp [this]
theorem goodUpto_succ {n m : Int} {E : List (Int × Int)} {j : Nat} {e : Int × Int} (h : yjn n m E j) (he : E[j]? = some e) (h1 : yb8 n m e = true) (h2 : e ∉ E.take j) : yjn n m E (j + 1) := fun i x hi hx => by
  by_cases hij : i = j
  · subst hij
    rw [he] at hx
    obtain rfl := Option.some.inj hx
    exact ⟨h1, h2⟩
  · exact h i x (by omega) hx
theorem edgeIn_iff {n m : Int} {e : Int × Int} : yb8 n m e = true ↔ 0 ≤ e.1 ∧ e.1 < n ∧ 0 ≤ e.2 ∧ e.2 < m := by
  simp [yb8, and_assoc]
theorem edgeIn_false {n m : Int} {e : Int × Int} (h : e.1 < 0 ∨ n ≤ e.1 ∨ e.2 < 0 ∨ m ≤ e.2) : yb8 n m e = false := by
  cases hh : yb8 n m e
  · rfl
  · have := edgeIn_iff.1 hh; omega

def yil (nb : List (List Int)) (e : Int × Int) : List (List Int) := nb.set e.1.toNat (nb.getD e.1.toNat [] ++ [e.2])
def nbOf (n : Nat) (E : List (Int × Int)) : List (List Int) := E.foldl yil (List.replicate n [])
theorem nbOf_succ {n : Nat} {E : List (Int × Int)} {j : Nat} {e : Int × Int} (h : E[j]? = some e) : nbOf n (E.take (j + 1)) = yil (nbOf n (E.take j)) e := by
  unfold nbOf
  rw [List.take_add_one, h, List.foldl_append]; rfl
theorem foldl_nb_len (E : List (Int × Int)) : ∀ nb : List (List Int), (E.foldl yil nb).length = nb.length := by
  induction E with
  | nil => intro nb; rfl
  | cons e E ih => intro nb; rw [List.foldl_cons, ih]; simp [yil]
theorem yf4 (n : Nat) (E : List (Int × Int)) : (nbOf n E).length = n := by unfold nbOf; rw [foldl_nb_len]; simp
theorem foldl_nb_row (E : List (Int × Int)) : ∀ (nb : List (List Int)) (c : Nat), (∀ row ∈ nb, row.length ≤ c) → ∀ row ∈ E.foldl yil nb, row.length ≤ c + E.length := by
  induction E with
  | nil => intro nb c h; simpa using h
  | cons e E ih =>
    intro nb c h row hr
    rw [List.foldl_cons] at hr
    have := ih (yil nb e) (c + 1) (fun row hr => by
      rcases List.mem_or_eq_of_mem_set hr with h1 | rfl
      · have := h row h1; omega
      · rw [List.length_append]
        by_cases hi : e.1.toNat < nb.length
        · have := h _ (yb1 hi []); simp only [List.length_cons, List.length_nil]; omega
        · rw [getD_out (by omega)]; simp) row hr
    simp only [List.length_cons]; omega
theorem ymj (n : Nat) (E : List (Int × Int)) : ∀ row ∈ nbOf n E, row.length ≤ E.length := fun row hr => by
  have := foldl_nb_row E (List.replicate n []) 0 (fun row hr => by rw [List.eq_of_mem_replicate hr]; simp) row hr
  omega
theorem foldl_nb_rng (m : Int) (E : List (Int × Int)) (hE : ∀ e ∈ E, 0 ≤ e.2 ∧ e.2 < m) : ∀ (nb : List (List Int)), (∀ row ∈ nb, ∀ r ∈ row, 0 ≤ r ∧ r < m) → ∀ row ∈ E.foldl yil nb, ∀ r ∈ row, 0 ≤ r ∧ r < m := by
  induction E with
  | nil => intro nb h; simpa using h
  | cons e E ih =>
    intro nb h
    rw [List.foldl_cons]
    refine ih (fun e' he' => hE e' (by simp [he'])) _ fun row hr r hrr => ?_
    rcases List.mem_or_eq_of_mem_set hr with h1 | rfl
    · exact h row h1 r hrr
    · rcases List.mem_append.1 hrr with h2 | h2
      · by_cases hi : e.1.toNat < nb.length
        · exact h _ (yb1 hi []) r h2
        · rw [getD_out (by omega)] at h2; cases h2
      · simp only [List.mem_singleton] at h2
        subst h2
        exact hE e (by simp)
theorem ymk {n : Nat} {m : Int} {E : List (Int × Int)} (hE : ∀ e ∈ E, 0 ≤ e.2 ∧ e.2 < m) : ∀ row ∈ nbOf n E, ∀ r ∈ row, 0 ≤ r ∧ r < m :=
  foldl_nb_rng m E hE _ fun row hr r h => by rw [List.eq_of_mem_replicate hr] at h; cases h

/-- The matching after the first j left nodes. -/
def maxLR (nb : List (List Int)) (n m : Nat) : Nat → List Int × List Int
  | 0 => (List.replicate n (-1), List.replicate m (-1))
  | j + 1 => (mtry nb (m + 1) j (List.replicate m false) (maxLR nb n m j).1 (maxLR nb n m j).2).2.2
theorem mok_start {n m : Nat} {nb : List (List Int)} (h1 : nb.length = n) (h2 : ∀ row ∈ nb, ∀ r ∈ row, 0 ≤ r ∧ r < (m : Int)) : MOk n m nb (List.replicate m false) (List.replicate n (-1)) (List.replicate m (-1)) :=
  ⟨⟨h1, h2⟩, by simp, ⟨by simp, fun x hx => by rw [List.eq_of_mem_replicate hx]; omega⟩, ⟨by simp, fun x hx => by rw [List.eq_of_mem_replicate hx]; omega⟩⟩
theorem MOk.unseen {n m : Nat} {nb : List (List Int)} {s : List Bool} {L R : List Int} (h : MOk n m nb s L R) : MOk n m nb (List.replicate m false) L R := ⟨h.hnb, by simp, h.hL, h.hR⟩
theorem yml {n m : Nat} {nb : List (List Int)} (h1 : nb.length = n) (h2 : ∀ row ∈ nb, ∀ r ∈ row, 0 ≤ r ∧ r < (m : Int)) : ∀ j, j ≤ n → MOk n m nb (List.replicate m false) (maxLR nb n m j).1 (maxLR nb n m j).2
  | 0, _ => mok_start h1 h2
  | j + 1, hj => (yef (m + 1) (j : Int) _ _ _ (by omega) (yml h1 h2 j (by omega))).1.unseen

/-- The pairs of a matching, by its left side. -/
def prsL (L : List Int) (j : Nat) : List (Int × Int) := ((List.range j).filter fun i => decide (0 ≤ L.getD i 0)).map fun (i : Nat) => ((i : Int), L.getD i 0)
theorem prsL_succ (L : List Int) (j : Nat) : prsL L (j + 1) = if 0 ≤ L.getD j 0 then prsL L j ++ [((j : Int), L.getD j 0)] else prsL L j := by
  unfold prsL
  rw [List.range_succ, List.filter_append, List.map_append]
  by_cases h : 0 ≤ L.getD j 0
  · rw [if_pos h]; simp only [List.filter_cons, h, decide_true, if_true, List.filter_nil, List.map_cons, List.map_nil]
  · rw [if_neg h]; simp only [List.filter_cons, h, decide_false, Bool.false_eq_true, if_false, List.filter_nil, List.map_nil, List.append_nil]
theorem yrp (L : List Int) (j : Nat) : (prsL L j).length ≤ j := by
  unfold prsL
  rw [List.length_map]
  have := List.length_filter_le (fun i => decide (0 ≤ L.getD i 0)) (List.range j)
  simpa using this

def yoy (E P : List (Int × Int)) : Bool := (P.all fun p => decide (p ∈ E)) && (decide (P.map (·.1)).Nodup && decide (P.map (·.2)).Nodup)
theorem ygi {f : Int × Int → Int} {l : List (Int × Int)} {p : Int × Int} (h : (l.map f).Nodup) (hp : (l.any fun q => decide (f q = f p)) = false) : ((l ++ [p]).map f).Nodup := by
  rw [List.map_append]
  refine List.nodup_append.2 ⟨h, by simp, ?_⟩
  intro a ha b hb e
  simp only [List.map_cons, List.map_nil, List.mem_singleton] at hb
  subst hb; subst e
  obtain ⟨q, hq, hfq⟩ := List.mem_map.1 ha
  rw [List.any_eq_false] at hp
  exact hp q hq (by simp [hfq])
theorem yhs {f : Int × Int → Int} {P : List (Int × Int)} {j : Nat} {p : Int × Int} (hp : P[j]? = some p) (h : ((P.take j).any fun q => decide (f q = f p)) = true) : ¬ (P.map f).Nodup := fun hn => by
  rw [List.any_eq_true] at h
  obtain ⟨q, hq, hfq⟩ := h
  rw [decide_eq_true_eq] at hfq
  rw [List.mem_take_iff_getElem] at hq
  obtain ⟨i, hi, e1⟩ := hq
  have hj := (List.getElem?_eq_some_iff.1 hp).1
  refine List.pairwise_iff_getElem.1 hn i j (by simp; omega) (by simpa using hj) (by omega) ?_
  simp only [List.getElem_map]
  rw [e1, (List.getElem?_eq_some_iff.1 hp).2, hfq]
end Go.AM

namespace Go.Proofs.W.M
open Go.AM Go
set_option maxRecDepth 100000
set_option maxHeartbeats 2000000
theorem yrq (e : Int × Int) : yca Tryd.prog 71 (keyA e) = true := by
 simp only [keyA, yca, arD71, inD3, tyd3]; rfl
theorem mvalid_r (n m : Int) (E : List (Int × Int)) (hl : E.length ≤ 9223372036854775807) : Reads Tryd.prog 81 false [.int .i64 n, .int .i64 m, .rsl 2 (E.map ya6)] (.bool (yhr n m E)) := by
 refine Reads.body (rs := [.tmp 6]) Tryd.func81 rfl Tryd.ntmps81 rfl (by simp) ?_
 generalize hQr : retQ _ _ _ = Qr
 refine AW.seq fun K1 hK1 => ?_
 refine AW.regionK 0 (fun _ => none) [0, 1, 2] [] ?_
 simp only [go_sem, reduceIte, reduceCtorEq, zA, zM, zE, zL, zD, zS, zP, zB, zI, zR]
 repeat with_reducible refine cj ?_ ?_
 all_goals try first | omega
 refine hK1 _ _ _ ?_; clear hK1
 refine AW.seq fun K2 hK2 => ?_
 refine AW.seq fun K3 hK3 => ?_
 refine AW.regionK 0 (fun _ => none) [0, 1, 2, 28] [] ?_
 simp only [go_sem, reduceIte, reduceCtorEq, zA, zM, zE, zL, zD, zS, zP, zB, zI, zR]
 repeat with_reducible refine cj ?_ ?_
 all_goals try first | omega | (intros; (repeat' apply And.intro) <;> first | assumption | omega | decide) | (intro hgd; exact absurd hgd (by decide)) | rfl | (simp only [go_sem, reduceIte, reduceCtorEq, zA, zM, zE, zL, zD, zS, zP, zB, zI, zR]; done) | (intro _hgd; simp_all [go_sem]; done)
 refine hK3 _ _ _ ?_; clear hK3
 refine AW.cond rfl (by simp only [go_sem, reduceIte, reduceCtorEq, zA, zM, zE, zL, zD, zS, zP, zB, zI, zR]) ?_ ?_
 ·intro hb
  try simp only [hB, decide_eq_true_eq, decide_eq_false_iff_not] at hb
  refine AW.seq fun K4 hK4 => ?_
  refine AW.regionK 0 (fun _ => none) [6] [] ?_
  simp only [go_sem, reduceIte, reduceCtorEq, zA, zM, zE, zL, zD, zS, zP, zB, zI, zR]
  repeat with_reducible refine cj ?_ ?_
  all_goals try first | omega
  refine hK4 _ _ _ ?_; clear hK4
  refine AW.ret ?_
  rw [← hQr]
  simp only [go_sem, reduceIte, reduceCtorEq, zA, zM, zE, zL, zD, zS, zP, zB, zI, zR]
  have hsz : ykm n m E = false := by simp only [ykm, hB.2.2.2.2.1, decide_eq_false_iff_not]; omega
  exact Wk.of_eq (by rw [yhr, hsz]; rfl)
 ·intro hb
  try simp only [hB, decide_eq_true_eq, decide_eq_false_iff_not] at hb
  have hsz : ykm n m E = true := by simp only [ykm, hB.2.1, decide_eq_true_eq]; omega
  obtain ⟨⟨⟨⟨q1, q2⟩, q3⟩, q4⟩, q5⟩ := hb
  refine AW.skip ?_
  refine hK2 _ _ _ ?_; clear hK2
  refine AW.seq fun K5 hK5 => ?_
  refine AW.regionK 0 (fun _ => none) [0, 1, 2, 7] [29] ?_
  simp only [go_sem, reduceIte, reduceCtorEq, zA, zM, zE, zL, zD, zS, zP, zB, zI, zR]
  repeat with_reducible refine cj ?_ ?_
  all_goals try first | omega
  refine hK5 _ _ _ ?_; clear hK5
  refine AW.seq fun K6 hK6 => ?_
  refine AW.seq fun K7 hK7 => ?_
  refine AW.regionK 0 (fun _ => none) [0, 1, 7, 30, 31, 32] [29] ?_
  simp only [go_sem, reduceIte, reduceCtorEq, zA, zM, zE, zL, zD, zS, zP, zB, zI, zR]
  repeat with_reducible refine cj ?_ ?_
  all_goals try first | omega
  refine hK7 _ _ _ ?_; clear hK7
  refine AW.block ?_
  refine AW.loopE (fun mm ee ss kk => ∃ (j g v : Nat), E.length - j = mm ∧ ee = [(0, .int .i64 n), (1, .int .i64 m), (7, .mp ⟨29, g, none⟩), (30, .rsl 2 (E.map ya6)), (31, .int .i64 E.length), (32, .int .i64 (j : Nat))] ∧ ss = [(29, some ⟨g, v, ya9, (E.take j).map kvM⟩)] ∧ (j ≤ E.length ∧ yjn n m E j)) ?_ ?_
  ·refine ⟨_, 0, ?_, ?_, rfl, ?henv, ?hstore, ?hst⟩
   case henv =>
    repeat' (first | rfl | refine yaa ?_ ?_ | refine yad ?_ ?_ ?_ ?_ | refine yah ?_ | refine yae ?_ | refine yai ?_ | refine yaj ?_ | refine yan ?_ ?_ ?_ | refine yak ?_ ?_ ?_ | refine yal ?_ | refine yaf ?_ ?_ | refine yab ?_ ?_)
    all_goals (first | (simp; done) | omega | (simp; omega))
   case hstore =>
    repeat' (first | rfl | refine yaa ?_ ?_ | refine yad ?_ ?_ ?_ ?_ | refine yah ?_ | refine yae ?_ | refine yai ?_ | refine yaj ?_ | refine yan ?_ ?_ ?_ | refine yak ?_ ?_ ?_ | refine yal ?_ | refine yaf ?_ ?_ | refine yab ?_ ?_)
    all_goals (first | (simp; done) | omega | (simp; omega))
   case hst =>
    exact ⟨by simp, fun i e hi => by omega⟩
  rintro mm ee ss kk ⟨j, g, v, rfl, rfl, rfl, hI⟩
  generalize hQl1 : ybd _ _ = Ql1
  obtain ⟨hj, hgu⟩ := hI
  refine AW.seq fun K8 hK8 => ?_
  refine AW.regionK 0 (fun _ => none) [0, 1, 7, 30, 31, 32, 33] [29] ?_
  simp only [go_sem, reduceIte, reduceCtorEq, zA, zM, zE, zL, zD, zS, zP, zB, zI, zR]
  repeat with_reducible refine cj ?_ ?_
  all_goals try first | omega
  refine hK8 _ _ _ ?_; clear hK8
  refine AW.seq fun K9 hK9 => ?_
  refine AW.cond rfl (by simp only [go_sem, reduceIte, reduceCtorEq, zA, zM, zE, zL, zD, zS, zP, zB, zI, zR]) ?_ ?_
  ·intro hb
   try simp only [hB, decide_eq_true_eq, decide_eq_false_iff_not] at hb
   obtain ⟨e, he⟩ := getI (l := E) (j := j) (by omega)
   have hge := getV (f := ya6) he
   have hmb := mapB_kv (E.take j) e
   have hwf := mapWf_kv (P := Tryd.prog) yrq (E.take j)
   have hkf := keysWf_kv (P := Tryd.prog) yrq (E.take j)
   have hts : E.take (j + 1) = E.take j ++ [e] := by rw [List.take_add_one, he]; rfl
   unfold keyA at hmb
   refine AW.skip ?_
   refine hK9 _ _ _ ?_; clear hK9
   refine AW.seq fun K10 hK10 => ?_
   refine AW.block ?_
   refine AW.seq fun K11 hK11 => ?_
   refine AW.regionK 0 (fun _ => none) [0, 1, 7, 9, 30, 31, 32] [9, 29] ?_
   simp only [go_sem, reduceIte, reduceCtorEq, zA, zM, zE, zL, zD, zS, zP, zB, zI, zR, hge, ya6]
   repeat with_reducible refine cj ?_ ?_
   all_goals try first | omega
   refine hK11 _ _ _ ?_; clear hK11
   refine AW.seq fun K12 hK12 => ?_
   refine AW.seq fun K13 hK13 => ?_
   refine AW.regionK 0 (fun _ => none) [0, 1, 7, 9, 30, 31, 32, 60] [9, 29] ?_
   simp only [go_sem, reduceIte, reduceCtorEq, zA, zM, zE, zL, zD, zS, zP, zB, zI, zR, hmb]
   repeat with_reducible refine cj ?_ ?_
   all_goals try first | ((intros; exact hwf)) | (intros; (repeat' apply And.intro) <;> first | assumption | ((intros; exact hwf))) | omega | (intro hgd; exact absurd hgd (by decide)) | rfl | (simp only [go_sem, reduceIte, reduceCtorEq, zA, zM, zE, zL, zD, zS, zP, zB, zI, zR, hmb]; done) | (intro _hgd; simp_all [go_sem]; done)
   refine hK13 _ _ _ ?_; clear hK13
   refine AW.cond rfl (by simp only [go_sem, reduceIte, reduceCtorEq, zA, zM, zE, zL, zD, zS, zP, zB, zI, zR]) ?_ ?_
   ·intro hb
    try simp only [hB, decide_eq_true_eq, decide_eq_false_iff_not] at hb
    refine AW.seq fun K14 hK14 => ?_
    refine AW.regionK 0 (fun _ => none) [6] [9, 29] ?_
    simp only [go_sem, reduceIte, reduceCtorEq, zA, zM, zE, zL, zD, zS, zP, zB, zI, zR]
    repeat with_reducible refine cj ?_ ?_
    all_goals try first | omega
    refine hK14 _ _ _ ?_; clear hK14
    refine AW.ret ?_
    rw [← hQl1]
    rw [← hQr]
    simp only [go_sem, reduceIte, reduceCtorEq, zA, zM, zE, zL, zD, zS, zP, zB, zI, zR]
    exact Wk.of_eq (by rw [good_bad he]; rcases hb with hb | hb; exact .inl (edgeIn_false (by omega)); exact .inr hb)
   ·intro hb
    try simp only [hB, decide_eq_true_eq, decide_eq_false_iff_not] at hb
    obtain ⟨hb, hnm⟩ := hb
    have hgs := goodUpto_succ hgu he (edgeIn_iff.2 (by omega)) hnm
    have hmp := mapPut_kv hnm
    unfold keyA at hmp
    refine AW.skip ?_
    refine hK12 _ _ _ ?_; clear hK12
    refine AW.regionK 0 (fun _ => none) [0, 1, 7, 30, 31, 32] [29] ?_
    simp only [go_sem, reduceIte, reduceCtorEq, zA, zM, zE, zL, zD, zS, zP, zB, zI, zR, hmp, ← hts]
    repeat with_reducible refine cj ?_ ?_
    all_goals try first | (exact hkf) | omega
    refine hK10 _ _ _ ?_; clear hK10
    refine AW.regionK 0 (fun _ => none) [0, 1, 7, 30, 31, 32] [29] ?_
    simp only [go_sem, reduceIte, reduceCtorEq, zA, zM, zE, zL, zD, zS, zP, zB, zI, zR]
    repeat with_reducible refine cj ?_ ?_
    all_goals try first | omega
    rw [← hQl1]
    change Exists _
    refine ⟨_, ?hm, j + 1, ?_, ?_, rfl, ?henv, ?hstore, ?hst⟩
    case henv =>
     repeat' (first | rfl | refine yaa ?_ ?_ | refine yad ?_ ?_ ?_ ?_ | refine yah ?_ | refine yae ?_ | refine yai ?_ | refine yaj ?_ | refine yan ?_ ?_ ?_ | refine yak ?_ ?_ ?_ | refine yal ?_ | refine yaf ?_ ?_ | refine yab ?_ ?_)
     all_goals (first | (simp; done) | omega | (simp; omega))
    case hstore =>
     repeat' (first | rfl | refine yaa ?_ ?_ | refine yad ?_ ?_ ?_ ?_ | refine yah ?_ | refine yae ?_ | refine yai ?_ | refine yaj ?_ | refine yan ?_ ?_ ?_ | refine yak ?_ ?_ ?_ | refine yal ?_ | refine yaf ?_ ?_ | refine yab ?_ ?_)
     all_goals (first | (simp; done) | omega | (simp; omega))
    case hst =>
     exact ⟨by omega, hgs⟩
    case hm => omega
  ·intro hb
   try simp only [hB, decide_eq_true_eq, decide_eq_false_iff_not] at hb
   have hj : j = E.length := by omega
   subst hj
   obtain ⟨ha, hn⟩ := goodUpto_all hgu
   refine AW.keep [] [] ?_
   try simp only [go_sem, reduceIte, reduceCtorEq, zA, zM, zE, zL, zD, zS, zP, zB, zI, zR]
   refine AW.exit ?_
   rw [← hQl1]
   refine hK6 _ _ _ ?_; clear hK6
   refine AW.seq fun K15 hK15 => ?_
   refine AW.regionK 0 (fun _ => none) [6] [] ?_
   simp only [go_sem, reduceIte, reduceCtorEq, zA, zM, zE, zL, zD, zS, zP, zB, zI, zR]
   repeat with_reducible refine cj ?_ ?_
   all_goals try first | omega
   refine hK15 _ _ _ ?_; clear hK15
   refine AW.ret ?_
   rw [← hQr]
   simp only [go_sem, reduceIte, reduceCtorEq, zA, zM, zE, zL, zD, zS, zP, zB, zI, zR]
   exact Wk.of_eq (by rw [yhr, hsz, ha]; simp [hn])
end Go.Proofs.W.M

namespace Go.Proofs.W.M
open Go.AM Go
set_option maxRecDepth 100000
set_option maxHeartbeats 1000000
theorem wrap_small {z : Int} (h0 : 0 ≤ z) (h1 : z < 18446744073709551616) : IntKind.u64.wrap z = z := by simp [IntKind.wrap, IntKind.signed, IntKind.bits]; omega
theorem yrr {n : Nat} (h : n < 4294967296) : bAnd .u64 (n : Int) 4294967295 = n := by
 rw [show (4294967295 : Int) = ((4294967295 : Nat) : Int) from rfl, ydj (by omega) (by decide)]
 have := Nat.and_two_pow_sub_one_eq_mod n 32
 simp only [zP, zS] at this
 rw [this, Nat.mod_eq_of_lt h]
theorem ys3 {n : Nat} (h : n < 4294967296) : bShr .u64 (n : Int) 32 = 0 := by
 rw [show (32 : Int) = ((32 : Nat) : Int) from rfl, yfz (by decide), Nat.shiftRight_eq_div_pow, Nat.div_eq_of_lt (by simpa using h)]; rfl
def repC (a : Int) (n c : Nat) : List Int := List.replicate c a ++ List.replicate (n - c) 0
theorem repC_take (a : Int) {n c : Nat} (h : c ≤ n) : (repC a n c).take c = List.replicate c a := by
 unfold repC; rw [List.take_append_of_le_length (by simp)]; simp
theorem repC_step (a : Int) {n c : Nat} (h : c ≤ n) : ints ((repC a n c).take c) ++ ints (((repC a n c).take c).take (min ((repC a n c).take c).length (n - c))) ++ (ints (repC a n c)).drop (c + min ((repC a n c).take c).length (n - c)) = ints (repC a n (c + min (n - c) c)) := by
 rw [repC_take a h, List.length_replicate, List.take_replicate, ints_drop]
 have e : min (min c (n - c)) c = min (n - c) c := by omega
 have e2 : min c (n - c) = min (n - c) c := by omega
 rw [e, e2]
 generalize hm : min (n - c) c = m
 have hd : (repC a n c).drop (c + m) = List.replicate (n - (c + m)) 0 := by
  unfold repC
  rw [List.drop_append, List.length_replicate, List.drop_of_length_le (by simp), List.drop_replicate, show c + m - c = m by omega, show n - c - m = n - (c + m) by omega]; simp
 rw [hd]
 unfold repC
 simp only [ints, List.map_append, ← List.replicate_append_replicate, List.append_assoc]
end Go.Proofs.W.M

namespace Go.Proofs.W.M
open Go.AM Go
set_option maxRecDepth 100000
set_option maxHeartbeats 1000000
theorem mul64_r (n : Nat) (hn : n < 4294967296) : Reads Tryd.prog 94 false [.int .u64 1, .int .u64 n] (.tup [.int .u64 0, .int .u64 n]) := by
 have h1 : bAnd .u64 1 4294967295 = 1 := yrr (n := 1) (by decide)
 have h2 : bShr .u64 1 32 = 0 := ys3 (n := 1) (by decide)
 have h3 := yrr hn
 have h4 := ys3 hn
 have h5 : bAnd .u64 0 4294967295 = 0 := yrr (n := 0) (by decide)
 have h6 : bShr .u64 0 32 = 0 := ys3 (n := 0) (by decide)
 have h7 : IntKind.u64.wrap (n : Int) = n := wrap_small (by omega) (by omega)
 have h8 : IntKind.u64.wrap 0 = 0 := rfl
 refine Reads.body (rs := [.tmp 4, .tmp 5]) Tryd.func94 rfl Tryd.ntmps94 rfl (by simp) ?_
 generalize hQr : retQ _ _ _ = Qr
 refine AW.seq fun K1 hK1 => ?_
 refine AW.regionK 0 (fun _ => none) [0, 1] [] ?_
 simp only [go_sem, reduceIte, reduceCtorEq, zA, zM, zE, zL, zD, zS, zP, zB, zI, zR, h1, h2, h3, h4, h5, h6, h7, h8, Int.one_mul, Int.zero_mul, Int.mul_zero, Int.add_zero]
 repeat with_reducible refine cj ?_ ?_
 all_goals try first | omega
 refine hK1 _ _ _ ?_; clear hK1
 refine AW.seq fun K2 hK2 => ?_
 refine AW.regionK 0 (fun _ => none) [0, 1, 6] [] ?_
 simp only [go_sem, reduceIte, reduceCtorEq, zA, zM, zE, zL, zD, zS, zP, zB, zI, zR, h1, h2, h3, h4, h5, h6, h7, h8, Int.one_mul, Int.zero_mul, Int.mul_zero, Int.add_zero]
 repeat with_reducible refine cj ?_ ?_
 all_goals try first | omega
 refine hK2 _ _ _ ?_; clear hK2
 refine AW.seq fun K3 hK3 => ?_
 refine AW.regionK 0 (fun _ => none) [0, 1, 6, 7] [] ?_
 simp only [go_sem, reduceIte, reduceCtorEq, zA, zM, zE, zL, zD, zS, zP, zB, zI, zR, h1, h2, h3, h4, h5, h6, h7, h8, Int.one_mul, Int.zero_mul, Int.mul_zero, Int.add_zero]
 repeat with_reducible refine cj ?_ ?_
 all_goals try first | omega
 refine hK3 _ _ _ ?_; clear hK3
 refine AW.seq fun K4 hK4 => ?_
 refine AW.regionK 0 (fun _ => none) [0, 1, 6, 7, 8] [] ?_
 simp only [go_sem, reduceIte, reduceCtorEq, zA, zM, zE, zL, zD, zS, zP, zB, zI, zR, h1, h2, h3, h4, h5, h6, h7, h8, Int.one_mul, Int.zero_mul, Int.mul_zero, Int.add_zero]
 repeat with_reducible refine cj ?_ ?_
 all_goals try first | omega
 refine hK4 _ _ _ ?_; clear hK4
 refine AW.seq fun K5 hK5 => ?_
 refine AW.regionK 0 (fun _ => none) [0, 1, 6, 7, 8, 9] [] ?_
 simp only [go_sem, reduceIte, reduceCtorEq, zA, zM, zE, zL, zD, zS, zP, zB, zI, zR, h1, h2, h3, h4, h5, h6, h7, h8, Int.one_mul, Int.zero_mul, Int.mul_zero, Int.add_zero]
 repeat with_reducible refine cj ?_ ?_
 all_goals try first | omega
 refine hK5 _ _ _ ?_; clear hK5
 refine AW.seq fun K6 hK6 => ?_
 refine AW.regionK 0 (fun _ => none) [0, 1, 6, 7, 8, 9, 10] [] ?_
 simp only [go_sem, reduceIte, reduceCtorEq, zA, zM, zE, zL, zD, zS, zP, zB, zI, zR, h1, h2, h3, h4, h5, h6, h7, h8, Int.one_mul, Int.zero_mul, Int.mul_zero, Int.add_zero]
 repeat with_reducible refine cj ?_ ?_
 all_goals try first | omega
 refine hK6 _ _ _ ?_; clear hK6
 refine AW.seq fun K7 hK7 => ?_
 refine AW.regionK 0 (fun _ => none) [0, 1, 6, 7, 9, 11] [] ?_
 simp only [go_sem, reduceIte, reduceCtorEq, zA, zM, zE, zL, zD, zS, zP, zB, zI, zR, h1, h2, h3, h4, h5, h6, h7, h8, Int.one_mul, Int.zero_mul, Int.mul_zero, Int.add_zero]
 repeat with_reducible refine cj ?_ ?_
 all_goals try first | omega
 refine hK7 _ _ _ ?_; clear hK7
 refine AW.seq fun K8 hK8 => ?_
 refine AW.regionK 0 (fun _ => none) [0, 1, 6, 7, 9, 11, 12] [] ?_
 simp only [go_sem, reduceIte, reduceCtorEq, zA, zM, zE, zL, zD, zS, zP, zB, zI, zR, h1, h2, h3, h4, h5, h6, h7, h8, Int.one_mul, Int.zero_mul, Int.mul_zero, Int.add_zero]
 repeat with_reducible refine cj ?_ ?_
 all_goals try first | omega
 refine hK8 _ _ _ ?_; clear hK8
 refine AW.seq fun K9 hK9 => ?_
 refine AW.regionK 0 (fun _ => none) [0, 1, 6, 7, 9, 12, 13] [] ?_
 simp only [go_sem, reduceIte, reduceCtorEq, zA, zM, zE, zL, zD, zS, zP, zB, zI, zR, h1, h2, h3, h4, h5, h6, h7, h8, Int.one_mul, Int.zero_mul, Int.mul_zero, Int.add_zero]
 repeat with_reducible refine cj ?_ ?_
 all_goals try first | omega
 refine hK9 _ _ _ ?_; clear hK9
 refine AW.seq fun K10 hK10 => ?_
 refine AW.regionK 0 (fun _ => none) [0, 1, 7, 9, 12, 13] [] ?_
 simp only [go_sem, reduceIte, reduceCtorEq, zA, zM, zE, zL, zD, zS, zP, zB, zI, zR, h1, h2, h3, h4, h5, h6, h7, h8, Int.one_mul, Int.zero_mul, Int.mul_zero, Int.add_zero]
 repeat with_reducible refine cj ?_ ?_
 all_goals try first | omega
 refine hK10 _ _ _ ?_; clear hK10
 refine AW.seq fun K11 hK11 => ?_
 refine AW.regionK 0 (fun _ => none) [0, 1, 4] [] ?_
 simp only [go_sem, reduceIte, reduceCtorEq, zA, zM, zE, zL, zD, zS, zP, zB, zI, zR, h1, h2, h3, h4, h5, h6, h7, h8, Int.one_mul, Int.zero_mul, Int.mul_zero, Int.add_zero]
 repeat with_reducible refine cj ?_ ?_
 all_goals try first | omega
 refine hK11 _ _ _ ?_; clear hK11
 refine AW.seq fun K12 hK12 => ?_
 refine AW.regionK 0 (fun _ => none) [4, 5] [] ?_
 simp only [go_sem, reduceIte, reduceCtorEq, zA, zM, zE, zL, zD, zS, zP, zB, zI, zR, h1, h2, h3, h4, h5, h6, h7, h8, Int.one_mul, Int.zero_mul, Int.mul_zero, Int.add_zero]
 repeat with_reducible refine cj ?_ ?_
 all_goals try first | omega
 refine hK12 _ _ _ ?_; clear hK12
 refine AW.ret ?_
 rw [← hQr]
 simp only [go_sem, reduceIte, reduceCtorEq, zA, zM, zE, zL, zD, zS, zP, zB, zI, zR, h1, h2, h3, h4, h5, h6, h7, h8, Int.one_mul, Int.zero_mul, Int.mul_zero, Int.add_zero]
 exact Wk.refl _
theorem mul_r (n : Nat) (hn : n < 4294967296) : Reads Tryd.prog 84 false [.int .u64 1, .int .u64 n] (.tup [.int .u64 0, .int .u64 n]) := by
 have h := mul64_r n hn
 refine Reads.body (rs := [.tmp 4, .tmp 5]) Tryd.func84 rfl Tryd.ntmps84 rfl (by simp) ?_
 generalize hQr : retQ _ _ _ = Qr
 refine AW.seq fun K1 hK1 => ?_
 refine AW.regionK 0 (fun _ => none) [0, 1] [] ?_
 simp only [go_sem, reduceIte, reduceCtorEq, zA, zM, zE, zL, zD, zS, zP, zB, zI, zR]
 repeat with_reducible refine cj ?_ ?_
 all_goals try first | omega
 refine hK1 _ _ _ ?_; clear hK1
 refine AW.seq fun K2 hK2 => ?_
 refine AW.cond rfl (by simp only [go_sem, reduceIte, reduceCtorEq, zA, zM, zE, zL, zD, zS, zP, zB, zI, zR]) ?_ ?_
 ·intro hb
  try simp only [hB, decide_eq_true_eq, decide_eq_false_iff_not] at hb
  simp at hb
 ·intro hb
  try simp only [hB, decide_eq_true_eq, decide_eq_false_iff_not] at hb
  refine AW.skip ?_
  refine hK2 _ _ _ ?_; clear hK2
  refine AW.seq fun K3 hK3 => ?_
  refine AW.regionK 0 (fun ii => if ii = 2 then some (.reads false (.tup [.int .u64 0, .int .u64 n])) else none) [8, 9] [] ?_
  simp only [go_sem, reduceIte, reduceCtorEq, zA, zM, zE, zL, zD, zS, zP, zB, zI, zR]
  repeat with_reducible refine cj ?_ ?_
  all_goals try first | (exact h) | omega | exact ent (by kernel_rfl)
  refine hK3 _ _ _ ?_; clear hK3
  refine AW.seq fun K4 hK4 => ?_
  refine AW.regionK 0 (fun _ => none) [4, 5] [] ?_
  simp only [go_sem, reduceIte, reduceCtorEq, zA, zM, zE, zL, zD, zS, zP, zB, zI, zR]
  repeat with_reducible refine cj ?_ ?_
  all_goals try first | omega
  refine hK4 _ _ _ ?_; clear hK4
  refine AW.ret ?_
  rw [← hQr]
  simp only [go_sem, reduceIte, reduceCtorEq, zA, zM, zE, zL, zD, zS, zP, zB, zI, zR]
  exact Wk.refl _
end Go.Proofs.W.M

