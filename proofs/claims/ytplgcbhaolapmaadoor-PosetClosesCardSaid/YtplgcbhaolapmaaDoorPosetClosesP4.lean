/- Lemmas and contracts, part 4: an abstract machine over the model, and the functions that the statement reaches. -/
import Derived.Test.YtplgcbhaolapmaaDoorPosetClosesP3
set_option linter.unusedVariables false
set_option linter.unusedSimpArgs false
/- The least topological order. -/
namespace Go.AM
theorem filter_lt {p q : Nat → Bool} {l : List Nat} (h : ∀ x ∈ l, p x = true → q x = true) (hx : ∃ x ∈ l, q x = true ∧ p x = false) : (l.filter p).length < (l.filter q).length := by
  induction l with
  | nil => obtain ⟨x, hx, _⟩ := hx; cases hx
  | cons a l ih =>
    have hle : (l.filter p).length ≤ (l.filter q).length := by
      have := List.Sublist.length_le (l.filter p |>.filter_sublist (p := q))
      have e : (l.filter p).filter q = l.filter p := by
        rw [List.filter_eq_self]
        intro x hx; exact h x (by simp [(List.mem_filter.1 hx).1]) (List.mem_filter.1 hx).2
      have e2 : (l.filter p).filter q = (l.filter q).filter p := by rw [List.filter_filter, List.filter_filter]; congr 1; funext x; exact Bool.and_comm _ _
      rw [← e, e2]; exact List.length_filter_le _ _
    obtain ⟨x, hx, h1, h2⟩ := hx
    rcases List.mem_cons.1 hx with rfl | hx
    · simp only [List.filter_cons, h1, h2, if_true, Bool.false_eq_true, if_false, List.length_cons]; omega
    · have ih := ih (fun y hy => h y (by simp [hy])) ⟨x, hx, h1, h2⟩
      have ha := h a (by simp)
      simp only [List.filter_cons]
      cases hp : p a
      · cases hq : q a
        · simpa using ih
        · simp only [Bool.false_eq_true, if_false, if_true, List.length_cons]; omega
      · rw [ha hp]; simp only [if_true, List.length_cons]; omega
def freeO (n : Nat) (t : List (List Bool)) (out : List Nat) (i : Nat) : Bool := !out.contains i && (List.range n).all fun k => !atT t k i || out.contains k
def nextO (n : Nat) (t : List (List Bool)) (out : List Nat) : Option Nat := (List.range n).find? (freeO n t out)
def ordO (n : Nat) (t : List (List Bool)) : Nat → List Nat → List Nat
  | 0, out => out
  | m + 1, out => match nextO n t out with
    | some i => ordO n t m (out ++ [i])
    | none => out
theorem freeO_iff {n : Nat} {t : List (List Bool)} {out : List Nat} {i : Nat} : freeO n t out i = true ↔ i ∉ out ∧ ∀ k, k < n → atT t k i = true → k ∈ out := by
  simp only [freeO, Bool.and_eq_true, Bool.not_eq_true', List.all_eq_true, List.mem_range, Bool.or_eq_true]
  constructor
  · rintro ⟨h1, h2⟩
    refine ⟨fun h => (by simp [h] at h1), fun k hk ha => ?_⟩
    rcases h2 k hk with h | h
    · rw [ha] at h; cases h
    · simpa using h
  · rintro ⟨h1, h2⟩
    refine ⟨by simpa using h1, fun k hk => ?_⟩
    cases ha : atT t k i with
    | false => exact .inl rfl
    | true => exact .inr (by simpa using h2 k hk ha)
theorem acyc_iff {n : Nat} {t : List (List Bool)} : acyc n t = true ↔ ∀ i, i < n → atT (warsh n t) i i = false := by
  unfold acyc; rw [List.all_eq_true]
  constructor
  · intro h i hi; have := h i (List.mem_range.2 hi); simpa using this
  · intro h i hi; rw [h i (List.mem_range.1 hi)]; rfl
theorem exists_free {n : Nat} {t : List (List Bool)} (hs : Sq n t) (ha : acyc n t = true) {out : List Nat} : ∀ (m i : Nat), i < n → i ∉ out → ((List.range n).filter fun k => atT (warsh n t) k i && !out.contains k).length ≤ m → ∃ j, j < n ∧ freeO n t out j = true := by
  have hac := acyc_iff.1 ha
  intro m
  induction m with
  | zero =>
    intro i hi ho hl
    refine ⟨i, hi, freeO_iff.2 ⟨ho, fun k hk h => ?_⟩⟩
    rcases Classical.em (k ∈ out) with h1 | h1
    · exact h1
    · exfalso
      have hm : k ∈ (List.range n).filter fun k => atT (warsh n t) k i && !out.contains k := by
        rw [List.mem_filter]; exact ⟨List.mem_range.2 hk, by simp [warsh_sub hs hk hi h, h1]⟩
      have := List.length_pos_of_mem hm
      omega
  | succ m ih =>
    intro i hi ho hl
    by_cases hf : freeO n t out i = true
    · exact ⟨i, hi, hf⟩
    · have : ∃ k, k < n ∧ atT t k i = true ∧ k ∉ out := by
        rcases Classical.em (∃ k, k < n ∧ atT t k i = true ∧ k ∉ out) with h | h
        · exact h
        · exact absurd (freeO_iff.2 ⟨ho, fun k hk h1 => by
            rcases Classical.em (k ∈ out) with h2 | h2
            · exact h2
            · exact absurd ⟨k, hk, h1, h2⟩ h⟩) hf
      obtain ⟨k, hk, h1, h2⟩ := this
      have hki := warsh_sub hs hk hi h1
      refine ih k hk h2 (Nat.le_of_lt_succ (Nat.lt_of_lt_of_le (filter_lt (fun x hx hp => ?_) ⟨k, List.mem_range.2 hk, ?_, ?_⟩) hl))
      · simp only [Bool.and_eq_true] at hp ⊢
        exact ⟨warsh_trans hs (List.mem_range.1 hx) hk hi hp.1 hki, hp.2⟩
      · simp [hki, h2]
      · rw [hac k hk]; rfl
structure OrdI (n : Nat) (t : List (List Bool)) (out : List Nat) : Prop where
  nd : out.Nodup
  rng : ∀ i ∈ out, i < n
  top : ∀ (q i k : Nat), out[q]? = some i → k < n → atT t k i = true → ∃ p : Nat, p < q ∧ out[p]? = some k
theorem OrdI.closed {n : Nat} {t : List (List Bool)} {out : List Nat} (h : OrdI n t out) {i k : Nat} (hi : i ∈ out) (hk : k < n) (ha : atT t k i = true) : k ∈ out := by
  obtain ⟨q, hq, rfl⟩ := List.mem_iff_getElem.1 hi
  obtain ⟨p, _, hp⟩ := h.top q _ k (List.getElem?_eq_getElem hq) hk ha
  exact List.mem_of_getElem? hp
theorem OrdI.snoc {n : Nat} {t : List (List Bool)} {out : List Nat} (h : OrdI n t out) {i : Nat} (hi : i < n) (hf : freeO n t out i = true) : OrdI n t (out ++ [i]) := by
  obtain ⟨h1, h2⟩ := freeO_iff.1 hf
  refine ⟨?_, fun j hj => ?_, fun q j k hq hk ha => ?_⟩
  · rw [List.nodup_append]
    exact ⟨h.nd, by simp, fun a ha b hb => by simp at hb; subst hb; rintro rfl; exact h1 ha⟩
  · rcases List.mem_append.1 hj with hj | hj
    · exact h.rng j hj
    · simp at hj; omega
  · by_cases hql : q < out.length
    · rw [List.getElem?_append_left hql] at hq
      obtain ⟨p, hp1, hp2⟩ := h.top q j k hq hk ha
      exact ⟨p, hp1, by rw [List.getElem?_append_left (by omega)]; exact hp2⟩
    · have hq2 := (List.getElem?_eq_some_iff.1 hq).1
      simp at hq2
      have : q = out.length := by omega
      subst this
      simp at hq; subst hq
      obtain ⟨p, hp, hpk⟩ := List.mem_iff_getElem.1 (h2 k hk ha)
      exact ⟨p, hp, by rw [List.getElem?_append_left hp, List.getElem?_eq_getElem hp, hpk]⟩
theorem nodup_nat : ∀ (n : Nat) (l : List Nat), l.Nodup → (∀ i ∈ l, i < n) → l.length ≤ n
  | 0, l, _, h => by
    cases l with
    | nil => simp
    | cons a l => have := h a (by simp); omega
  | n + 1, l, hn, h => by
    have ih := nodup_nat n (l.erase n) (hn.erase _) fun u hu => by
      have h1 := (List.Nodup.mem_erase_iff hn).1 hu
      have := h u h1.2
      have := h1.1
      omega
    have : l.length ≤ (l.erase n).length + 1 := by
      rw [List.length_erase]; split <;> omega
    omega
theorem sub_len : ∀ (n : Nat) (l : List Nat), (∀ i, i < n → i ∈ l) → n ≤ l.length
  | 0, _, _ => Nat.zero_le _
  | n + 1, l, h => by
    have hn := h n (by omega)
    have ih := sub_len n (l.erase n) fun i hi => (List.mem_erase_of_ne (by omega)).2 (h i (by omega))
    rw [List.length_erase_of_mem hn] at ih
    have := List.length_pos_of_mem hn
    omega
theorem missing {n : Nat} {l : List Nat} (hl : l.length < n) : ∃ i, i < n ∧ i ∉ l := by
  rcases Classical.em (∃ i, i < n ∧ i ∉ l) with h | h
  · exact h
  · exfalso
    have := sub_len n l fun i hi => by
      rcases Classical.em (i ∈ l) with h1 | h1
      · exact h1
      · exact absurd ⟨i, hi, h1⟩ h
    omega
theorem OrdI.next {n : Nat} {t : List (List Bool)} (hs : Sq n t) (ha : acyc n t = true) {out : List Nat} (hl : out.length < n) : ∃ i, nextO n t out = some i ∧ i < n ∧ freeO n t out i = true := by
  obtain ⟨i, hi, ho⟩ := missing hl
  obtain ⟨j, hj, hf⟩ := exists_free hs ha _ i hi ho (Nat.le_refl _)
  cases h : nextO n t out with
  | none => have := find_range_none.1 h j hj; rw [hf] at this; cases this
  | some i => obtain ⟨h1, h2, _⟩ := find_range_lt h; exact ⟨i, rfl, h1, h2⟩
theorem ordO_ok {n : Nat} {t : List (List Bool)} (hs : Sq n t) (ha : acyc n t = true) : ∀ (m : Nat) (out : List Nat), OrdI n t out → out.length + m = n → OrdI n t (ordO n t m out) ∧ (ordO n t m out).length = n
  | 0, out, h, hl => ⟨h, hl⟩
  | m + 1, out, h, hl => by
    obtain ⟨i, h1, h2, h3⟩ := OrdI.next hs ha (out := out) (by omega)
    unfold ordO; rw [h1]
    exact ordO_ok hs ha m _ (h.snoc h2 h3) (by simp; omega)
theorem OrdI.nil (n : Nat) (t : List (List Bool)) : OrdI n t [] := ⟨by simp, by simp, by simp⟩
/-- How many stand before a node. -/
def cntO (n : Nat) (t : List (List Bool)) (out : List Nat) (j : Nat) : Nat := ((List.range n).filter fun k => atT t k j && !out.contains k).length
def befO (n : Nat) (t : List (List Bool)) (out : List Nat) : List Int := (List.range n).map fun j => if out.contains j then -1 else (cntO n t out j : Int)
theorem befO_len (n : Nat) (t : List (List Bool)) (out : List Nat) : (befO n t out).length = n := by simp [befO]
theorem befO_get {n : Nat} {t : List (List Bool)} {out : List Nat} {j : Nat} (hj : j < n) : (befO n t out).getD j 0 = if out.contains j then -1 else (cntO n t out j : Int) := by
  simp [befO, List.getD_eq_getElem?_getD, hj]
theorem cntO_zero {n : Nat} {t : List (List Bool)} {out : List Nat} {j : Nat} : cntO n t out j = 0 ↔ ∀ k, k < n → atT t k j = true → k ∈ out := by
  unfold cntO
  rw [List.length_eq_zero_iff, List.filter_eq_nil_iff]
  constructor
  · intro h k hk ha
    have := h k (List.mem_range.2 hk)
    rw [ha] at this; simpa using this
  · intro h k hk
    have := h k (List.mem_range.1 hk)
    cases ha : atT t k j with
    | false => simp
    | true => simp [this ha]
theorem befO_free {n : Nat} {t : List (List Bool)} {out : List Nat} {j : Nat} (hj : j < n) : decide (0 = (befO n t out).getD j 0) = freeO n t out j := by
  refine bool_ext ?_
  rw [decide_eq_true_eq, freeO_iff, befO_get hj]
  by_cases h : j ∈ out
  · simp [h]
  · have hc : out.contains j = false := by simpa using h
    rw [hc]
    simp only [Bool.false_eq_true, if_false]
    constructor
    · intro h2; exact ⟨h, cntO_zero.1 (by omega)⟩
    · intro h2; rw [cntO_zero.2 h2.2]; rfl
theorem befO_ix {n : Nat} {t : List (List Bool)} {out : List Nat} {i : Nat} (h : nextO n t out = some i) : ixf (fun y => decide (0 = y)) (befO n t out) = i := by
  obtain ⟨h1, h2, h3⟩ := find_range_lt h
  have hg : ∀ j, j < n → (befO n t out)[j]? = some ((befO n t out).getD j 0) := fun j hj => by
    rw [List.getElem?_eq_getElem (by rw [befO_len]; exact hj)]; simp [List.getD_eq_getElem?_getD, befO_len, hj]
  refine ixf_at (hg i h1) (by rw [befO_free h1]; exact h2) ?_
  rw [List.any_eq_false]
  intro y hy
  rw [List.mem_take_iff_getElem] at hy
  obtain ⟨k, hk, rfl⟩ := hy
  have hkn : k < n := by omega
  have := h3 k (by omega)
  rw [← befO_free hkn] at this
  simp only [List.getD_eq_getElem?_getD, befO_len, hkn, List.getElem?_eq_getElem, Option.getD_some] at this
  simpa using this
def decJ (t : List (List Bool)) (i j : Nat) (B : List Int) : List Int := if atT t i j then B.set j (B.getD j 0 - 1) else B
theorem decJ_eq (t : List (List Bool)) (i j : Nat) (B : List Int) : decJ t i j B = if atT t i j then B.set j (B.getD j 0 - 1) else B := rfl
theorem decJ_len (t : List (List Bool)) (i : Nat) (B : List Int) : ∀ m, (iter (decJ t i) m B).length = B.length
  | 0 => rfl
  | m + 1 => by rw [iter_succ, decJ_eq]; split <;> simp [decJ_len t i B m]
theorem decJ_get (t : List (List Bool)) (i : Nat) (B : List Int) (j : Nat) : ∀ m, m ≤ B.length → (iter (decJ t i) m B).getD j 0 = if j < m ∧ atT t i j = true then B.getD j 0 - 1 else B.getD j 0
  | 0, _ => by rw [if_neg (by omega)]; rfl
  | m + 1, hm => by
    have ih := decJ_get t i B j m (by omega)
    have hl := decJ_len t i B m
    have ihm := decJ_get t i B m m (by omega)
    rw [if_neg (by omega)] at ihm
    rw [iter_succ, decJ_eq]
    by_cases h : atT t i m = true
    · rw [if_pos h]
      by_cases e : m = j
      · subst e; rw [Go.AM.getD_set_eq (by omega), ihm, if_pos ⟨by omega, h⟩]
      · rw [Go.AM.getD_set_ne e, ih]
        have : (j < m + 1 ∧ atT t i j = true) ↔ (j < m ∧ atT t i j = true) := ⟨fun x => ⟨by omega, x.2⟩, fun x => ⟨by omega, x.2⟩⟩
        simp only [this]
    · rw [if_neg h, ih]
      have : (j < m + 1 ∧ atT t i j = true) ↔ (j < m ∧ atT t i j = true) := ⟨fun x => ⟨by
        by_cases e : j = m
        · subst e; exact absurd x.2 h
        · omega, x.2⟩, fun x => ⟨by omega, x.2⟩⟩
      simp only [this]
theorem filter_one {p q : Nat → Bool} {a : Nat} : ∀ {l : List Nat}, l.Nodup → a ∈ l → p a = true → q a = false → (∀ x ∈ l, x ≠ a → q x = p x) → (l.filter q).length + 1 = (l.filter p).length
  | [], _, ha, _, _, _ => by cases ha
  | b :: l, hn, ha, hp, hq, h => by
    rw [List.nodup_cons] at hn
    by_cases e : b = a
    · subst e
      have : l.filter q = l.filter p := List.filter_congr fun x hx => h x (by simp [hx]) (fun e => hn.1 (e ▸ hx))
      simp [List.filter_cons, hp, hq, this]
    · have hal : a ∈ l := (List.mem_cons.1 ha).resolve_left fun x => e x.symm
      have ih := filter_one hn.2 hal hp hq fun x hx => h x (by simp [hx])
      have hb := h b (by simp) e
      simp only [List.filter_cons, hb]
      split <;> first | omega | (simp only [List.length_cons]; omega)
theorem befO_step {n : Nat} {t : List (List Bool)} (hs : Sq n t) (hac : acyc n t = true) {out : List Nat} (ho : OrdI n t out) {i : Nat} (hi : i < n) (hf : freeO n t out i = true) : iter (decJ t i) n ((befO n t out).set i (-1)) = befO n t (out ++ [i]) := by
  have hbl := befO_len n t out
  obtain ⟨h1, h2⟩ := freeO_iff.1 hf
  refine getD_ext (by rw [decJ_len]; simp [befO_len]) fun j hj => ?_
  rw [decJ_len, List.length_set, hbl] at hj
  rw [decJ_get t i _ j n (by simp [hbl]), befO_get hj]
  have hii : atT t i i = false := by
    cases h : atT t i i with
    | false => rfl
    | true => have := acyc_iff.1 hac i hi; rw [warsh_sub hs hi hi h] at this; cases this
  by_cases hji : j = i
  · subst hji
    rw [hii, if_neg (by simp), Go.AM.getD_set_eq (by omega)]
    simp
  · rw [Go.AM.getD_set_ne (Ne.symm hji), befO_get hj]
    have hc : (out ++ [i]).contains j = out.contains j := by simp [hji]
    rw [hc]
    by_cases hjo : j ∈ out
    · have hno : ¬ (j < n ∧ atT t i j = true) := fun h => h1 (ho.closed hjo hi h.2)
      have hcj : out.contains j = true := by simpa using hjo
      rw [if_neg hno, hcj]
      simp
    · have hcj : out.contains j = false := by simpa using hjo
      rw [hcj]
      simp only [Bool.false_eq_true, if_false]
      by_cases hat : atT t i j = true
      · rw [if_pos ⟨hj, hat⟩]
        have : cntO n t (out ++ [i]) j + 1 = cntO n t out j := by
          unfold cntO
          refine filter_one (a := i) List.nodup_range (List.mem_range.2 hi) ?_ ?_ fun x hx hxi => ?_
          · simp [hat, h1]
          · simp
          · simp [hxi]
        omega
      · rw [if_neg (by rintro ⟨_, x⟩; exact hat x)]
        have : cntO n t (out ++ [i]) j = cntO n t out j := by
          unfold cntO
          congr 1
          refine List.filter_congr fun x hx => ?_
          by_cases e : x = i
          · subst e; simp [hat]
          · simp [e]
        rw [this]
/-- The first counts. -/
def incP (B : List Int) (p : Int × Int) : List Int := B.set p.2.toNat (B.getD p.2.toNat 0 + 1)
def incPs (B : List Int) (L : List (Int × Int)) : List Int := L.foldl incP B
theorem incPs_len (L : List (Int × Int)) : ∀ B : List Int, (incPs B L).length = B.length := by
  induction L with
  | nil => intro B; rfl
  | cons p L ih => intro B; show (incPs (incP B p) L).length = _; rw [ih]; simp [incP]
theorem incPs_take {B : List Int} {L : List (Int × Int)} {j : Nat} {p : Int × Int} (h : L[j]? = some p) : incPs B (L.take (j + 1)) = incP (incPs B (L.take j)) p := by
  obtain ⟨hj, rfl⟩ := List.getElem?_eq_some_iff.1 h
  unfold incPs
  rw [List.take_succ_eq_append_getElem hj, List.foldl_append]; rfl
theorem incPs_get (L : List (Int × Int)) (j : Nat) : ∀ B : List Int, j < B.length → (incPs B L).getD j 0 = B.getD j 0 + ((L.filter fun p => p.2.toNat == j).length : Int) := by
  induction L with
  | nil => intro B _; simp [incPs]
  | cons p L ih =>
    intro B hj
    show (incPs (incP B p) L).getD j 0 = _
    rw [ih _ (by simp [incP]; exact hj)]
    unfold incP
    rw [List.filter_cons]
    by_cases e : p.2.toNat = j
    · rw [e, Go.AM.getD_set_eq hj]; simp; omega
    · rw [Go.AM.getD_set_ne e]; simp [e]
theorem incPs_bnd (L : List (Int × Int)) (j : Nat) (B : List Int) (h : ∀ i, B.getD i 0 = 0) : 0 ≤ (incPs B L).getD j 0 ∧ (incPs B L).getD j 0 ≤ L.length := by
  by_cases hj : j < B.length
  · rw [incPs_get L j B hj, h]
    have := List.length_filter_le (fun p : Int × Int => p.2.toNat == j) L
    omega
  · rw [Go.AM.getD_out (by rw [incPs_len]; omega)]; omega
theorem rowPairs_cnt (t : List (List Bool)) (i j : Nat) : ∀ m, ((rowPairs t i m).filter fun p => p.2.toNat == j).length = if j < m ∧ atT t i j = true then 1 else 0
  | 0 => by simp [rowPairs]
  | m + 1 => by
    have ih := rowPairs_cnt t i j m
    rw [rowPairs_succ]
    by_cases h : atT t i m = true
    · rw [if_pos h, List.filter_append, List.length_append, ih]
      by_cases e : m = j
      · subst e; simp [h]
      · have : (j < m + 1 ∧ atT t i j = true) ↔ (j < m ∧ atT t i j = true) := ⟨fun x => ⟨by omega, x.2⟩, fun x => ⟨by omega, x.2⟩⟩
        simp [e, this]
    · rw [if_neg h, ih]
      have : (j < m + 1 ∧ atT t i j = true) ↔ (j < m ∧ atT t i j = true) := ⟨fun x => ⟨by
        by_cases e : j = m
        · subst e; exact absurd x.2 h
        · omega, x.2⟩, fun x => ⟨by omega, x.2⟩⟩
      simp only [this]
theorem pairsAt_cnt {n : Nat} (t : List (List Bool)) {j : Nat} (hj : j < n) : ∀ i, ((pairsAt t n i).filter fun p => p.2.toNat == j).length = ((List.range i).filter fun k => atT t k j).length
  | 0 => by simp [pairsAt]
  | i + 1 => by
    rw [pairsAt_succ, List.filter_append, List.length_append, pairsAt_cnt t hj i, rowPairs_cnt, List.range_succ, List.filter_append, List.length_append]
    by_cases h : atT t i j = true
    · simp [h, hj]
    · simp [h]
theorem befO_nil (n : Nat) (t : List (List Bool)) : incPs (List.replicate n 0) (pairsT t n) = befO n t [] := by
  refine getD_ext (by rw [incPs_len, befO_len]; simp) fun j hj => ?_
  rw [incPs_len, List.length_replicate] at hj
  rw [incPs_get _ j _ (by simpa using hj), befO_get hj]
  have e0 : (List.replicate n (0 : Int)).getD j 0 = 0 := by rw [List.getD_eq_getElem?_getD, List.getElem?_replicate]; split <;> rfl
  have hc : cntO n t [] j = ((List.range n).filter fun k => atT t k j).length := by unfold cntO; congr 1; refine List.filter_congr fun x _ => by simp
  have := pairsAt_cnt t hj n
  rw [e0]; unfold pairsT; rw [this, ← hc]; simp
end Go.AM

namespace Go.Proofs.P
open Go.AM Go
set_option maxRecDepth 100000
set_option maxHeartbeats 2000000
theorem index_r (l : List Int) (x : Int) (hl : l.length ≤ 9223372036854775807) : Reads Tryd.prog 90 false [.rsl 1 (ints l), .int .i64 x] (.int .i64 (ixf (fun y => decide (x = y)) l)) := by
  refine Reads.body (rs := [.tmp 4]) Tryd.func90 rfl Tryd.ntmps90 rfl (by simp) ?_
  generalize hQr : retQ _ _ _ = Qr
  refine AW.seq fun K1 hK1 => ?_
  -- region 0
  refine AW.regionK 0 (fun _ => none) [0, 1] [] ?_
  simp only [go_sem, reduceIte, reduceCtorEq, Nat.reduceAdd, Nat.reduceMul, Nat.reduceEqDiff, Nat.reduceLT, Nat.reduceLeDiff, Nat.reduceSub, Nat.reducePow, Nat.reduceBEq, Int.reduceToNat, List.reduceReplicate]
  repeat with_reducible refine cj ?_ ?_
  all_goals try first | omega
  refine hK1 _ _ _ ?_; clear hK1
  refine AW.seq fun K2 hK2 => ?_
  refine AW.seq fun K3 hK3 => ?_
  -- region 1
  refine AW.regionK 0 (fun _ => none) [0, 1, 7, 8] [] ?_
  simp only [go_sem, reduceIte, reduceCtorEq, Nat.reduceAdd, Nat.reduceMul, Nat.reduceEqDiff, Nat.reduceLT, Nat.reduceLeDiff, Nat.reduceSub, Nat.reducePow, Nat.reduceBEq, Int.reduceToNat, List.reduceReplicate]
  repeat with_reducible refine cj ?_ ?_
  all_goals try first | omega
  refine hK3 _ _ _ ?_; clear hK3
  refine AW.block ?_
  -- loop 1
  refine AW.loopE (fun mm ee ss kk => ∃ (j : Nat), l.length - j = mm ∧ ee = [(0, .rsl 1 (ints l)), (1, .int .i64 x), (7, .int .i64 l.length), (8, .int .i64 (j : Nat))] ∧ ss = [] ∧ (j ≤ l.length ∧ (l.take j).any (fun y => decide (x = y)) = false)) ?_ ?_
  · refine ⟨_, 0, rfl, ?henv, ?hstore, ?hst⟩
    case henv =>
      repeat' (first | rfl | refine env_cons ?_ ?_ | refine st_cons ?_ ?_ ?_ ?_ | refine int_eq ?_ | refine bool_eq ?_ | refine rsl_eq ?_ | refine osl_eq ?_ | refine sl_eq ?_ ?_ ?_ | refine ptr_eq ?_ ?_ ?_ | refine agg_eq ?_ | refine es_cons ?_ ?_ | refine row_cons ?_ ?_)
      all_goals (first | (simp; done) | omega | (simp; omega))
    case hstore =>
      repeat' (first | rfl | refine env_cons ?_ ?_ | refine st_cons ?_ ?_ ?_ ?_ | refine int_eq ?_ | refine bool_eq ?_ | refine rsl_eq ?_ | refine osl_eq ?_ | refine sl_eq ?_ ?_ ?_ | refine ptr_eq ?_ ?_ ?_ | refine agg_eq ?_ | refine es_cons ?_ ?_ | refine row_cons ?_ ?_)
      all_goals (first | (simp; done) | omega | (simp; omega))
    case hst =>
      first | trivial | omega | (simp; done) | (simp; omega)
  rintro mm ee ss kk ⟨j, rfl, rfl, rfl, hI⟩
  generalize hQl1 : thenQ _ _ = Ql1
  obtain ⟨hj, hall⟩ := hI
  refine AW.seq fun K4 hK4 => ?_
  -- region 2
  refine AW.regionK 0 (fun _ => none) [0, 1, 7, 8, 9] [] ?_
  simp only [go_sem, reduceIte, reduceCtorEq, Nat.reduceAdd, Nat.reduceMul, Nat.reduceEqDiff, Nat.reduceLT, Nat.reduceLeDiff, Nat.reduceSub, Nat.reducePow, Nat.reduceBEq, Int.reduceToNat, List.reduceReplicate]
  repeat with_reducible refine cj ?_ ?_
  all_goals try first | omega
  refine hK4 _ _ _ ?_; clear hK4
  refine AW.seq fun K5 hK5 => ?_
  -- cond 1
  refine AW.cond rfl (by simp only [go_sem, reduceIte, reduceCtorEq, Nat.reduceAdd, Nat.reduceMul, Nat.reduceEqDiff, Nat.reduceLT, Nat.reduceLeDiff, Nat.reduceSub, Nat.reducePow, Nat.reduceBEq, Int.reduceToNat, List.reduceReplicate]) ?_ ?_
  · intro hb
    try simp only [hB, decide_eq_true_eq, decide_eq_false_iff_not] at hb
    obtain ⟨y, hy⟩ := getI (l := l) (j := j) (by omega)
    have hgy := ints_get hy
    have hats := any_take_succ (p := fun y => decide (x = y)) hy
    refine AW.skip ?_
    refine hK5 _ _ _ ?_; clear hK5
    refine AW.seq fun K6 hK6 => ?_
    refine AW.block ?_
    refine AW.seq fun K7 hK7 => ?_
    -- region 3
    refine AW.regionK 0 (fun _ => none) [0, 1, 5, 7, 8] [] ?_
    simp only [go_sem, reduceIte, reduceCtorEq, Nat.reduceAdd, Nat.reduceMul, Nat.reduceEqDiff, Nat.reduceLT, Nat.reduceLeDiff, Nat.reduceSub, Nat.reducePow, Nat.reduceBEq, Int.reduceToNat, List.reduceReplicate]
    repeat with_reducible refine cj ?_ ?_
    all_goals try first | omega
    refine hK7 _ _ _ ?_; clear hK7
    refine AW.seq fun K8 hK8 => ?_
    -- region 4
    refine AW.regionK 0 (fun _ => none) [0, 1, 5, 7, 8, 16] [] ?_
    simp only [go_sem, reduceIte, reduceCtorEq, Nat.reduceAdd, Nat.reduceMul, Nat.reduceEqDiff, Nat.reduceLT, Nat.reduceLeDiff, Nat.reduceSub, Nat.reducePow, Nat.reduceBEq, Int.reduceToNat, List.reduceReplicate, hgy]
    repeat with_reducible refine cj ?_ ?_
    all_goals try first | omega
    refine hK8 _ _ _ ?_; clear hK8
    -- cond 2
    refine AW.cond rfl (by simp only [go_sem, reduceIte, reduceCtorEq, Nat.reduceAdd, Nat.reduceMul, Nat.reduceEqDiff, Nat.reduceLT, Nat.reduceLeDiff, Nat.reduceSub, Nat.reducePow, Nat.reduceBEq, Int.reduceToNat, List.reduceReplicate]) ?_ ?_
    · intro hb
      try simp only [hB, decide_eq_true_eq, decide_eq_false_iff_not] at hb
      refine AW.seq fun K9 hK9 => ?_
      -- region 5
      refine AW.regionK 0 (fun _ => none) [4] [] ?_
      simp only [go_sem, reduceIte, reduceCtorEq, Nat.reduceAdd, Nat.reduceMul, Nat.reduceEqDiff, Nat.reduceLT, Nat.reduceLeDiff, Nat.reduceSub, Nat.reducePow, Nat.reduceBEq, Int.reduceToNat, List.reduceReplicate]
      repeat with_reducible refine cj ?_ ?_
      all_goals try first | omega
      refine hK9 _ _ _ ?_; clear hK9
      refine AW.ret ?_
      rw [← hQl1]
      rw [← hQr]
      simp only [go_sem, reduceIte, reduceCtorEq, Nat.reduceAdd, Nat.reduceMul, Nat.reduceEqDiff, Nat.reduceLT, Nat.reduceLeDiff, Nat.reduceSub, Nat.reducePow, Nat.reduceBEq, Int.reduceToNat, List.reduceReplicate]
      exact Wk.of_eq (by rw [ixf_at hy (decide_eq_true hb) hall])
    · intro hb
      try simp only [hB, decide_eq_true_eq, decide_eq_false_iff_not] at hb
      refine AW.skip ?_
      refine hK6 _ _ _ ?_; clear hK6
      -- region 6
      refine AW.regionK 0 (fun _ => none) [0, 1, 7, 8] [] ?_
      simp only [go_sem, reduceIte, reduceCtorEq, Nat.reduceAdd, Nat.reduceMul, Nat.reduceEqDiff, Nat.reduceLT, Nat.reduceLeDiff, Nat.reduceSub, Nat.reducePow, Nat.reduceBEq, Int.reduceToNat, List.reduceReplicate]
      repeat with_reducible refine cj ?_ ?_
      all_goals try first | omega
      rw [← hQl1]
      change Exists _
      refine ⟨_, ?hm, j + 1, rfl, ?henv, ?hstore, ?hst⟩
      case henv =>
        repeat' (first | rfl | refine env_cons ?_ ?_ | refine st_cons ?_ ?_ ?_ ?_ | refine int_eq ?_ | refine bool_eq ?_ | refine rsl_eq ?_ | refine osl_eq ?_ | refine sl_eq ?_ ?_ ?_ | refine ptr_eq ?_ ?_ ?_ | refine agg_eq ?_ | refine es_cons ?_ ?_ | refine row_cons ?_ ?_)
        all_goals (first | (simp; done) | omega | (simp; omega))
      case hstore =>
        repeat' (first | rfl | refine env_cons ?_ ?_ | refine st_cons ?_ ?_ ?_ ?_ | refine int_eq ?_ | refine bool_eq ?_ | refine rsl_eq ?_ | refine osl_eq ?_ | refine sl_eq ?_ ?_ ?_ | refine ptr_eq ?_ ?_ ?_ | refine agg_eq ?_ | refine es_cons ?_ ?_ | refine row_cons ?_ ?_)
        all_goals (first | (simp; done) | omega | (simp; omega))
      case hst =>
        exact ⟨by omega, by rw [hats, hall, decide_eq_false hb]; rfl⟩
      case hm => omega
  · intro hb
    try simp only [hB, decide_eq_true_eq, decide_eq_false_iff_not] at hb
    refine AW.keep [] [] ?_
    try simp only [go_sem, reduceIte, reduceCtorEq, Nat.reduceAdd, Nat.reduceMul, Nat.reduceEqDiff, Nat.reduceLT, Nat.reduceLeDiff, Nat.reduceSub, Nat.reducePow, Nat.reduceBEq, Int.reduceToNat, List.reduceReplicate]
    refine AW.exit ?_
    rw [← hQl1]
    refine hK2 _ _ _ ?_; clear hK2
    refine AW.seq fun K10 hK10 => ?_
    -- region 7
    refine AW.regionK 0 (fun _ => none) [4] [] ?_
    simp only [go_sem, reduceIte, reduceCtorEq, Nat.reduceAdd, Nat.reduceMul, Nat.reduceEqDiff, Nat.reduceLT, Nat.reduceLeDiff, Nat.reduceSub, Nat.reducePow, Nat.reduceBEq, Int.reduceToNat, List.reduceReplicate]
    repeat with_reducible refine cj ?_ ?_
    all_goals try first | omega
    refine hK10 _ _ _ ?_; clear hK10
    refine AW.ret ?_
    rw [← hQr]
    simp only [go_sem, reduceIte, reduceCtorEq, Nat.reduceAdd, Nat.reduceMul, Nat.reduceEqDiff, Nat.reduceLT, Nat.reduceLeDiff, Nat.reduceSub, Nat.reducePow, Nat.reduceBEq, Int.reduceToNat, List.reduceReplicate]
    exact Wk.of_eq (by rw [List.take_of_length_le (by omega)] at hall; rw [ixf_none hall])
def nats (l : List Nat) : List Int := l.map fun (i : Nat) => (i : Int)
theorem nats_app (l : List Nat) (i : Nat) : nats l ++ [(i : Int)] = nats (l ++ [i]) := by simp [nats]
theorem nats_len (l : List Nat) : (nats l).length = l.length := by simp [nats]
theorem order_g (n : Nat) (t : List (List Bool)) (hs : Sq n t) (hn : n ≤ 512) (hac : acyc n t = true) : Reads Tryd.prog 67 false [relB t] (.tup [.rsl 1 (ints (nats (ordO n t n []))), .int .i64 ((0 : Nat) : Int)]) := by
  have h := valid_g n t hs hn
  have h2 := acyclic_g n t hs hn
  rw [hac] at h2
  have ha := all_r n t hs hn
  have hlt : (tabR t).length = n := by rw [tabR_len, hs.len]
  have hpl : (pairsT t n).length ≤ 262144 := Nat.le_trans (pairsAt_le t n n) (Nat.le_trans (Nat.mul_le_mul hn hn) (by decide))
  have hin := pairsT_in (t := t) (n := n)
  have hz : ∀ i, (List.replicate n (0 : Int)).getD i 0 = 0 := fun i => by rw [List.getD_eq_getElem?_getD, List.getElem?_replicate]; split <;> rfl
  have hbf := befO_nil n t
  have hib := fun L j => incPs_bnd L j _ hz
  have hil := fun L => incPs_len L (List.replicate n (0 : Int))
  have hh2 := fun i j hi hj => rhas_r n t hs hn i j hi hj
  unfold relB at *
  generalize hP : pairsT t n = P at *
  refine Reads.body (rs := [.tmp 2, .tmp 3]) Tryd.func67 rfl Tryd.ntmps67 rfl (by simp) ?_
  generalize hQr : retQ _ _ _ = Qr
  refine AW.seq fun K1 hK1 => ?_
  -- region 0
  refine AW.regionK 0 (fun _ => none) [1] [1] ?_
  simp only [go_sem, reduceIte, reduceCtorEq, Nat.reduceAdd, Nat.reduceMul, Nat.reduceEqDiff, Nat.reduceLT, Nat.reduceLeDiff, Nat.reduceSub, Nat.reducePow, Nat.reduceBEq, Int.reduceToNat, List.reduceReplicate, hlt]
  repeat with_reducible refine cj ?_ ?_
  all_goals try first | omega
  refine hK1 _ _ _ ?_; clear hK1
  refine AW.seq fun K2 hK2 => ?_
  refine AW.block ?_
  refine AW.seq fun K3 hK3 => ?_
  -- region 1
  refine AW.regionK 0 (fun ii => if ii = 1 then some (.reads false (.bool true)) else none) [1, 10] [1] ?_
  simp only [go_sem, reduceIte, reduceCtorEq, Nat.reduceAdd, Nat.reduceMul, Nat.reduceEqDiff, Nat.reduceLT, Nat.reduceLeDiff, Nat.reduceSub, Nat.reducePow, Nat.reduceBEq, Int.reduceToNat, List.reduceReplicate, hlt]
  repeat with_reducible refine cj ?_ ?_
  all_goals try first | (exact h) | omega | exact ent (by kernel_rfl)
  refine hK3 _ _ _ ?_; clear hK3
  -- cond 1
  refine AW.cond rfl (by simp only [go_sem, reduceIte, reduceCtorEq, Nat.reduceAdd, Nat.reduceMul, Nat.reduceEqDiff, Nat.reduceLT, Nat.reduceLeDiff, Nat.reduceSub, Nat.reducePow, Nat.reduceBEq, Int.reduceToNat, List.reduceReplicate]) ?_ ?_
  · intro hb
    try simp only [hB, decide_eq_true_eq, decide_eq_false_iff_not] at hb
    simp at hb
  · intro hb
    try simp only [hB, decide_eq_true_eq, decide_eq_false_iff_not] at hb
    refine AW.seq fun K4 hK4 => ?_
    -- region 3
    refine AW.regionK 0 (fun ii => if ii = 1 then some (.reads false (.bool true)) else none) [1, 14] [1] ?_
    simp only [go_sem, reduceIte, reduceCtorEq, Nat.reduceAdd, Nat.reduceMul, Nat.reduceEqDiff, Nat.reduceLT, Nat.reduceLeDiff, Nat.reduceSub, Nat.reducePow, Nat.reduceBEq, Int.reduceToNat, List.reduceReplicate, hlt]
    repeat with_reducible refine cj ?_ ?_
    all_goals try first | (exact h2) | omega | exact ent (by kernel_rfl)
    refine hK4 _ _ _ ?_; clear hK4
    -- cond 2
    refine AW.cond rfl (by simp only [go_sem, reduceIte, reduceCtorEq, Nat.reduceAdd, Nat.reduceMul, Nat.reduceEqDiff, Nat.reduceLT, Nat.reduceLeDiff, Nat.reduceSub, Nat.reducePow, Nat.reduceBEq, Int.reduceToNat, List.reduceReplicate]) ?_ ?_
    · intro hb
      try simp only [hB, decide_eq_true_eq, decide_eq_false_iff_not] at hb
      simp at hb
    · intro hb
      try simp only [hB, decide_eq_true_eq, decide_eq_false_iff_not] at hb
      refine AW.skip ?_
      refine hK2 _ _ _ ?_; clear hK2
      refine AW.seq fun K5 hK5 => ?_
      -- region 5
      refine AW.regionK 0 (fun _ => none) [1, 4] [1, 21] ?_
      simp only [go_sem, reduceIte, reduceCtorEq, Nat.reduceAdd, Nat.reduceMul, Nat.reduceEqDiff, Nat.reduceLT, Nat.reduceLeDiff, Nat.reduceSub, Nat.reducePow, Nat.reduceBEq, Int.reduceToNat, List.reduceReplicate, hlt]
      repeat with_reducible refine cj ?_ ?_
      all_goals try first | omega
      refine hK5 _ _ _ ?_; clear hK5
      refine AW.seq fun K6 hK6 => ?_
      refine AW.seq fun K7 hK7 => ?_
      -- region 6
      refine AW.regionK 0 (fun ii => if ii = 1 then some (.reads true (.rsl 2 (P.map pairV))) else none) [1, 4, 23, 24, 25] [1, 21] ?_
      simp only [go_sem, reduceIte, reduceCtorEq, Nat.reduceAdd, Nat.reduceMul, Nat.reduceEqDiff, Nat.reduceLT, Nat.reduceLeDiff, Nat.reduceSub, Nat.reducePow, Nat.reduceBEq, Int.reduceToNat, List.reduceReplicate, hlt]
      repeat with_reducible refine cj ?_ ?_
      all_goals try first | (exact ha) | omega | exact ent (by kernel_rfl)
      refine hK7 _ _ _ ?_; clear hK7
      refine AW.block ?_
      -- loop 1
      refine AW.loopE (fun mm ee ss kk => ∃ (j g1 v1 g v : Nat), P.length - j = mm ∧ ee = [(1, .ptr ⟨1, g1, none⟩ 0 0), (4, .sl ⟨21, g, none⟩ 0 n none), (23, .rsl 2 (P.map pairV)), (24, .int .i64 P.length), (25, .int .i64 (j : Nat))] ∧ ss = [(1, some ⟨g1, v1, 1, [[.rsl 2 (tabR t)]]⟩), (21, some ⟨g, v, 1, ints (incPs (List.replicate n 0) (P.take j))⟩)] ∧ (j ≤ P.length)) ?_ ?_
      · refine ⟨_, 0, ?_, ?_, ?_, ?_, rfl, ?henv, ?hstore, ?hst⟩
        case henv =>
          repeat' (first | rfl | refine env_cons ?_ ?_ | refine st_cons ?_ ?_ ?_ ?_ | refine int_eq ?_ | refine bool_eq ?_ | refine rsl_eq ?_ | refine osl_eq ?_ | refine sl_eq ?_ ?_ ?_ | refine ptr_eq ?_ ?_ ?_ | refine agg_eq ?_ | refine es_cons ?_ ?_ | refine row_cons ?_ ?_)
          all_goals (first | (simp; done) | omega | (simp; omega))
        case hstore =>
          repeat' (first | rfl | refine env_cons ?_ ?_ | refine st_cons ?_ ?_ ?_ ?_ | refine int_eq ?_ | refine bool_eq ?_ | refine rsl_eq ?_ | refine osl_eq ?_ | refine sl_eq ?_ ?_ ?_ | refine ptr_eq ?_ ?_ ?_ | refine agg_eq ?_ | refine es_cons ?_ ?_ | refine row_cons ?_ ?_)
          all_goals (simp [ints, incPs])
        case hst =>
          first | trivial | omega | (simp; done) | (simp; omega)
      rintro mm ee ss kk ⟨j, g1, v1, g, v, rfl, rfl, rfl, hI⟩
      generalize hQl1 : thenQ _ _ = Ql1
      refine AW.seq fun K8 hK8 => ?_
      -- region 7
      refine AW.regionK 0 (fun _ => none) [1, 4, 23, 24, 25, 26] [1, 21] ?_
      simp only [go_sem, reduceIte, reduceCtorEq, Nat.reduceAdd, Nat.reduceMul, Nat.reduceEqDiff, Nat.reduceLT, Nat.reduceLeDiff, Nat.reduceSub, Nat.reducePow, Nat.reduceBEq, Int.reduceToNat, List.reduceReplicate, hlt]
      repeat with_reducible refine cj ?_ ?_
      all_goals try first | omega
      refine hK8 _ _ _ ?_; clear hK8
      refine AW.seq fun K9 hK9 => ?_
      -- cond 3
      refine AW.cond rfl (by simp only [go_sem, reduceIte, reduceCtorEq, Nat.reduceAdd, Nat.reduceMul, Nat.reduceEqDiff, Nat.reduceLT, Nat.reduceLeDiff, Nat.reduceSub, Nat.reducePow, Nat.reduceBEq, Int.reduceToNat, List.reduceReplicate]) ?_ ?_
      · intro hb
        try simp only [hB, decide_eq_true_eq, decide_eq_false_iff_not] at hb
        obtain ⟨p, hp⟩ := getI (l := P) (j := j) (by omega)
        have hgp := getV (f := pairV) hp
        have hip := hin p (List.mem_of_getElem? hp)
        have hpt := incPs_take (B := List.replicate n (0 : Int)) hp
        unfold inP at hip
        have hl2 := hil (P.take j)
        have hb2 := hib (P.take j) p.2.toNat
        rw [List.length_replicate] at hl2
        rw [List.length_take] at hb2
        generalize incPs (List.replicate n 0) (P.take j) = B at *
        have hgB := ints_getD (l := B) (i := p.2.toNat) (by omega)
        unfold incP at hpt
        refine AW.skip ?_
        refine hK9 _ _ _ ?_; clear hK9
        refine AW.seq fun K10 hK10 => ?_
        refine AW.block ?_
        refine AW.seq fun K11 hK11 => ?_
        -- region 8
        refine AW.regionK 0 (fun _ => none) [1, 4, 6, 23, 24, 25] [1, 6, 21] ?_
        simp only [go_sem, reduceIte, reduceCtorEq, Nat.reduceAdd, Nat.reduceMul, Nat.reduceEqDiff, Nat.reduceLT, Nat.reduceLeDiff, Nat.reduceSub, Nat.reducePow, Nat.reduceBEq, Int.reduceToNat, List.reduceReplicate, hlt, hgp, pairV]
        repeat with_reducible refine cj ?_ ?_
        all_goals try first | omega
        refine hK11 _ _ _ ?_; clear hK11
        -- region 9
        refine AW.regionK 0 (fun _ => none) [1, 4, 23, 24, 25] [1, 21] ?_
        simp only [go_sem, reduceIte, reduceCtorEq, Nat.reduceAdd, Nat.reduceMul, Nat.reduceEqDiff, Nat.reduceLT, Nat.reduceLeDiff, Nat.reduceSub, Nat.reducePow, Nat.reduceBEq, Int.reduceToNat, List.reduceReplicate, hlt, pairV, hgB, hl2]
        repeat with_reducible refine cj ?_ ?_
        all_goals try first | omega
        refine hK10 _ _ _ ?_; clear hK10
        -- region 10
        refine AW.regionK 0 (fun _ => none) [1, 4, 23, 24, 25] [1, 21] ?_
        simp only [go_sem, reduceIte, reduceCtorEq, Nat.reduceAdd, Nat.reduceMul, Nat.reduceEqDiff, Nat.reduceLT, Nat.reduceLeDiff, Nat.reduceSub, Nat.reducePow, Nat.reduceBEq, Int.reduceToNat, List.reduceReplicate, hlt]
        repeat with_reducible refine cj ?_ ?_
        all_goals try first | omega
        rw [← hQl1]
        change Exists _
        refine ⟨_, ?hm, j + 1, ?_, ?_, ?_, ?_, rfl, ?henv, ?hstore, ?hst⟩
        case henv =>
          repeat' (first | rfl | refine env_cons ?_ ?_ | refine st_cons ?_ ?_ ?_ ?_ | refine int_eq ?_ | refine bool_eq ?_ | refine rsl_eq ?_ | refine osl_eq ?_ | refine sl_eq ?_ ?_ ?_ | refine ptr_eq ?_ ?_ ?_ | refine agg_eq ?_ | refine es_cons ?_ ?_ | refine row_cons ?_ ?_)
          all_goals (first | (simp; done) | omega | (simp; omega))
        case hstore =>
          repeat' (first | rfl | refine env_cons ?_ ?_ | refine st_cons ?_ ?_ ?_ ?_ | refine int_eq ?_ | refine bool_eq ?_ | refine rsl_eq ?_ | refine osl_eq ?_ | refine sl_eq ?_ ?_ ?_ | refine ptr_eq ?_ ?_ ?_ | refine agg_eq ?_ | refine es_cons ?_ ?_ | refine row_cons ?_ ?_)
          all_goals (rw [hpt])
        case hst =>
          first | trivial | omega | (simp; done) | (simp; omega)
        case hm => omega
      · intro hb
        try simp only [hB, decide_eq_true_eq, decide_eq_false_iff_not] at hb
        have hj : j = P.length := by omega
        subst hj
        rw [List.take_of_length_le (Nat.le_refl _), hbf]
        refine AW.exit ?_
        rw [← hQl1]
        refine hK6 _ _ _ ?_; clear hK6
        refine AW.seq fun K12 hK12 => ?_
        -- region 11
        refine AW.regionK 0 (fun _ => none) [1, 4, 7] [1, 21] ?_
        simp only [go_sem, reduceIte, reduceCtorEq, Nat.reduceAdd, Nat.reduceMul, Nat.reduceEqDiff, Nat.reduceLT, Nat.reduceLeDiff, Nat.reduceSub, Nat.reducePow, Nat.reduceBEq, Int.reduceToNat, List.reduceReplicate, hlt]
        repeat with_reducible refine cj ?_ ?_
        all_goals try first | omega
        refine hK12 _ _ _ ?_; clear hK12
        refine AW.seq fun K13 hK13 => ?_
        refine AW.seq fun K14 hK14 => ?_
        -- region 12
        refine AW.regionK 0 (fun _ => none) [1, 4, 7, 39, 40] [1, 21] ?_
        simp only [go_sem, reduceIte, reduceCtorEq, Nat.reduceAdd, Nat.reduceMul, Nat.reduceEqDiff, Nat.reduceLT, Nat.reduceLeDiff, Nat.reduceSub, Nat.reducePow, Nat.reduceBEq, Int.reduceToNat, List.reduceReplicate, hlt]
        repeat with_reducible refine cj ?_ ?_
        all_goals try first | omega
        refine hK14 _ _ _ ?_; clear hK14
        refine AW.block ?_
        refine AW.nilOwn 7 200 1 (by simp only [go_sem, reduceIte, Nat.reduceEqDiff]) ?_
        refine AW.keep [1, 4, 7, 39, 40] [1, 21, 200] ?_
        simp only [go_sem, reduceIte, Nat.reduceEqDiff]
        -- loop 2
        refine AW.loopE (fun mm ee ss kk => ∃ (m g1 v1 g v g7 v7 : Nat) (out : List Nat), m + 1 = mm ∧ ee = [(1, .ptr ⟨1, g1, none⟩ 0 0), (4, .sl ⟨21, g, none⟩ 0 n none), (7, .sl ⟨200, g7, none⟩ 0 out.length none), (39, .int .i64 n), (40, .int .i64 out.length)] ∧ ss = [(1, some ⟨g1, v1, 1, [[.rsl 2 (tabR t)]]⟩), (21, some ⟨g, v, 1, ints (befO n t out)⟩), (200, some ⟨g7, v7, 1, ints (nats out)⟩)] ∧ (OrdI n t out ∧ out.length + m = n ∧ ordO n t m out = ordO n t n [])) ?_ ?_
        · refine ⟨_, n, ?_, ?_, ?_, ?_, ?_, ?_, [], rfl, ?henv, ?hstore, ?hst⟩
          case henv =>
            repeat' (first | rfl | refine env_cons ?_ ?_ | refine st_cons ?_ ?_ ?_ ?_ | refine int_eq ?_ | refine bool_eq ?_ | refine rsl_eq ?_ | refine osl_eq ?_ | refine sl_eq ?_ ?_ ?_ | refine ptr_eq ?_ ?_ ?_ | refine agg_eq ?_ | refine es_cons ?_ ?_ | refine row_cons ?_ ?_)
            all_goals (first | (simp; done) | omega | (simp; omega))
          case hstore =>
            repeat' (first | rfl | refine env_cons ?_ ?_ | refine st_cons ?_ ?_ ?_ ?_ | refine int_eq ?_ | refine bool_eq ?_ | refine rsl_eq ?_ | refine osl_eq ?_ | refine sl_eq ?_ ?_ ?_ | refine ptr_eq ?_ ?_ ?_ | refine agg_eq ?_ | refine es_cons ?_ ?_ | refine row_cons ?_ ?_)
            all_goals (first | (simp; done) | omega | (simp; omega))
          case hst =>
            exact ⟨OrdI.nil n t, by simp, rfl⟩
        rintro mm ee ss kk ⟨m, g1, v1, g, v, g7, v7, out, rfl, rfl, rfl, hI⟩
        generalize hQl2 : thenQ _ _ = Ql2
        obtain ⟨hoi, hom, hoo⟩ := hI
        refine AW.seq fun K15 hK15 => ?_
        -- region 13
        refine AW.regionK 0 (fun _ => none) [1, 4, 7, 39, 40, 41] [1, 21, 200] ?_
        simp only [go_sem, reduceIte, reduceCtorEq, Nat.reduceAdd, Nat.reduceMul, Nat.reduceEqDiff, Nat.reduceLT, Nat.reduceLeDiff, Nat.reduceSub, Nat.reducePow, Nat.reduceBEq, Int.reduceToNat, List.reduceReplicate, hlt]
        repeat with_reducible refine cj ?_ ?_
        all_goals try first | omega
        refine hK15 _ _ _ ?_; clear hK15
        refine AW.seq fun K16 hK16 => ?_
        -- cond 4
        refine AW.cond rfl (by simp only [go_sem, reduceIte, reduceCtorEq, Nat.reduceAdd, Nat.reduceMul, Nat.reduceEqDiff, Nat.reduceLT, Nat.reduceLeDiff, Nat.reduceSub, Nat.reducePow, Nat.reduceBEq, Int.reduceToNat, List.reduceReplicate]) ?_ ?_
        · intro hb
          try simp only [hB, decide_eq_true_eq, decide_eq_false_iff_not] at hb
          obtain ⟨m, rfl⟩ : ∃ m', m = m' + 1 := ⟨m - 1, by omega⟩
          obtain ⟨i, hi1, hi2, hi3⟩ := OrdI.next hs hac (out := out) (by omega)
          have hix := befO_ix hi1
          have hbl := befO_len n t out
          have hidx := index_r (befO n t out) 0 (by omega)
          rw [hix] at hidx
          have hst := befO_step hs hac hoi hi2 hi3
          have hsn := hoi.snoc hi2 hi3
          have hoo2 : ordO n t m (out ++ [i]) = ordO n t n [] := by rw [← hoo]; show _ = ordO n t (m + 1) out; unfold ordO; rw [hi1]; cases m <;> rfl
          have hbr : ∀ j, j < n → -1 ≤ (befO n t out).getD j 0 ∧ (befO n t out).getD j 0 ≤ n := fun j hj => by
            rw [befO_get hj]
            have : cntO n t out j ≤ n := by unfold cntO; have := List.length_filter_le (fun k => atT t k j && !out.contains k) (List.range n); simp at this ⊢; exact this
            split <;> omega
          generalize befO n t out = B at *
          have htb : (ints B).take n = ints B := List.take_of_length_le (by rw [ints_len]; omega)
          have hto : (ints (nats out)).take out.length = ints (nats out) := List.take_of_length_le (by rw [ints_len, nats_len]; exact Nat.le_refl _)
          have hbl2 : (B.set i (-1)).length = n := by simp [hbl]
          have hdl := decJ_len t i (B.set i (-1))
          have hdg := fun j => decJ_get t i (B.set i (-1)) j
          have hbr2 : ∀ j, j < n → -1 ≤ (B.set i (-1)).getD j 0 ∧ (B.set i (-1)).getD j 0 ≤ n := fun j hj => by
            by_cases e : i = j
            · subst e; rw [Go.AM.getD_set_eq (by omega)]; omega
            · rw [Go.AM.getD_set_ne e]; exact hbr j hj
          refine AW.skip ?_
          refine hK16 _ _ _ ?_; clear hK16
          refine AW.seq fun K17 hK17 => ?_
          refine AW.block ?_
          refine AW.seq fun K18 hK18 => ?_
          -- region 14
          refine AW.regionK 0 (fun ii => if ii = 1 then some (.reads true (.int .i64 (i : Nat))) else none) [1, 4, 7, 8, 39, 40] [1, 21, 200] ?_
          simp only [go_sem, reduceIte, reduceCtorEq, Nat.reduceAdd, Nat.reduceMul, Nat.reduceEqDiff, Nat.reduceLT, Nat.reduceLeDiff, Nat.reduceSub, Nat.reducePow, Nat.reduceBEq, Int.reduceToNat, List.reduceReplicate, hlt, htb]
          repeat with_reducible refine cj ?_ ?_
          all_goals try first | (exact Reads.flat hidx rfl) | omega | exact ent (by kernel_rfl)
          refine hK18 _ _ _ ?_; clear hK18
          refine AW.seq fun K19 hK19 => ?_
          -- region 15
          refine AW.regionK 0 (fun _ => none) [1, 4, 7, 8, 39, 40] [1, 21, 200] ?_
          simp only [go_sem, reduceIte, reduceCtorEq, Nat.reduceAdd, Nat.reduceMul, Nat.reduceEqDiff, Nat.reduceLT, Nat.reduceLeDiff, Nat.reduceSub, Nat.reducePow, Nat.reduceBEq, Int.reduceToNat, List.reduceReplicate, hlt, hto, ints_app, nats_app, nats_len]
          repeat with_reducible refine cj ?_ ?_
          all_goals try first | omega | (simp [scP, scalar]; done) | exact scP_words _ | exact scP_ints _ | exact scP_bools _
          refine hK19 _ _ _ ?_; clear hK19
          refine AW.seq fun K20 hK20 => ?_
          -- region 16
          refine AW.regionK 0 (fun _ => none) [1, 4, 7, 8, 39, 40] [1, 21, 200] ?_
          simp only [go_sem, reduceIte, reduceCtorEq, Nat.reduceAdd, Nat.reduceMul, Nat.reduceEqDiff, Nat.reduceLT, Nat.reduceLeDiff, Nat.reduceSub, Nat.reducePow, Nat.reduceBEq, Int.reduceToNat, List.reduceReplicate, hlt, hbl]
          repeat with_reducible refine cj ?_ ?_
          all_goals try first | omega
          refine hK20 _ _ _ ?_; clear hK20
          refine AW.seq fun K21 hK21 => ?_
          -- region 17
          refine AW.regionK 0 (fun _ => none) [1, 4, 7, 8, 39, 40, 53, 54] [1, 21, 200] ?_
          simp only [go_sem, reduceIte, reduceCtorEq, Nat.reduceAdd, Nat.reduceMul, Nat.reduceEqDiff, Nat.reduceLT, Nat.reduceLeDiff, Nat.reduceSub, Nat.reducePow, Nat.reduceBEq, Int.reduceToNat, List.reduceReplicate, hlt]
          repeat with_reducible refine cj ?_ ?_
          all_goals try first | omega
          refine hK21 _ _ _ ?_; clear hK21
          refine AW.block ?_
          -- loop 3
          refine AW.loopE (fun mm ee ss kk => ∃ (j g1 v1 g v g7 v7 : Nat), n - j = mm ∧ ee = [(1, .ptr ⟨1, g1, none⟩ 0 0), (4, .sl ⟨21, g, none⟩ 0 n none), (7, .sl ⟨200, g7, none⟩ 0 (out ++ [i]).length none), (8, .int .i64 (i : Nat)), (39, .int .i64 n), (40, .int .i64 out.length), (53, .int .i64 n), (54, .int .i64 (j : Nat))] ∧ ss = [(1, some ⟨g1, v1, 1, [[.rsl 2 (tabR t)]]⟩), (21, some ⟨g, v, 1, ints (iter (decJ t i) j (B.set i (-1)))⟩), (200, some ⟨g7, v7, 1, ints (nats (out ++ [i]))⟩)] ∧ (j ≤ n)) ?_ ?_
          · refine ⟨_, 0, ?_, ?_, ?_, ?_, ?_, ?_, rfl, ?henv, ?hstore, ?hst⟩
            case henv =>
              repeat' (first | rfl | refine env_cons ?_ ?_ | refine st_cons ?_ ?_ ?_ ?_ | refine int_eq ?_ | refine bool_eq ?_ | refine rsl_eq ?_ | refine osl_eq ?_ | refine sl_eq ?_ ?_ ?_ | refine ptr_eq ?_ ?_ ?_ | refine agg_eq ?_ | refine es_cons ?_ ?_ | refine row_cons ?_ ?_)
              all_goals (first | (simp; done) | omega | (simp; omega))
            case hstore =>
              repeat' (first | rfl | refine env_cons ?_ ?_ | refine st_cons ?_ ?_ ?_ ?_ | refine int_eq ?_ | refine bool_eq ?_ | refine rsl_eq ?_ | refine osl_eq ?_ | refine sl_eq ?_ ?_ ?_ | refine ptr_eq ?_ ?_ ?_ | refine agg_eq ?_ | refine es_cons ?_ ?_ | refine row_cons ?_ ?_)
              all_goals (first | (simp; done) | omega | (simp; omega))
            case hst =>
              first | trivial | omega | (simp; done) | (simp; omega)
          rintro mm ee ss kk ⟨j, g1, v1, g, v, g7, v7, rfl, rfl, rfl, hI⟩
          generalize hQl3 : thenQ _ _ = Ql3
          refine AW.seq fun K22 hK22 => ?_
          -- region 18
          refine AW.regionK 0 (fun _ => none) [1, 4, 7, 8, 39, 40, 53, 54, 55] [1, 21, 200] ?_
          simp only [go_sem, reduceIte, reduceCtorEq, Nat.reduceAdd, Nat.reduceMul, Nat.reduceEqDiff, Nat.reduceLT, Nat.reduceLeDiff, Nat.reduceSub, Nat.reducePow, Nat.reduceBEq, Int.reduceToNat, List.reduceReplicate, hlt]
          repeat with_reducible refine cj ?_ ?_
          all_goals try first | omega
          refine hK22 _ _ _ ?_; clear hK22
          refine AW.seq fun K23 hK23 => ?_
          -- cond 5
          refine AW.cond rfl (by simp only [go_sem, reduceIte, reduceCtorEq, Nat.reduceAdd, Nat.reduceMul, Nat.reduceEqDiff, Nat.reduceLT, Nat.reduceLeDiff, Nat.reduceSub, Nat.reducePow, Nat.reduceBEq, Int.reduceToNat, List.reduceReplicate]) ?_ ?_
          · intro hb
            try simp only [hB, decide_eq_true_eq, decide_eq_false_iff_not] at hb
            have hhr := hh2 i j (by omega) (by omega)
            have hus : iter (decJ t i) (j + 1) (B.set i (-1)) = decJ t i j (iter (decJ t i) j (B.set i (-1))) := rfl
            rw [decJ_eq] at hus
            have hl2 := hdl j
            have hg2 := hdg j j (by omega)
            rw [if_neg (by omega)] at hg2
            have hb2 := hbr2 j (by omega)
            generalize iter (decJ t i) j (B.set i (-1)) = U at *
            have hgU := ints_getD (l := U) (i := j) (by omega)
            refine AW.skip ?_
            refine hK23 _ _ _ ?_; clear hK23
            refine AW.seq fun K24 hK24 => ?_
            refine AW.block ?_
            refine AW.seq fun K25 hK25 => ?_
            -- region 19
            refine AW.regionK 0 (fun _ => none) [1, 4, 7, 8, 9, 39, 40, 53, 54] [1, 21, 200] ?_
            simp only [go_sem, reduceIte, reduceCtorEq, Nat.reduceAdd, Nat.reduceMul, Nat.reduceEqDiff, Nat.reduceLT, Nat.reduceLeDiff, Nat.reduceSub, Nat.reducePow, Nat.reduceBEq, Int.reduceToNat, List.reduceReplicate, hlt]
            repeat with_reducible refine cj ?_ ?_
            all_goals try first | omega
            refine hK25 _ _ _ ?_; clear hK25
            refine AW.seq fun K26 hK26 => ?_
            -- region 20
            refine AW.regionK 0 (fun ii => if ii = 3 then some (.reads false (.bool (atT t i j))) else none) [1, 4, 7, 8, 9, 39, 40, 53, 54, 60] [1, 21, 200] ?_
            simp only [go_sem, reduceIte, reduceCtorEq, Nat.reduceAdd, Nat.reduceMul, Nat.reduceEqDiff, Nat.reduceLT, Nat.reduceLeDiff, Nat.reduceSub, Nat.reducePow, Nat.reduceBEq, Int.reduceToNat, List.reduceReplicate, hlt]
            repeat with_reducible refine cj ?_ ?_
            all_goals try first | (exact hhr) | omega | exact ent (by kernel_rfl)
            refine hK26 _ _ _ ?_; clear hK26
            -- cond 6
            refine AW.cond rfl (by simp only [go_sem, reduceIte, reduceCtorEq, Nat.reduceAdd, Nat.reduceMul, Nat.reduceEqDiff, Nat.reduceLT, Nat.reduceLeDiff, Nat.reduceSub, Nat.reducePow, Nat.reduceBEq, Int.reduceToNat, List.reduceReplicate]) ?_ ?_
            · intro hb
              try simp only [hB, decide_eq_true_eq, decide_eq_false_iff_not] at hb
              rw [if_pos hb] at hus
              -- region 21
              refine AW.regionK 0 (fun _ => none) [1, 4, 7, 8, 39, 40, 53, 54] [1, 21, 200] ?_
              simp only [go_sem, reduceIte, reduceCtorEq, Nat.reduceAdd, Nat.reduceMul, Nat.reduceEqDiff, Nat.reduceLT, Nat.reduceLeDiff, Nat.reduceSub, Nat.reducePow, Nat.reduceBEq, Int.reduceToNat, List.reduceReplicate, hlt, hgU]
              repeat with_reducible refine cj ?_ ?_
              all_goals try first | omega
              refine hK24 _ _ _ ?_; clear hK24
              -- region 22
              refine AW.regionK 0 (fun _ => none) [1, 4, 7, 8, 39, 40, 53, 54] [1, 21, 200] ?_
              simp only [go_sem, reduceIte, reduceCtorEq, Nat.reduceAdd, Nat.reduceMul, Nat.reduceEqDiff, Nat.reduceLT, Nat.reduceLeDiff, Nat.reduceSub, Nat.reducePow, Nat.reduceBEq, Int.reduceToNat, List.reduceReplicate, hlt]
              repeat with_reducible refine cj ?_ ?_
              all_goals try first | omega
              rw [← hQl3]
              change Exists _
              refine ⟨_, ?hm, j + 1, ?_, ?_, ?_, ?_, ?_, ?_, rfl, ?henv, ?hstore, ?hst⟩
              case henv =>
                repeat' (first | rfl | refine env_cons ?_ ?_ | refine st_cons ?_ ?_ ?_ ?_ | refine int_eq ?_ | refine bool_eq ?_ | refine rsl_eq ?_ | refine osl_eq ?_ | refine sl_eq ?_ ?_ ?_ | refine ptr_eq ?_ ?_ ?_ | refine agg_eq ?_ | refine es_cons ?_ ?_ | refine row_cons ?_ ?_)
                all_goals (first | (simp; done) | omega | (simp; omega))
              case hstore =>
                repeat' (first | rfl | refine env_cons ?_ ?_ | refine st_cons ?_ ?_ ?_ ?_ | refine int_eq ?_ | refine bool_eq ?_ | refine rsl_eq ?_ | refine osl_eq ?_ | refine sl_eq ?_ ?_ ?_ | refine ptr_eq ?_ ?_ ?_ | refine agg_eq ?_ | refine es_cons ?_ ?_ | refine row_cons ?_ ?_)
                all_goals (rw [hus])
              case hst =>
                first | trivial | omega | (simp; done) | (simp; omega)
              case hm => omega
            · intro hb
              try simp only [hB, decide_eq_true_eq, decide_eq_false_iff_not] at hb
              rw [if_neg (by rw [hb]; simp)] at hus
              refine AW.skip ?_
              refine hK24 _ _ _ ?_; clear hK24
              -- region 22
              refine AW.regionK 0 (fun _ => none) [1, 4, 7, 8, 39, 40, 53, 54] [1, 21, 200] ?_
              simp only [go_sem, reduceIte, reduceCtorEq, Nat.reduceAdd, Nat.reduceMul, Nat.reduceEqDiff, Nat.reduceLT, Nat.reduceLeDiff, Nat.reduceSub, Nat.reducePow, Nat.reduceBEq, Int.reduceToNat, List.reduceReplicate, hlt]
              repeat with_reducible refine cj ?_ ?_
              all_goals try first | omega
              rw [← hQl3]
              change Exists _
              refine ⟨_, ?hm, j + 1, ?_, ?_, ?_, ?_, ?_, ?_, rfl, ?henv, ?hstore, ?hst⟩
              case henv =>
                repeat' (first | rfl | refine env_cons ?_ ?_ | refine st_cons ?_ ?_ ?_ ?_ | refine int_eq ?_ | refine bool_eq ?_ | refine rsl_eq ?_ | refine osl_eq ?_ | refine sl_eq ?_ ?_ ?_ | refine ptr_eq ?_ ?_ ?_ | refine agg_eq ?_ | refine es_cons ?_ ?_ | refine row_cons ?_ ?_)
                all_goals (first | (simp; done) | omega | (simp; omega))
              case hstore =>
                repeat' (first | rfl | refine env_cons ?_ ?_ | refine st_cons ?_ ?_ ?_ ?_ | refine int_eq ?_ | refine bool_eq ?_ | refine rsl_eq ?_ | refine osl_eq ?_ | refine sl_eq ?_ ?_ ?_ | refine ptr_eq ?_ ?_ ?_ | refine agg_eq ?_ | refine es_cons ?_ ?_ | refine row_cons ?_ ?_)
                all_goals (rw [hus])
              case hst =>
                first | trivial | omega | (simp; done) | (simp; omega)
              case hm => omega
          · intro hb
            try simp only [hB, decide_eq_true_eq, decide_eq_false_iff_not] at hb
            have hj : j = n := by omega
            subst hj
            rw [hst]
            refine AW.exit ?_
            rw [← hQl3]
            refine hK17 _ _ _ ?_; clear hK17
            -- region 23
            refine AW.regionK 0 (fun _ => none) [1, 4, 7, 39, 40] [1, 21, 200] ?_
            simp only [go_sem, reduceIte, reduceCtorEq, Nat.reduceAdd, Nat.reduceMul, Nat.reduceEqDiff, Nat.reduceLT, Nat.reduceLeDiff, Nat.reduceSub, Nat.reducePow, Nat.reduceBEq, Int.reduceToNat, List.reduceReplicate, hlt]
            repeat with_reducible refine cj ?_ ?_
            all_goals try first | omega
            rw [← hQl2]
            change Exists _
            refine ⟨_, ?hm, m, ?_, ?_, ?_, ?_, ?_, ?_, out ++ [i], rfl, ?henv, ?hstore, ?hst⟩
            case henv =>
              repeat' (first | rfl | refine env_cons ?_ ?_ | refine st_cons ?_ ?_ ?_ ?_ | refine int_eq ?_ | refine bool_eq ?_ | refine rsl_eq ?_ | refine osl_eq ?_ | refine sl_eq ?_ ?_ ?_ | refine ptr_eq ?_ ?_ ?_ | refine agg_eq ?_ | refine es_cons ?_ ?_ | refine row_cons ?_ ?_)
              all_goals (first | (simp; done) | omega | (simp; omega))
            case hstore =>
              repeat' (first | rfl | refine env_cons ?_ ?_ | refine st_cons ?_ ?_ ?_ ?_ | refine int_eq ?_ | refine bool_eq ?_ | refine rsl_eq ?_ | refine osl_eq ?_ | refine sl_eq ?_ ?_ ?_ | refine ptr_eq ?_ ?_ ?_ | refine agg_eq ?_ | refine es_cons ?_ ?_ | refine row_cons ?_ ?_)
              all_goals (first | (simp; done) | omega | (simp; omega))
            case hst =>
              exact ⟨hsn, by simp; omega, hoo2⟩
            case hm => omega
        · intro hb
          try simp only [hB, decide_eq_true_eq, decide_eq_false_iff_not] at hb
          refine AW.exit ?_
          rw [← hQl2]
          refine hK13 _ _ _ ?_; clear hK13
          refine AW.seq fun K27 hK27 => ?_
          -- region 24
          refine AW.regionK 0 (fun _ => none) [2, 3] [200] ?_
          simp only [go_sem, reduceIte, reduceCtorEq, Nat.reduceAdd, Nat.reduceMul, Nat.reduceEqDiff, Nat.reduceLT, Nat.reduceLeDiff, Nat.reduceSub, Nat.reducePow, Nat.reduceBEq, Int.reduceToNat, List.reduceReplicate, hlt]
          repeat with_reducible refine cj ?_ ?_
          all_goals try first | omega
          refine hK27 _ _ _ ?_; clear hK27
          refine AW.ret ?_
          rw [← hQr]
          simp only [go_sem, reduceIte, reduceCtorEq, Nat.reduceAdd, Nat.reduceMul, Nat.reduceEqDiff, Nat.reduceLT, Nat.reduceLeDiff, Nat.reduceSub, Nat.reducePow, Nat.reduceBEq, Int.reduceToNat, List.reduceReplicate, hlt]
          have hm0 : m = 0 := by omega
          subst hm0
          have hor : out = ordO n t n [] := hoo
          rw [← hor, List.take_of_length_le (by rw [nats_len]; exact Nat.le_refl _)]
          exact Wk.refl _
end Go.Proofs.P

namespace Go.Proofs.P
open Go.AM Go
set_option maxRecDepth 100000
set_option maxHeartbeats 2000000
attribute [-go_sem] globA_0
theorem tz_c (x q k : Nat) (G : List AV) (hg : globA 0 = some G) (h0 : x ≠ 0) (hq : bShr .u64 (IntKind.u64.wrap (bAnd .u64 (x : Int) (IntKind.u64.wrap (0 - (x : Int))) * 285870213051353865)) 58 = (q : Int)) (hq1 : q < 64) (hd : (List.drop q G).getD 0 .any = .int .u8 (k : Int)) (hdl : (List.drop q G).length = 64 - q) (hw : IntKind.i64.wrap (k : Int) = k) : Reads Tryd.prog 88 false [.int .u64 (x : Nat)] (.int .i64 (k : Nat)) := by
  refine Reads.body (rs := [.tmp 2]) Tryd.func88 rfl Tryd.ntmps88 rfl (by simp) ?_
  generalize hQr : retQ _ _ _ = Qr
  refine AW.seq fun K1 hK1 => ?_
  -- region 0
  refine AW.regionK 0 (fun _ => none) [0] [] ?_
  simp only [go_sem, reduceIte, reduceCtorEq, Nat.reduceAdd, Nat.reduceMul, Nat.reduceEqDiff, Nat.reduceLT, Nat.reduceLeDiff, Nat.reduceSub, Nat.reducePow, Nat.reduceBEq, Int.reduceToNat, List.reduceReplicate]
  repeat with_reducible refine cj ?_ ?_
  all_goals try first | omega
  refine hK1 _ _ _ ?_; clear hK1
  refine AW.seq fun K2 hK2 => ?_
  refine AW.seq fun K3 hK3 => ?_
  -- region 1
  refine AW.regionK 0 (fun _ => none) [0, 4] [] ?_
  simp only [go_sem, reduceIte, reduceCtorEq, Nat.reduceAdd, Nat.reduceMul, Nat.reduceEqDiff, Nat.reduceLT, Nat.reduceLeDiff, Nat.reduceSub, Nat.reducePow, Nat.reduceBEq, Int.reduceToNat, List.reduceReplicate]
  repeat with_reducible refine cj ?_ ?_
  all_goals try first | omega
  refine hK3 _ _ _ ?_; clear hK3
  -- cond 1
  refine AW.cond rfl (by simp only [go_sem, reduceIte, reduceCtorEq, Nat.reduceAdd, Nat.reduceMul, Nat.reduceEqDiff, Nat.reduceLT, Nat.reduceLeDiff, Nat.reduceSub, Nat.reducePow, Nat.reduceBEq, Int.reduceToNat, List.reduceReplicate]) ?_ ?_
  · intro hb
    try simp only [hB, decide_eq_true_eq, decide_eq_false_iff_not] at hb
    exfalso; omega
  · intro hb
    try simp only [hB, decide_eq_true_eq, decide_eq_false_iff_not] at hb
    refine AW.skip ?_
    refine hK2 _ _ _ ?_; clear hK2
    refine AW.seq fun K4 hK4 => ?_
    -- region 3
    refine AW.regionK 0 (fun _ => none) [2] [] ?_
    simp only [go_sem, reduceIte, reduceCtorEq, Nat.reduceAdd, Nat.reduceMul, Nat.reduceEqDiff, Nat.reduceLT, Nat.reduceLeDiff, Nat.reduceSub, Nat.reducePow, Nat.reduceBEq, Int.reduceToNat, List.reduceReplicate, hg, hq, hd, hdl, hw, Int.toNat_natCast, Nat.mul_one]
    repeat with_reducible refine cj ?_ ?_
    all_goals try first | omega
    refine hK4 _ _ _ ?_; clear hK4
    refine AW.ret ?_
    rw [← hQr]
    simp only [go_sem, reduceIte, reduceCtorEq, Nat.reduceAdd, Nat.reduceMul, Nat.reduceEqDiff, Nat.reduceLT, Nat.reduceLeDiff, Nat.reduceSub, Nat.reducePow, Nat.reduceBEq, Int.reduceToNat, List.reduceReplicate]
    exact Wk.refl _
theorem tz_r (x : Nat) (hx : x < 18446744073709551616) (h0 : x ≠ 0) (k : Nat) (hk : k < 64) (hl : x &&& (18446744073709551616 - x) = 2 ^ k) : Reads Tryd.prog 88 false [.int .u64 (x : Nat)] (.int .i64 (k : Nat)) :=
  tz_c x _ k tzA globA_0 h0 (tz_ix hx h0 hk hl) (tz_look k hk).1 (tzA_get (tz_look k hk).1 (tz_look k hk).2) (tzA_len _) (wrapI (by omega))
end Go.Proofs.P

/- The members of a set, word by word. -/
namespace Go.AM
def memK (W : List Int) (k : Nat) : List Nat := (bitsW (W.getD k 0).toNat).map fun j => 64 * k + j
def memT (W : List Int) (k : Nat) : List Nat := (List.range k).flatMap (memK W)
theorem memT_succ (W : List Int) (k : Nat) : memT W (k + 1) = memT W k ++ memK W k := by
  unfold memT; rw [List.range_succ, List.flatMap_append]; simp
theorem memT_len (W : List Int) : ∀ k, (memT W k).length ≤ 64 * k
  | 0 => by simp [memT]
  | k + 1 => by
    rw [memT_succ, List.length_append]
    have := memT_len W k
    have h2 : (memK W k).length ≤ 64 := by
      unfold memK bitsW; rw [List.length_map]
      exact Nat.le_trans (List.length_filter_le _ _) (by simp)
    omega
theorem range_add (p : Nat → Bool) (a : Nat) : ∀ b, (List.range (a + b)).filter p = (List.range a).filter p ++ ((List.range b).filter fun j => p (a + j)).map fun j => a + j
  | 0 => by simp
  | b + 1 => by
    rw [← Nat.add_assoc, List.range_succ, List.filter_append, range_add p a b, List.range_succ, List.filter_append, List.map_append, List.append_assoc]
    congr 2
    simp only [List.filter_cons, List.filter_nil]
    split <;> simp
/-- The members are the places that have their bit. -/
theorem memT_filter {W : List Int} (hW : okW W) : ∀ k, memT W k = (List.range (64 * k)).filter fun (i : Nat) => hasW W (i : Int)
  | 0 => by simp [memT]
  | k + 1 => by
    rw [memT_succ, memT_filter hW k, Nat.mul_succ, range_add]
    congr 1
    unfold memK bitsW
    congr 1
    refine List.filter_congr fun j hj => ?_
    have hj := List.mem_range.1 hj
    rw [hasW_nat hW, show (64 * k + j) / 64 = k by omega, show (64 * k + j) % 64 = j by omega]
end Go.AM

namespace Go.Proofs.P
open Go.AM Go
set_option maxRecDepth 100000
set_option maxHeartbeats 2000000
theorem members_r (N : Int) (W : List Int) (hv : validS N W = true) (hW : okW W) : Reads Tryd.prog 64 false [.agg [.int .i64 N, .rsl 1 (words W)]] (.tup [.rsl 1 (ints (nats (memT W W.length))), .int .i64 ((0 : Nat) : Int)]) := by
  obtain ⟨hN0, hN1, hNl⟩ := validS_sz hv
  have hwr := wordsN_rng hN0
  have h := bvalid_r N W (by omega)
  rw [hv] at h
  have hml := memT_len W
  refine Reads.body (rs := [.tmp 2, .tmp 3]) Tryd.func64 rfl Tryd.ntmps64 rfl (by simp) ?_
  generalize hQr : retQ _ _ _ = Qr
  refine AW.seq fun K1 hK1 => ?_
  -- region 0
  refine AW.regionK 0 (fun _ => none) [1] [1] ?_
  simp only [go_sem, reduceIte, reduceCtorEq, Nat.reduceAdd, Nat.reduceMul, Nat.reduceEqDiff, Nat.reduceLT, Nat.reduceLeDiff, Nat.reduceSub, Nat.reducePow, Nat.reduceBEq, Int.reduceToNat, List.reduceReplicate]
  repeat with_reducible refine cj ?_ ?_
  all_goals try first | omega
  refine hK1 _ _ _ ?_; clear hK1
  refine AW.seq fun K2 hK2 => ?_
  refine AW.seq fun K3 hK3 => ?_
  -- region 1
  refine AW.regionK 0 (fun ii => if ii = 1 then some (.reads false (.bool true)) else none) [1, 9] [1] ?_
  simp only [go_sem, reduceIte, reduceCtorEq, Nat.reduceAdd, Nat.reduceMul, Nat.reduceEqDiff, Nat.reduceLT, Nat.reduceLeDiff, Nat.reduceSub, Nat.reducePow, Nat.reduceBEq, Int.reduceToNat, List.reduceReplicate]
  repeat with_reducible refine cj ?_ ?_
  all_goals try first | (exact h) | omega | exact ent (by kernel_rfl)
  refine hK3 _ _ _ ?_; clear hK3
  -- cond 1
  refine AW.cond rfl (by simp only [go_sem, reduceIte, reduceCtorEq, Nat.reduceAdd, Nat.reduceMul, Nat.reduceEqDiff, Nat.reduceLT, Nat.reduceLeDiff, Nat.reduceSub, Nat.reducePow, Nat.reduceBEq, Int.reduceToNat, List.reduceReplicate]) ?_ ?_
  · intro hb
    try simp only [hB, decide_eq_true_eq, decide_eq_false_iff_not] at hb
    simp at hb
  · intro hb
    try simp only [hB, decide_eq_true_eq, decide_eq_false_iff_not] at hb
    refine AW.skip ?_
    refine hK2 _ _ _ ?_; clear hK2
    refine AW.seq fun K4 hK4 => ?_
    -- region 3
    refine AW.regionK 0 (fun _ => none) [1, 4] [1] ?_
    simp only [go_sem, reduceIte, reduceCtorEq, Nat.reduceAdd, Nat.reduceMul, Nat.reduceEqDiff, Nat.reduceLT, Nat.reduceLeDiff, Nat.reduceSub, Nat.reducePow, Nat.reduceBEq, Int.reduceToNat, List.reduceReplicate]
    repeat with_reducible refine cj ?_ ?_
    all_goals try first | omega
    refine hK4 _ _ _ ?_; clear hK4
    refine AW.seq fun K5 hK5 => ?_
    refine AW.seq fun K6 hK6 => ?_
    -- region 4
    refine AW.regionK 0 (fun _ => none) [4, 11, 12, 13] [] ?_
    simp only [go_sem, reduceIte, reduceCtorEq, Nat.reduceAdd, Nat.reduceMul, Nat.reduceEqDiff, Nat.reduceLT, Nat.reduceLeDiff, Nat.reduceSub, Nat.reducePow, Nat.reduceBEq, Int.reduceToNat, List.reduceReplicate]
    repeat with_reducible refine cj ?_ ?_
    all_goals try first | omega
    refine hK6 _ _ _ ?_; clear hK6
    refine AW.block ?_
    refine AW.nilOwn 4 200 1 (by simp only [go_sem, reduceIte, Nat.reduceEqDiff]) ?_
    refine AW.keep [4, 11, 12, 13] [200] ?_
    simp only [go_sem, reduceIte, Nat.reduceEqDiff]
    -- loop 1
    refine AW.loopE (fun mm ee ss kk => ∃ (k g v : Nat) (out : List Nat), W.length - k = mm ∧ ee = [(4, .sl ⟨200, g, none⟩ 0 out.length none), (11, .rsl 1 (words W)), (12, .int .i64 W.length), (13, .int .i64 (k : Nat))] ∧ ss = [(200, some ⟨g, v, 1, ints (nats out)⟩)] ∧ (k ≤ W.length ∧ out = memT W k)) ?_ ?_
    · refine ⟨_, 0, ?_, ?_, [], rfl, ?henv, ?hstore, ?hst⟩
      case henv =>
        repeat' (first | rfl | refine env_cons ?_ ?_ | refine st_cons ?_ ?_ ?_ ?_ | refine int_eq ?_ | refine bool_eq ?_ | refine rsl_eq ?_ | refine osl_eq ?_ | refine sl_eq ?_ ?_ ?_ | refine ptr_eq ?_ ?_ ?_ | refine agg_eq ?_ | refine es_cons ?_ ?_ | refine row_cons ?_ ?_)
        all_goals (first | (simp; done) | omega | (simp; omega))
      case hstore =>
        repeat' (first | rfl | refine env_cons ?_ ?_ | refine st_cons ?_ ?_ ?_ ?_ | refine int_eq ?_ | refine bool_eq ?_ | refine rsl_eq ?_ | refine osl_eq ?_ | refine sl_eq ?_ ?_ ?_ | refine ptr_eq ?_ ?_ ?_ | refine agg_eq ?_ | refine es_cons ?_ ?_ | refine row_cons ?_ ?_)
        all_goals (simp [ints, nats])
      case hst =>
        exact ⟨Nat.zero_le _, rfl⟩
    rintro mm ee ss kk ⟨k, g, v, out, rfl, rfl, rfl, hI⟩
    generalize hQl1 : thenQ _ _ = Ql1
    obtain ⟨hk, hout⟩ := hI
    refine AW.seq fun K7 hK7 => ?_
    -- region 5
    refine AW.regionK 0 (fun _ => none) [4, 11, 12, 13, 14] [200] ?_
    simp only [go_sem, reduceIte, reduceCtorEq, Nat.reduceAdd, Nat.reduceMul, Nat.reduceEqDiff, Nat.reduceLT, Nat.reduceLeDiff, Nat.reduceSub, Nat.reducePow, Nat.reduceBEq, Int.reduceToNat, List.reduceReplicate]
    repeat with_reducible refine cj ?_ ?_
    all_goals try first | omega
    refine hK7 _ _ _ ?_; clear hK7
    refine AW.seq fun K8 hK8 => ?_
    -- cond 2
    refine AW.cond rfl (by simp only [go_sem, reduceIte, reduceCtorEq, Nat.reduceAdd, Nat.reduceMul, Nat.reduceEqDiff, Nat.reduceLT, Nat.reduceLeDiff, Nat.reduceSub, Nat.reducePow, Nat.reduceBEq, Int.reduceToNat, List.reduceReplicate]) ?_ ?_
    · intro hb
      try simp only [hB, decide_eq_true_eq, decide_eq_false_iff_not] at hb
      have hgw := words_getD (l := W) (i := k) (by omega)
      have hwk := hW k
      have hms := memT_succ W k
      have hmk : memK W k = (bitsW (W.getD k 0).toNat).map fun j => 64 * k + j := rfl
      obtain ⟨x, hx⟩ : ∃ x : Nat, W.getD k 0 = (x : Int) := ⟨_, (Int.toNat_of_nonneg hwk.1).symm⟩
      have hxl : x < 18446744073709551616 := by omega
      have hmb := hml (k + 1)
      rw [hx, Int.toNat_natCast] at hmk
      rw [hx] at hgw
      rw [hmk] at hms
      refine AW.skip ?_
      refine hK8 _ _ _ ?_; clear hK8
      refine AW.seq fun K9 hK9 => ?_
      refine AW.block ?_
      refine AW.seq fun K10 hK10 => ?_
      -- region 6
      refine AW.regionK 0 (fun _ => none) [4, 5, 6, 11, 12, 13] [200] ?_
      simp only [go_sem, reduceIte, reduceCtorEq, Nat.reduceAdd, Nat.reduceMul, Nat.reduceEqDiff, Nat.reduceLT, Nat.reduceLeDiff, Nat.reduceSub, Nat.reducePow, Nat.reduceBEq, Int.reduceToNat, List.reduceReplicate, hgw]
      repeat with_reducible refine cj ?_ ?_
      all_goals try first | omega
      refine hK10 _ _ _ ?_; clear hK10
      refine AW.block ?_
      -- loop 2
      refine AW.loopE (fun mm ee ss kk => ∃ (y g v : Nat) (o2 : List Nat), y + 1 = mm ∧ ee = [(4, .sl ⟨200, g, none⟩ 0 o2.length none), (5, .int .i64 (k : Nat)), (6, .int .u64 (y : Nat)), (11, .rsl 1 (words W)), (12, .int .i64 W.length), (13, .int .i64 (k : Nat))] ∧ ss = [(200, some ⟨g, v, 1, ints (nats o2)⟩)] ∧ (y < 18446744073709551616 ∧ memT W (k + 1) = o2 ++ (bitsW y).map fun j => 64 * k + j)) ?_ ?_
      · refine ⟨_, x, ?_, ?_, out, rfl, ?henv, ?hstore, ?hst⟩
        case henv =>
          repeat' (first | rfl | refine env_cons ?_ ?_ | refine st_cons ?_ ?_ ?_ ?_ | refine int_eq ?_ | refine bool_eq ?_ | refine rsl_eq ?_ | refine osl_eq ?_ | refine sl_eq ?_ ?_ ?_ | refine ptr_eq ?_ ?_ ?_ | refine agg_eq ?_ | refine es_cons ?_ ?_ | refine row_cons ?_ ?_)
          all_goals (first | (simp; done) | omega | (simp; omega))
        case hstore =>
          repeat' (first | rfl | refine env_cons ?_ ?_ | refine st_cons ?_ ?_ ?_ ?_ | refine int_eq ?_ | refine bool_eq ?_ | refine rsl_eq ?_ | refine osl_eq ?_ | refine sl_eq ?_ ?_ ?_ | refine ptr_eq ?_ ?_ ?_ | refine agg_eq ?_ | refine es_cons ?_ ?_ | refine row_cons ?_ ?_)
          all_goals (first | (simp; done) | omega | (simp; omega))
        case hst =>
          exact ⟨hxl, by rw [hms, hout]⟩
      rintro mm ee ss kk ⟨y, g, v, o2, rfl, rfl, rfl, hI⟩
      generalize hQl2 : thenQ _ _ = Ql2
      obtain ⟨hyl, hy⟩ := hI
      have hol : o2.length ≤ 64 * (k + 1) := by rw [hy, List.length_append] at hmb; omega
      refine AW.seq fun K11 hK11 => ?_
      refine AW.seq fun K12 hK12 => ?_
      -- region 7
      refine AW.regionK 0 (fun _ => none) [4, 5, 6, 11, 12, 13, 19] [200] ?_
      simp only [go_sem, reduceIte, reduceCtorEq, Nat.reduceAdd, Nat.reduceMul, Nat.reduceEqDiff, Nat.reduceLT, Nat.reduceLeDiff, Nat.reduceSub, Nat.reducePow, Nat.reduceBEq, Int.reduceToNat, List.reduceReplicate]
      repeat with_reducible refine cj ?_ ?_
      all_goals try first | omega
      refine hK12 _ _ _ ?_; clear hK12
      -- cond 3
      refine AW.cond rfl (by simp only [go_sem, reduceIte, reduceCtorEq, Nat.reduceAdd, Nat.reduceMul, Nat.reduceEqDiff, Nat.reduceLT, Nat.reduceLeDiff, Nat.reduceSub, Nat.reducePow, Nat.reduceBEq, Int.reduceToNat, List.reduceReplicate]) ?_ ?_
      · intro hb
        try simp only [hB, decide_eq_true_eq, decide_eq_false_iff_not] at hb
        obtain ⟨j, hj, hj1, hj2, hj3⟩ := bitsW_step (x := y) (by omega) hyl
        have htz := tz_r y hyl (by omega) j hj hj1
        have hto : (ints (nats o2)).take o2.length = ints (nats o2) := List.take_of_length_le (by rw [ints_len, nats_len]; exact Nat.le_refl _)
        have hadd : (k : Int) * 64 + (j : Int) = ((64 * k + j : Nat) : Int) := by omega
        have hsub : IntKind.u64.wrap ((y : Int) - 1) = ((y - 1 : Nat) : Int) := by rw [show (y : Int) - 1 = ((y - 1 : Nat) : Int) by omega]; exact wrapU (by omega)
        have hand : bAnd .u64 (y : Int) ((y - 1 : Nat) : Int) = ((y &&& (y - 1) : Nat) : Int) := bAnd_nat hyl (by omega)
        have hone : [[AV.int .i64 ((64 * k + j : Nat) : Int)]] = ints [((64 * k + j : Nat) : Int)] := rfl
        refine AW.skip ?_
        refine hK11 _ _ _ ?_; clear hK11
        refine AW.seq fun K13 hK13 => ?_
        refine AW.block ?_
        -- region 9
        refine AW.regionK 0 (fun ii => if ii = 4 then some (.reads false (.int .i64 (j : Nat))) else none) [4, 5, 6, 11, 12, 13] [200] ?_
        simp only [go_sem, reduceIte, reduceCtorEq, Nat.reduceAdd, Nat.reduceMul, Nat.reduceEqDiff, Nat.reduceLT, Nat.reduceLeDiff, Nat.reduceSub, Nat.reducePow, Nat.reduceBEq, Int.reduceToNat, List.reduceReplicate, hadd, hto, ints_app, nats_app, nats_len]
        repeat with_reducible refine cj ?_ ?_
        all_goals try first | (exact htz) | omega | exact ent (by kernel_rfl) | (simp [scP, scalar]; done) | exact scP_words _ | exact scP_ints _ | exact scP_bools _
        refine hK13 _ _ _ ?_; clear hK13
        -- region 8
        refine AW.regionK 0 (fun _ => none) [4, 5, 6, 11, 12, 13] [200] ?_
        simp only [go_sem, reduceIte, reduceCtorEq, Nat.reduceAdd, Nat.reduceMul, Nat.reduceEqDiff, Nat.reduceLT, Nat.reduceLeDiff, Nat.reduceSub, Nat.reducePow, Nat.reduceBEq, Int.reduceToNat, List.reduceReplicate, hsub, hand]
        repeat with_reducible refine cj ?_ ?_
        all_goals try first | omega
        rw [← hQl2]
        change Exists _
        refine ⟨_, ?hm, y &&& (y - 1), ?_, ?_, o2 ++ [64 * k + j], rfl, ?henv, ?hstore, ?hst⟩
        case henv =>
          repeat' (first | rfl | refine env_cons ?_ ?_ | refine st_cons ?_ ?_ ?_ ?_ | refine int_eq ?_ | refine bool_eq ?_ | refine rsl_eq ?_ | refine osl_eq ?_ | refine sl_eq ?_ ?_ ?_ | refine ptr_eq ?_ ?_ ?_ | refine agg_eq ?_ | refine es_cons ?_ ?_ | refine row_cons ?_ ?_)
          all_goals (first | (simp; done) | omega | (simp; omega))
        case hstore =>
          repeat' (first | rfl | refine env_cons ?_ ?_ | refine st_cons ?_ ?_ ?_ ?_ | refine int_eq ?_ | refine bool_eq ?_ | refine rsl_eq ?_ | refine osl_eq ?_ | refine sl_eq ?_ ?_ ?_ | refine ptr_eq ?_ ?_ ?_ | refine agg_eq ?_ | refine es_cons ?_ ?_ | refine row_cons ?_ ?_)
          all_goals (first | (simp; done) | omega | (simp; omega))
        case hst =>
          exact ⟨by omega, by rw [hy, hj2]; simp⟩
        case hm => omega
      · intro hb
        try simp only [hB, decide_eq_true_eq, decide_eq_false_iff_not] at hb
        have hy0 : y = 0 := by omega
        subst hy0
        rw [bitsW_zero, List.map_nil, List.append_nil] at hy
        refine AW.exit ?_
        rw [← hQl2]
        refine hK9 _ _ _ ?_; clear hK9
        -- region 10
        refine AW.regionK 0 (fun _ => none) [4, 11, 12, 13] [200] ?_
        simp only [go_sem, reduceIte, reduceCtorEq, Nat.reduceAdd, Nat.reduceMul, Nat.reduceEqDiff, Nat.reduceLT, Nat.reduceLeDiff, Nat.reduceSub, Nat.reducePow, Nat.reduceBEq, Int.reduceToNat, List.reduceReplicate]
        repeat with_reducible refine cj ?_ ?_
        all_goals try first | omega
        rw [← hQl1]
        change Exists _
        refine ⟨_, ?hm, k + 1, ?_, ?_, o2, rfl, ?henv, ?hstore, ?hst⟩
        case henv =>
          repeat' (first | rfl | refine env_cons ?_ ?_ | refine st_cons ?_ ?_ ?_ ?_ | refine int_eq ?_ | refine bool_eq ?_ | refine rsl_eq ?_ | refine osl_eq ?_ | refine sl_eq ?_ ?_ ?_ | refine ptr_eq ?_ ?_ ?_ | refine agg_eq ?_ | refine es_cons ?_ ?_ | refine row_cons ?_ ?_)
          all_goals (first | (simp; done) | omega | (simp; omega))
        case hstore =>
          repeat' (first | rfl | refine env_cons ?_ ?_ | refine st_cons ?_ ?_ ?_ ?_ | refine int_eq ?_ | refine bool_eq ?_ | refine rsl_eq ?_ | refine osl_eq ?_ | refine sl_eq ?_ ?_ ?_ | refine ptr_eq ?_ ?_ ?_ | refine agg_eq ?_ | refine es_cons ?_ ?_ | refine row_cons ?_ ?_)
          all_goals (first | (simp; done) | omega | (simp; omega))
        case hst =>
          exact ⟨by omega, hy.symm⟩
        case hm => omega
    · intro hb
      try simp only [hB, decide_eq_true_eq, decide_eq_false_iff_not] at hb
      refine AW.exit ?_
      rw [← hQl1]
      refine hK5 _ _ _ ?_; clear hK5
      refine AW.seq fun K14 hK14 => ?_
      -- region 11
      refine AW.regionK 0 (fun _ => none) [2, 3] [200] ?_
      simp only [go_sem, reduceIte, reduceCtorEq, Nat.reduceAdd, Nat.reduceMul, Nat.reduceEqDiff, Nat.reduceLT, Nat.reduceLeDiff, Nat.reduceSub, Nat.reducePow, Nat.reduceBEq, Int.reduceToNat, List.reduceReplicate]
      repeat with_reducible refine cj ?_ ?_
      all_goals try first | omega
      refine hK14 _ _ _ ?_; clear hK14
      refine AW.ret ?_
      rw [← hQr]
      simp only [go_sem, reduceIte, reduceCtorEq, Nat.reduceAdd, Nat.reduceMul, Nat.reduceEqDiff, Nat.reduceLT, Nat.reduceLeDiff, Nat.reduceSub, Nat.reducePow, Nat.reduceBEq, Int.reduceToNat, List.reduceReplicate]
      have hkl : k = W.length := by omega
      subst hkl
      rw [hout, List.take_of_length_le (by rw [nats_len]; exact Nat.le_refl _)]
      exact Wk.refl _
end Go.Proofs.P

namespace Go.Proofs.P
open Go.AM Go
set_option maxRecDepth 100000
set_option maxHeartbeats 2000000
theorem pop_r (x : Nat) (hx : x < 18446744073709551616) : Reads Tryd.prog 103 false [.int .u64 (x : Nat)] (.int .i64 ((bitsW x).length : Nat)) := by
  obtain ⟨b1, b2, b3, b4⟩ := popN_bits hx
  have h1 := pop1 hx
  have h2 := pop2 b1 (by omega)
  have h3 := pop3 b2
  have b4' : popN x = (f3 1085102592571150095 (f2 3689348814741910323 (f1 6148914691236517205 x)) + f3 1085102592571150095 (f2 3689348814741910323 (f1 6148914691236517205 x)) / 256 + (f3 1085102592571150095 (f2 3689348814741910323 (f1 6148914691236517205 x)) + f3 1085102592571150095 (f2 3689348814741910323 (f1 6148914691236517205 x)) / 256) / 65536 + (f3 1085102592571150095 (f2 3689348814741910323 (f1 6148914691236517205 x)) + f3 1085102592571150095 (f2 3689348814741910323 (f1 6148914691236517205 x)) / 256 + (f3 1085102592571150095 (f2 3689348814741910323 (f1 6148914691236517205 x)) + f3 1085102592571150095 (f2 3689348814741910323 (f1 6148914691236517205 x)) / 256) / 65536) / 4294967296) % 128 := rfl
  rw [← b4, b4']
  clear b4 b4'
  generalize f1 6148914691236517205 x = a at *
  generalize f2 3689348814741910323 a = b at *
  generalize f3 1085102592571150095 b = y at *
  have h4 : IntKind.u64.wrap ((y : Int) + bShr .u64 (y : Int) 8) = ((y + y / 256 : Nat) : Int) := pop4 (k := 8) (by decide) (by decide) (by omega)
  have c1 : y + y / 256 < 600000000000000000 := by omega
  generalize y + y / 256 = y1 at *
  have h5 : IntKind.u64.wrap ((y1 : Int) + bShr .u64 (y1 : Int) 16) = ((y1 + y1 / 65536 : Nat) : Int) := pop4 (k := 16) (by decide) (by decide) (by omega)
  have c2 : y1 + y1 / 65536 < 700000000000000000 := by omega
  generalize y1 + y1 / 65536 = y2 at *
  have h6 : IntKind.u64.wrap ((y2 : Int) + bShr .u64 (y2 : Int) 32) = ((y2 + y2 / 4294967296 : Nat) : Int) := pop4 (k := 32) (by decide) (by decide) (by omega)
  have c3 : y2 + y2 / 4294967296 < 800000000000000000 := by omega
  generalize y2 + y2 / 4294967296 = y3 at *
  have h7 := pop5 (x := y3) (by omega)
  refine Reads.body (rs := [.tmp 2]) Tryd.func103 rfl Tryd.ntmps103 rfl (by simp) ?_
  generalize hQr : retQ _ _ _ = Qr
  refine AW.seq fun K1 hK1 => ?_
  -- region 0
  refine AW.regionK 0 (fun _ => none) [0] [] ?_
  simp only [go_sem, reduceIte, reduceCtorEq, Nat.reduceAdd, Nat.reduceMul, Nat.reduceEqDiff, Nat.reduceLT, Nat.reduceLeDiff, Nat.reduceSub, Nat.reducePow, Nat.reduceBEq, Int.reduceToNat, List.reduceReplicate]
  repeat with_reducible refine cj ?_ ?_
  all_goals try first | omega
  refine hK1 _ _ _ ?_; clear hK1
  refine AW.seq fun K2 hK2 => ?_
  -- region 1
  refine AW.regionK 0 (fun _ => none) [0] [] ?_
  simp only [go_sem, reduceIte, reduceCtorEq, Nat.reduceAdd, Nat.reduceMul, Nat.reduceEqDiff, Nat.reduceLT, Nat.reduceLeDiff, Nat.reduceSub, Nat.reducePow, Nat.reduceBEq, Int.reduceToNat, List.reduceReplicate, h1]
  repeat with_reducible refine cj ?_ ?_
  all_goals try first | omega
  refine hK2 _ _ _ ?_; clear hK2
  refine AW.seq fun K3 hK3 => ?_
  -- region 2
  refine AW.regionK 0 (fun _ => none) [0] [] ?_
  simp only [go_sem, reduceIte, reduceCtorEq, Nat.reduceAdd, Nat.reduceMul, Nat.reduceEqDiff, Nat.reduceLT, Nat.reduceLeDiff, Nat.reduceSub, Nat.reducePow, Nat.reduceBEq, Int.reduceToNat, List.reduceReplicate, h2]
  repeat with_reducible refine cj ?_ ?_
  all_goals try first | omega
  refine hK3 _ _ _ ?_; clear hK3
  refine AW.seq fun K4 hK4 => ?_
  -- region 3
  refine AW.regionK 0 (fun _ => none) [0] [] ?_
  simp only [go_sem, reduceIte, reduceCtorEq, Nat.reduceAdd, Nat.reduceMul, Nat.reduceEqDiff, Nat.reduceLT, Nat.reduceLeDiff, Nat.reduceSub, Nat.reducePow, Nat.reduceBEq, Int.reduceToNat, List.reduceReplicate, h3]
  repeat with_reducible refine cj ?_ ?_
  all_goals try first | omega
  refine hK4 _ _ _ ?_; clear hK4
  refine AW.seq fun K5 hK5 => ?_
  -- region 4
  refine AW.regionK 0 (fun _ => none) [0] [] ?_
  simp only [go_sem, reduceIte, reduceCtorEq, Nat.reduceAdd, Nat.reduceMul, Nat.reduceEqDiff, Nat.reduceLT, Nat.reduceLeDiff, Nat.reduceSub, Nat.reducePow, Nat.reduceBEq, Int.reduceToNat, List.reduceReplicate, h4]
  repeat with_reducible refine cj ?_ ?_
  all_goals try first | omega
  refine hK5 _ _ _ ?_; clear hK5
  refine AW.seq fun K6 hK6 => ?_
  -- region 5
  refine AW.regionK 0 (fun _ => none) [0] [] ?_
  simp only [go_sem, reduceIte, reduceCtorEq, Nat.reduceAdd, Nat.reduceMul, Nat.reduceEqDiff, Nat.reduceLT, Nat.reduceLeDiff, Nat.reduceSub, Nat.reducePow, Nat.reduceBEq, Int.reduceToNat, List.reduceReplicate, h5]
  repeat with_reducible refine cj ?_ ?_
  all_goals try first | omega
  refine hK6 _ _ _ ?_; clear hK6
  refine AW.seq fun K7 hK7 => ?_
  -- region 6
  refine AW.regionK 0 (fun _ => none) [0] [] ?_
  simp only [go_sem, reduceIte, reduceCtorEq, Nat.reduceAdd, Nat.reduceMul, Nat.reduceEqDiff, Nat.reduceLT, Nat.reduceLeDiff, Nat.reduceSub, Nat.reducePow, Nat.reduceBEq, Int.reduceToNat, List.reduceReplicate, h6]
  repeat with_reducible refine cj ?_ ?_
  all_goals try first | omega
  refine hK7 _ _ _ ?_; clear hK7
  refine AW.seq fun K8 hK8 => ?_
  -- region 7
  refine AW.regionK 0 (fun _ => none) [2] [] ?_
  simp only [go_sem, reduceIte, reduceCtorEq, Nat.reduceAdd, Nat.reduceMul, Nat.reduceEqDiff, Nat.reduceLT, Nat.reduceLeDiff, Nat.reduceSub, Nat.reducePow, Nat.reduceBEq, Int.reduceToNat, List.reduceReplicate, h7]
  repeat with_reducible refine cj ?_ ?_
  all_goals try first | omega
  refine hK8 _ _ _ ?_; clear hK8
  refine AW.ret ?_
  rw [← hQr]
  simp only [go_sem, reduceIte, reduceCtorEq, Nat.reduceAdd, Nat.reduceMul, Nat.reduceEqDiff, Nat.reduceLT, Nat.reduceLeDiff, Nat.reduceSub, Nat.reducePow, Nat.reduceBEq, Int.reduceToNat, List.reduceReplicate]
  exact Wk.refl _
end Go.Proofs.P

namespace Go.Proofs.P
open Go.AM Go
set_option maxRecDepth 100000
set_option maxHeartbeats 2000000
theorem count_r (N : Int) (W : List Int) (hv : validS N W = true) (hW : okW W) : Reads Tryd.prog 89 false [.agg [.int .i64 N, .rsl 1 (words W)]] (.int .i64 ((memT W W.length).length : Nat)) := by
  obtain ⟨hN0, hN1, hNl⟩ := validS_sz hv
  have hwr := wordsN_rng hN0
  have h := bvalid_r N W (by omega)
  rw [hv] at h
  have hml := memT_len W
  refine Reads.body (rs := [.tmp 2]) Tryd.func89 rfl Tryd.ntmps89 rfl (by simp) ?_
  generalize hQr : retQ _ _ _ = Qr
  refine AW.seq fun K1 hK1 => ?_
  -- region 0
  refine AW.regionK 0 (fun _ => none) [1] [1] ?_
  simp only [go_sem, reduceIte, reduceCtorEq, Nat.reduceAdd, Nat.reduceMul, Nat.reduceEqDiff, Nat.reduceLT, Nat.reduceLeDiff, Nat.reduceSub, Nat.reducePow, Nat.reduceBEq, Int.reduceToNat, List.reduceReplicate]
  repeat with_reducible refine cj ?_ ?_
  all_goals try first | omega
  refine hK1 _ _ _ ?_; clear hK1
  refine AW.seq fun K2 hK2 => ?_
  refine AW.seq fun K3 hK3 => ?_
  -- region 1
  refine AW.regionK 0 (fun ii => if ii = 1 then some (.reads false (.bool true)) else none) [1, 8] [1] ?_
  simp only [go_sem, reduceIte, reduceCtorEq, Nat.reduceAdd, Nat.reduceMul, Nat.reduceEqDiff, Nat.reduceLT, Nat.reduceLeDiff, Nat.reduceSub, Nat.reducePow, Nat.reduceBEq, Int.reduceToNat, List.reduceReplicate]
  repeat with_reducible refine cj ?_ ?_
  all_goals try first | (exact h) | omega | exact ent (by kernel_rfl)
  refine hK3 _ _ _ ?_; clear hK3
  -- cond 1
  refine AW.cond rfl (by simp only [go_sem, reduceIte, reduceCtorEq, Nat.reduceAdd, Nat.reduceMul, Nat.reduceEqDiff, Nat.reduceLT, Nat.reduceLeDiff, Nat.reduceSub, Nat.reducePow, Nat.reduceBEq, Int.reduceToNat, List.reduceReplicate]) ?_ ?_
  · intro hb
    try simp only [hB, decide_eq_true_eq, decide_eq_false_iff_not] at hb
    simp at hb
  · intro hb
    try simp only [hB, decide_eq_true_eq, decide_eq_false_iff_not] at hb
    refine AW.skip ?_
    refine hK2 _ _ _ ?_; clear hK2
    refine AW.seq fun K4 hK4 => ?_
    -- region 3
    refine AW.regionK 0 (fun _ => none) [1, 3] [1] ?_
    simp only [go_sem, reduceIte, reduceCtorEq, Nat.reduceAdd, Nat.reduceMul, Nat.reduceEqDiff, Nat.reduceLT, Nat.reduceLeDiff, Nat.reduceSub, Nat.reducePow, Nat.reduceBEq, Int.reduceToNat, List.reduceReplicate]
    repeat with_reducible refine cj ?_ ?_
    all_goals try first | omega
    refine hK4 _ _ _ ?_; clear hK4
    refine AW.seq fun K5 hK5 => ?_
    refine AW.seq fun K6 hK6 => ?_
    -- region 4
    refine AW.regionK 0 (fun _ => none) [3, 10, 11, 12] [] ?_
    simp only [go_sem, reduceIte, reduceCtorEq, Nat.reduceAdd, Nat.reduceMul, Nat.reduceEqDiff, Nat.reduceLT, Nat.reduceLeDiff, Nat.reduceSub, Nat.reducePow, Nat.reduceBEq, Int.reduceToNat, List.reduceReplicate]
    repeat with_reducible refine cj ?_ ?_
    all_goals try first | omega
    refine hK6 _ _ _ ?_; clear hK6
    refine AW.block ?_
    -- loop 1
    refine AW.loopE (fun mm ee ss kk => ∃ (k c : Nat), W.length - k = mm ∧ ee = [(3, .int .i64 (c : Nat)), (10, .rsl 1 (words W)), (11, .int .i64 W.length), (12, .int .i64 (k : Nat))] ∧ ss = [] ∧ (k ≤ W.length ∧ c = (memT W k).length)) ?_ ?_
    · refine ⟨_, 0, 0, rfl, ?henv, ?hstore, ?hst⟩
      case henv =>
        repeat' (first | rfl | refine env_cons ?_ ?_ | refine st_cons ?_ ?_ ?_ ?_ | refine int_eq ?_ | refine bool_eq ?_ | refine rsl_eq ?_ | refine osl_eq ?_ | refine sl_eq ?_ ?_ ?_ | refine ptr_eq ?_ ?_ ?_ | refine agg_eq ?_ | refine es_cons ?_ ?_ | refine row_cons ?_ ?_)
        all_goals (first | (simp; done) | omega | (simp; omega))
      case hstore =>
        repeat' (first | rfl | refine env_cons ?_ ?_ | refine st_cons ?_ ?_ ?_ ?_ | refine int_eq ?_ | refine bool_eq ?_ | refine rsl_eq ?_ | refine osl_eq ?_ | refine sl_eq ?_ ?_ ?_ | refine ptr_eq ?_ ?_ ?_ | refine agg_eq ?_ | refine es_cons ?_ ?_ | refine row_cons ?_ ?_)
        all_goals (first | (simp; done) | omega | (simp; omega))
      case hst =>
        exact ⟨Nat.zero_le _, rfl⟩
    rintro mm ee ss kk ⟨k, c, rfl, rfl, rfl, hI⟩
    generalize hQl1 : thenQ _ _ = Ql1
    obtain ⟨hk, hc⟩ := hI
    have hmk := hml k
    refine AW.seq fun K7 hK7 => ?_
    -- region 5
    refine AW.regionK 0 (fun _ => none) [3, 10, 11, 12, 13] [] ?_
    simp only [go_sem, reduceIte, reduceCtorEq, Nat.reduceAdd, Nat.reduceMul, Nat.reduceEqDiff, Nat.reduceLT, Nat.reduceLeDiff, Nat.reduceSub, Nat.reducePow, Nat.reduceBEq, Int.reduceToNat, List.reduceReplicate]
    repeat with_reducible refine cj ?_ ?_
    all_goals try first | omega
    refine hK7 _ _ _ ?_; clear hK7
    refine AW.seq fun K8 hK8 => ?_
    -- cond 2
    refine AW.cond rfl (by simp only [go_sem, reduceIte, reduceCtorEq, Nat.reduceAdd, Nat.reduceMul, Nat.reduceEqDiff, Nat.reduceLT, Nat.reduceLeDiff, Nat.reduceSub, Nat.reducePow, Nat.reduceBEq, Int.reduceToNat, List.reduceReplicate]) ?_ ?_
    · intro hb
      try simp only [hB, decide_eq_true_eq, decide_eq_false_iff_not] at hb
      have hgw := words_getD (l := W) (i := k) (by omega)
      have hwk := hW k
      have hms := memT_succ W k
      have hmk2 : memK W k = (bitsW (W.getD k 0).toNat).map fun j => 64 * k + j := rfl
      obtain ⟨x, hx⟩ : ∃ x : Nat, W.getD k 0 = (x : Int) := ⟨_, (Int.toNat_of_nonneg hwk.1).symm⟩
      have hpop := pop_r x (by omega)
      rw [hx, Int.toNat_natCast] at hmk2
      rw [hx] at hgw
      have hlen : (memT W (k + 1)).length = c + (bitsW x).length := by rw [hms, hmk2, List.length_append, List.length_map, hc]
      have hmk3 := hml (k + 1)
      refine AW.skip ?_
      refine hK8 _ _ _ ?_; clear hK8
      refine AW.seq fun K9 hK9 => ?_
      refine AW.block ?_
      refine AW.seq fun K10 hK10 => ?_
      -- region 6
      refine AW.regionK 0 (fun _ => none) [3, 5, 10, 11, 12] [] ?_
      simp only [go_sem, reduceIte, reduceCtorEq, Nat.reduceAdd, Nat.reduceMul, Nat.reduceEqDiff, Nat.reduceLT, Nat.reduceLeDiff, Nat.reduceSub, Nat.reducePow, Nat.reduceBEq, Int.reduceToNat, List.reduceReplicate, hgw]
      repeat with_reducible refine cj ?_ ?_
      all_goals try first | omega
      refine hK10 _ _ _ ?_; clear hK10
      -- region 7
      refine AW.regionK 0 (fun ii => if ii = 2 then some (.reads false (.int .i64 ((bitsW x).length : Nat))) else none) [3, 10, 11, 12] [] ?_
      simp only [go_sem, reduceIte, reduceCtorEq, Nat.reduceAdd, Nat.reduceMul, Nat.reduceEqDiff, Nat.reduceLT, Nat.reduceLeDiff, Nat.reduceSub, Nat.reducePow, Nat.reduceBEq, Int.reduceToNat, List.reduceReplicate]
      repeat with_reducible refine cj ?_ ?_
      all_goals try first | (exact hpop) | omega | exact ent (by kernel_rfl)
      refine hK9 _ _ _ ?_; clear hK9
      -- region 8
      refine AW.regionK 0 (fun _ => none) [3, 10, 11, 12] [] ?_
      simp only [go_sem, reduceIte, reduceCtorEq, Nat.reduceAdd, Nat.reduceMul, Nat.reduceEqDiff, Nat.reduceLT, Nat.reduceLeDiff, Nat.reduceSub, Nat.reducePow, Nat.reduceBEq, Int.reduceToNat, List.reduceReplicate]
      repeat with_reducible refine cj ?_ ?_
      all_goals try first | omega
      rw [← hQl1]
      change Exists _
      refine ⟨_, ?hm, k + 1, c + (bitsW x).length, rfl, ?henv, ?hstore, ?hst⟩
      case henv =>
        repeat' (first | rfl | refine env_cons ?_ ?_ | refine st_cons ?_ ?_ ?_ ?_ | refine int_eq ?_ | refine bool_eq ?_ | refine rsl_eq ?_ | refine osl_eq ?_ | refine sl_eq ?_ ?_ ?_ | refine ptr_eq ?_ ?_ ?_ | refine agg_eq ?_ | refine es_cons ?_ ?_ | refine row_cons ?_ ?_)
        all_goals (first | (simp; done) | omega | (simp; omega))
      case hstore =>
        repeat' (first | rfl | refine env_cons ?_ ?_ | refine st_cons ?_ ?_ ?_ ?_ | refine int_eq ?_ | refine bool_eq ?_ | refine rsl_eq ?_ | refine osl_eq ?_ | refine sl_eq ?_ ?_ ?_ | refine ptr_eq ?_ ?_ ?_ | refine agg_eq ?_ | refine es_cons ?_ ?_ | refine row_cons ?_ ?_)
        all_goals (first | (simp; done) | omega | (simp; omega))
      case hst =>
        exact ⟨by omega, hlen.symm⟩
      case hm => omega
    · intro hb
      try simp only [hB, decide_eq_true_eq, decide_eq_false_iff_not] at hb
      refine AW.keep [3] [] ?_
      try simp only [go_sem, reduceIte, reduceCtorEq, Nat.reduceAdd, Nat.reduceMul, Nat.reduceEqDiff, Nat.reduceLT, Nat.reduceLeDiff, Nat.reduceSub, Nat.reducePow, Nat.reduceBEq, Int.reduceToNat, List.reduceReplicate]
      refine AW.exit ?_
      rw [← hQl1]
      refine hK5 _ _ _ ?_; clear hK5
      refine AW.seq fun K11 hK11 => ?_
      -- region 9
      refine AW.regionK 0 (fun _ => none) [2] [] ?_
      simp only [go_sem, reduceIte, reduceCtorEq, Nat.reduceAdd, Nat.reduceMul, Nat.reduceEqDiff, Nat.reduceLT, Nat.reduceLeDiff, Nat.reduceSub, Nat.reducePow, Nat.reduceBEq, Int.reduceToNat, List.reduceReplicate]
      repeat with_reducible refine cj ?_ ?_
      all_goals try first | omega
      refine hK11 _ _ _ ?_; clear hK11
      refine AW.ret ?_
      rw [← hQr]
      simp only [go_sem, reduceIte, reduceCtorEq, Nat.reduceAdd, Nat.reduceMul, Nat.reduceEqDiff, Nat.reduceLT, Nat.reduceLeDiff, Nat.reduceSub, Nat.reducePow, Nat.reduceBEq, Int.reduceToNat, List.reduceReplicate]
      have hkl : k = W.length := by omega
      subst hkl
      rw [hc]
      exact Wk.refl _
end Go.Proofs.P

namespace Go.Proofs.P
open Go.AM Go
set_option maxRecDepth 100000
set_option maxHeartbeats 2000000
theorem unionf_r (a b : Int) : Reads Tryd.prog 85 false [.int .u64 a, .int .u64 b] (.int .u64 (bOr .u64 a b)) := by
  refine Reads.body (rs := [.tmp 4]) Tryd.func85 rfl Tryd.ntmps85 rfl (by simp) ?_
  generalize hQr : retQ _ _ _ = Qr
  refine AW.seq fun K1 hK1 => ?_
  -- region 0
  refine AW.regionK 0 (fun _ => none) [0, 1] [] ?_
  simp only [go_sem, reduceIte, reduceCtorEq, Nat.reduceAdd, Nat.reduceMul, Nat.reduceEqDiff, Nat.reduceLT, Nat.reduceLeDiff, Nat.reduceSub, Nat.reducePow, Nat.reduceBEq, Int.reduceToNat, List.reduceReplicate]
  repeat with_reducible refine cj ?_ ?_
  all_goals try first | omega
  refine hK1 _ _ _ ?_; clear hK1
  refine AW.seq fun K2 hK2 => ?_
  -- region 1
  refine AW.regionK 0 (fun _ => none) [4] [] ?_
  simp only [go_sem, reduceIte, reduceCtorEq, Nat.reduceAdd, Nat.reduceMul, Nat.reduceEqDiff, Nat.reduceLT, Nat.reduceLeDiff, Nat.reduceSub, Nat.reducePow, Nat.reduceBEq, Int.reduceToNat, List.reduceReplicate]
  repeat with_reducible refine cj ?_ ?_
  all_goals try first | omega
  refine hK2 _ _ _ ?_; clear hK2
  refine AW.ret ?_
  rw [← hQr]
  simp only [go_sem, reduceIte, reduceCtorEq, Nat.reduceAdd, Nat.reduceMul, Nat.reduceEqDiff, Nat.reduceLT, Nat.reduceLeDiff, Nat.reduceSub, Nat.reducePow, Nat.reduceBEq, Int.reduceToNat, List.reduceReplicate]
  exact Wk.refl _
theorem minusf_r (a b : Int) : Reads Tryd.prog 92 false [.int .u64 a, .int .u64 b] (.int .u64 (bAndNot .u64 a b)) := by
  refine Reads.body (rs := [.tmp 4]) Tryd.func92 rfl Tryd.ntmps92 rfl (by simp) ?_
  generalize hQr : retQ _ _ _ = Qr
  refine AW.seq fun K1 hK1 => ?_
  -- region 0
  refine AW.regionK 0 (fun _ => none) [0, 1] [] ?_
  simp only [go_sem, reduceIte, reduceCtorEq, Nat.reduceAdd, Nat.reduceMul, Nat.reduceEqDiff, Nat.reduceLT, Nat.reduceLeDiff, Nat.reduceSub, Nat.reducePow, Nat.reduceBEq, Int.reduceToNat, List.reduceReplicate]
  repeat with_reducible refine cj ?_ ?_
  all_goals try first | omega
  refine hK1 _ _ _ ?_; clear hK1
  refine AW.seq fun K2 hK2 => ?_
  -- region 1
  refine AW.regionK 0 (fun _ => none) [4] [] ?_
  simp only [go_sem, reduceIte, reduceCtorEq, Nat.reduceAdd, Nat.reduceMul, Nat.reduceEqDiff, Nat.reduceLT, Nat.reduceLeDiff, Nat.reduceSub, Nat.reducePow, Nat.reduceBEq, Int.reduceToNat, List.reduceReplicate]
  repeat with_reducible refine cj ?_ ?_
  all_goals try first | omega
  refine hK2 _ _ _ ?_; clear hK2
  refine AW.ret ?_
  rw [← hQr]
  simp only [go_sem, reduceIte, reduceCtorEq, Nat.reduceAdd, Nat.reduceMul, Nat.reduceEqDiff, Nat.reduceLT, Nat.reduceLeDiff, Nat.reduceSub, Nat.reducePow, Nat.reduceBEq, Int.reduceToNat, List.reduceReplicate]
  exact Wk.refl _
theorem bmatching_r (N M : Int) (W V : List Int) (hl : W.length ≤ 9223372036854775807) (hl2 : V.length ≤ 9223372036854775807) : Reads Tryd.prog 101 false [.agg [.int .i64 N, .rsl 1 (words W)], .agg [.int .i64 M, .rsl 1 (words V)]] (.bool (validS N W && validS M V && decide (N = M))) := by
  have h1 := bvalid_r N W hl
  have h2 := bvalid_r M V hl2
  refine Reads.body (rs := [.tmp 4]) Tryd.func101 rfl Tryd.ntmps101 rfl (by simp) ?_
  generalize hQr : retQ _ _ _ = Qr
  refine AW.seq fun K1 hK1 => ?_
  -- region 0
  refine AW.regionK 0 (fun _ => none) [2, 3] [2, 3] ?_
  simp only [go_sem, reduceIte, reduceCtorEq, Nat.reduceAdd, Nat.reduceMul, Nat.reduceEqDiff, Nat.reduceLT, Nat.reduceLeDiff, Nat.reduceSub, Nat.reducePow, Nat.reduceBEq, Int.reduceToNat, List.reduceReplicate]
  repeat with_reducible refine cj ?_ ?_
  all_goals try first | omega
  refine hK1 _ _ _ ?_; clear hK1
  refine AW.seq fun K2 hK2 => ?_
  -- region 1
  refine AW.regionK 0 (fun ii => if ii = 1 then some (.reads false (.bool (validS N W))) else if ii = 4 then some (.reads false (.bool (validS M V))) else none) [4] [] ?_
  simp only [go_sem, reduceIte, reduceCtorEq, Nat.reduceAdd, Nat.reduceMul, Nat.reduceEqDiff, Nat.reduceLT, Nat.reduceLeDiff, Nat.reduceSub, Nat.reducePow, Nat.reduceBEq, Int.reduceToNat, List.reduceReplicate]
  repeat with_reducible refine cj ?_ ?_
  all_goals try first | (first | exact h1 | exact h2 | (intro hh; exact ⟨hh, h2⟩)) | (intros; (repeat' apply And.intro) <;> first | assumption | (first | exact h1 | exact h2 | (intro hh; exact ⟨hh, h2⟩))) | omega | exact ent (by kernel_rfl) | (intro hgd; exact absurd hgd (by decide)) | rfl | (simp only [go_sem, reduceIte, reduceCtorEq, Nat.reduceAdd, Nat.reduceMul, Nat.reduceEqDiff, Nat.reduceLT, Nat.reduceLeDiff, Nat.reduceSub, Nat.reducePow, Nat.reduceBEq, Int.reduceToNat, List.reduceReplicate]; done) | (intro _hgd; simp_all [go_sem]; done)
  refine hK2 _ _ _ ?_; clear hK2
  refine AW.ret ?_
  rw [← hQr]
  simp only [go_sem, reduceIte, reduceCtorEq, Nat.reduceAdd, Nat.reduceMul, Nat.reduceEqDiff, Nat.reduceLT, Nat.reduceLeDiff, Nat.reduceSub, Nat.reducePow, Nat.reduceBEq, Int.reduceToNat, List.reduceReplicate]
  exact Wk.refl _
theorem copied_u (N : Int) (W : List Int) (hl : W.length ≤ 1000) : Upd Tryd.prog 102 [] [.agg [.int .i64 N, .rsl 1 (words W)]] (fun k => .agg [.int .i64 N, .sl ⟨0, k, none⟩ 0 W.length none]) (fun k => [(0, some ⟨k, k, 1, words W⟩)]) := by
  refine Upd.of_body (rs := [.cell 2 35]) Tryd.func102 rfl Tryd.ntmps102 rfl (by simp) ?_
  intro k0 k hk0 hk1
  generalize hQr : retQ _ _ _ = Qr
  refine AW.seq fun K1 hK1 => ?_
  -- region 0
  refine AW.regionK 100 (fun _ => none) [1, 2] [101, 102] ?_
  simp only [go_sem, reduceIte, reduceCtorEq, Nat.reduceAdd, Nat.reduceMul, Nat.reduceEqDiff, Nat.reduceLT, Nat.reduceLeDiff, Nat.reduceSub, Nat.reducePow, Nat.reduceBEq, Int.reduceToNat, List.reduceReplicate]
  repeat with_reducible refine cj ?_ ?_
  all_goals try first | omega
  refine hK1 _ _ _ ?_; clear hK1
  refine AW.seq fun K2 hK2 => ?_
  -- region 1
  refine AW.regionD mixed 100 (fun _ => none) [1, 2, 3] [101, 102, 103, 109] ?_
  simp only [go_sem, reduceIte, reduceCtorEq, Nat.reduceAdd, Nat.reduceMul, Nat.reduceEqDiff, Nat.reduceLT, Nat.reduceLeDiff, Nat.reduceSub, Nat.reducePow, Nat.reduceBEq, Int.reduceToNat, List.reduceReplicate]
  repeat with_reducible refine cj ?_ ?_
  all_goals try first | omega | exact chk (by kernel_rfl)
  refine hK2 _ _ _ ?_; clear hK2
  refine AW.seq fun K3 hK3 => ?_
  -- region 2
  refine AW.regionK 100 (fun _ => none) [2, 3] [102, 103, 109] ?_
  simp only [go_sem, reduceIte, reduceCtorEq, Nat.reduceAdd, Nat.reduceMul, Nat.reduceEqDiff, Nat.reduceLT, Nat.reduceLeDiff, Nat.reduceSub, Nat.reducePow, Nat.reduceBEq, Int.reduceToNat, List.reduceReplicate]
  repeat with_reducible refine cj ?_ ?_
  all_goals try first | omega | (simp [scP, scalar]; done) | exact scP_words _ | exact scP_ints _ | exact scP_bools _
  refine hK3 _ _ _ ?_; clear hK3
  refine AW.seq fun K4 hK4 => ?_
  -- region 3
  refine AW.regionK 100 (fun _ => none) [2] [102, 109] ?_
  simp only [go_sem, reduceIte, reduceCtorEq, Nat.reduceAdd, Nat.reduceMul, Nat.reduceEqDiff, Nat.reduceLT, Nat.reduceLeDiff, Nat.reduceSub, Nat.reducePow, Nat.reduceBEq, Int.reduceToNat, List.reduceReplicate]
  repeat with_reducible refine cj ?_ ?_
  all_goals try first | omega
  refine hK4 _ _ _ ?_; clear hK4
  refine AW.ret ?_
  rw [← hQr]
  simp only [go_sem, reduceIte, reduceCtorEq, Nat.reduceAdd, Nat.reduceMul, Nat.reduceEqDiff, Nat.reduceLT, Nat.reduceLeDiff, Nat.reduceSub, Nat.reducePow, Nat.reduceBEq, Int.reduceToNat, List.reduceReplicate]
  have e1 : words (List.take (min W.length W.length) W) ++ List.drop (min W.length W.length) (List.replicate W.length [AV.int IntKind.u64 0]) = words W := by rw [Nat.min_self, List.take_of_length_le (Nat.le_refl _), List.drop_of_length_le (by simp), List.append_nil]
  rw [e1]
  refine ⟨[(109, 0, true)], ?_⟩
  simp only [go_sem, reduceIte, Nat.reduceEqDiff, renC_words]
end Go.Proofs.P

namespace Go.Proofs.P
open Go.AM Go
set_option maxRecDepth 100000
set_option maxHeartbeats 2000000
def zipK (g : Int → Int → Int) (W V : List Int) (k : Nat) : List Int := (List.zipWith g W V).take k ++ W.drop k
theorem zipK_len {g : Int → Int → Int} {W V : List Int} (hl : V.length = W.length) {k : Nat} (hk : k ≤ W.length) : (zipK g W V k).length = W.length := by simp [zipK, hl]; omega
theorem zipK_get {g : Int → Int → Int} {W V : List Int} (hl : V.length = W.length) {k : Nat} (hk : k < W.length) : (zipK g W V k).getD k 0 = W.getD k 0 := by
  unfold zipK
  rw [Go.AM.getD_append, if_neg (by simp [hl]; omega)]
  simp [List.getD_eq_getElem?_getD, hl, Nat.min_eq_left (Nat.le_of_lt hk)]
theorem zipK_set {g : Int → Int → Int} {W V : List Int} (hl : V.length = W.length) {k : Nat} (hk : k < W.length) : (zipK g W V k).set k (g (W.getD k 0) (V.getD k 0)) = zipK g W V (k + 1) := by
  unfold zipK
  have h1 : ((List.zipWith g W V).take k).length = k := by simp [hl]; omega
  rw [List.set_append_right _ _ (by omega), h1, Nat.sub_self, List.drop_eq_getElem_cons hk, List.set_cons_zero, List.take_succ_eq_append_getElem (by simp [hl]; omega), List.append_assoc]
  simp [List.getD_eq_getElem?_getD, hk, show k < V.length by omega]
theorem combined_r (N M : Int) (W V : List Int) (F : Nat) (g : Int → Int → Int) (hl : W.length ≤ 1000) (hl2 : V.length ≤ 1000) (hlen : V.length = W.length) (hok : (validS N W && validS M V && decide (N = M)) = true) (he : enters Tryd.prog F = true) (hf : ∀ a b, Reads Tryd.prog F false [.int .u64 a, .int .u64 b] (.int .u64 (g a b))) :
    Reads Tryd.prog 84 false [.agg [.int .i64 N, .rsl 1 (words W)], .agg [.int .i64 M, .rsl 1 (words V)], .fn F []] (.tup [.agg [.int .i64 N, .rsl 1 (words (List.zipWith g W V))], .int .i64 ((0 : Nat) : Int)]) := by
  have hm := bmatching_r N M W V (by omega) (by omega)
  rw [hok] at hm
  have hc := copied_u N W hl
  refine Reads.body (rs := [.cell 6 35, .tmp 7]) Tryd.func84 rfl Tryd.ntmps84 rfl (by simp) ?_
  generalize hQr : retQ _ _ _ = Qr
  refine AW.seq fun K1 hK1 => ?_
  -- region 0
  refine AW.regionK 0 (fun _ => none) [2, 3, 4, 6] [3, 4, 6] ?_
  simp only [go_sem, reduceIte, reduceCtorEq, Nat.reduceAdd, Nat.reduceMul, Nat.reduceEqDiff, Nat.reduceLT, Nat.reduceLeDiff, Nat.reduceSub, Nat.reducePow, Nat.reduceBEq, Int.reduceToNat, List.reduceReplicate]
  repeat with_reducible refine cj ?_ ?_
  all_goals try first | omega
  refine hK1 _ _ _ ?_; clear hK1
  refine AW.seq fun K2 hK2 => ?_
  refine AW.seq fun K3 hK3 => ?_
  -- region 1
  refine AW.regionK 0 (fun ii => if ii = 2 then some (.reads false (.bool true)) else none) [2, 3, 4, 6, 14] [3, 4, 6] ?_
  simp only [go_sem, reduceIte, reduceCtorEq, Nat.reduceAdd, Nat.reduceMul, Nat.reduceEqDiff, Nat.reduceLT, Nat.reduceLeDiff, Nat.reduceSub, Nat.reducePow, Nat.reduceBEq, Int.reduceToNat, List.reduceReplicate]
  repeat with_reducible refine cj ?_ ?_
  all_goals try first | (exact hm) | omega | exact ent (by kernel_rfl)
  refine hK3 _ _ _ ?_; clear hK3
  -- cond 1
  refine AW.cond rfl (by simp only [go_sem, reduceIte, reduceCtorEq, Nat.reduceAdd, Nat.reduceMul, Nat.reduceEqDiff, Nat.reduceLT, Nat.reduceLeDiff, Nat.reduceSub, Nat.reducePow, Nat.reduceBEq, Int.reduceToNat, List.reduceReplicate]) ?_ ?_
  · intro hb
    try simp only [hB, decide_eq_true_eq, decide_eq_false_iff_not] at hb
    simp at hb
  · intro hb
    try simp only [hB, decide_eq_true_eq, decide_eq_false_iff_not] at hb
    refine AW.skip ?_
    refine hK2 _ _ _ ?_; clear hK2
    refine AW.seq fun K4 hK4 => ?_
    -- region 3
    refine AW.regionK 0 (fun ii => if ii = 1 then some (.upd [] (fun k => [(0, some ⟨k, k, 1, words W⟩)]) (fun k => .agg [.int .i64 N, .sl ⟨0, k, none⟩ 0 W.length none])) else none) [2, 4, 6, 8] [4, 6, 8, 17] ?_
    simp only [go_sem, reduceIte, reduceCtorEq, Nat.reduceAdd, Nat.reduceMul, Nat.reduceEqDiff, Nat.reduceLT, Nat.reduceLeDiff, Nat.reduceSub, Nat.reducePow, Nat.reduceBEq, Int.reduceToNat, List.reduceReplicate]
    repeat with_reducible refine cj ?_ ?_
    all_goals try first | (exact hc) | omega | exact ent (by kernel_rfl)
    refine hK4 _ _ _ ?_; clear hK4
    refine AW.seq fun K5 hK5 => ?_
    refine AW.seq fun K6 hK6 => ?_
    -- region 4
    refine AW.regionK 0 (fun _ => none) [2, 6, 8, 19, 20, 21] [6, 8, 17] ?_
    simp only [go_sem, reduceIte, reduceCtorEq, Nat.reduceAdd, Nat.reduceMul, Nat.reduceEqDiff, Nat.reduceLT, Nat.reduceLeDiff, Nat.reduceSub, Nat.reducePow, Nat.reduceBEq, Int.reduceToNat, List.reduceReplicate]
    repeat with_reducible refine cj ?_ ?_
    all_goals try first | omega
    refine hK6 _ _ _ ?_; clear hK6
    refine AW.block ?_
    -- loop 1
    refine AW.loopE (fun mm ee ss kk => ∃ (k g6 v6 g8 v8 g17 v17 : Nat), W.length - k = mm ∧ ee = [(2, .fn F []), (6, .ptr ⟨6, g6, none⟩ 0 0), (8, .ptr ⟨8, g8, none⟩ 0 0), (19, .rsl 1 (words V)), (20, .int .i64 V.length), (21, .int .i64 (k : Nat))] ∧ ss = [(6, some ⟨g6, v6, 2, [[.int .i64 0, .nilsl]]⟩), (8, some ⟨g8, v8, 2, [[.int .i64 N, .sl ⟨17, g17, none⟩ 0 W.length none]]⟩), (17, some ⟨g17, v17, 1, words (zipK g W V k)⟩)] ∧ (k ≤ W.length)) ?_ ?_
    · refine ⟨_, 0, ?_, ?_, ?_, ?_, ?_, ?_, rfl, ?henv, ?hstore, ?hst⟩
      case henv =>
        repeat' (first | rfl | refine env_cons ?_ ?_ | refine st_cons ?_ ?_ ?_ ?_ | refine int_eq ?_ | refine bool_eq ?_ | refine rsl_eq ?_ | refine osl_eq ?_ | refine sl_eq ?_ ?_ ?_ | refine ptr_eq ?_ ?_ ?_ | refine agg_eq ?_ | refine es_cons ?_ ?_ | refine row_cons ?_ ?_)
        all_goals (first | (simp; done) | omega | (simp; omega))
      case hstore =>
        repeat' (first | rfl | refine env_cons ?_ ?_ | refine st_cons ?_ ?_ ?_ ?_ | refine int_eq ?_ | refine bool_eq ?_ | refine rsl_eq ?_ | refine osl_eq ?_ | refine sl_eq ?_ ?_ ?_ | refine ptr_eq ?_ ?_ ?_ | refine agg_eq ?_ | refine es_cons ?_ ?_ | refine row_cons ?_ ?_)
        all_goals (first | (simp; done) | omega | (simp; omega))
      case hst =>
        first | trivial | omega | (simp; done) | (simp; omega)
    rintro mm ee ss kk ⟨k, g6, v6, g8, v8, g17, v17, rfl, rfl, rfl, hI⟩
    generalize hQl1 : thenQ _ _ = Ql1
    refine AW.seq fun K7 hK7 => ?_
    -- region 5
    refine AW.regionK 0 (fun _ => none) [2, 6, 8, 19, 20, 21, 22] [6, 8, 17] ?_
    simp only [go_sem, reduceIte, reduceCtorEq, Nat.reduceAdd, Nat.reduceMul, Nat.reduceEqDiff, Nat.reduceLT, Nat.reduceLeDiff, Nat.reduceSub, Nat.reducePow, Nat.reduceBEq, Int.reduceToNat, List.reduceReplicate]
    repeat with_reducible refine cj ?_ ?_
    all_goals try first | omega
    refine hK7 _ _ _ ?_; clear hK7
    refine AW.seq fun K8 hK8 => ?_
    -- cond 2
    refine AW.cond rfl (by simp only [go_sem, reduceIte, reduceCtorEq, Nat.reduceAdd, Nat.reduceMul, Nat.reduceEqDiff, Nat.reduceLT, Nat.reduceLeDiff, Nat.reduceSub, Nat.reducePow, Nat.reduceBEq, Int.reduceToNat, List.reduceReplicate]) ?_ ?_
    · intro hb
      try simp only [hB, decide_eq_true_eq, decide_eq_false_iff_not] at hb
      have hzl := zipK_len (g := g) hlen (k := k) (by omega)
      have hzg := zipK_get (g := g) hlen (k := k) (by omega)
      have hzs := zipK_set (g := g) hlen (k := k) (by omega)
      have hgv := words_getD (l := V) (i := k) (by omega)
      have hgz := words_getD (l := zipK g W V k) (i := k) (by omega)
      rw [hzg] at hgz
      have hff := hf (W.getD k 0) (V.getD k 0)
      refine AW.skip ?_
      refine hK8 _ _ _ ?_; clear hK8
      refine AW.seq fun K9 hK9 => ?_
      refine AW.block ?_
      refine AW.seq fun K10 hK10 => ?_
      -- region 6
      refine AW.regionK 0 (fun _ => none) [2, 6, 8, 9, 10, 19, 20, 21] [6, 8, 17] ?_
      simp only [go_sem, reduceIte, reduceCtorEq, Nat.reduceAdd, Nat.reduceMul, Nat.reduceEqDiff, Nat.reduceLT, Nat.reduceLeDiff, Nat.reduceSub, Nat.reducePow, Nat.reduceBEq, Int.reduceToNat, List.reduceReplicate, hgv]
      repeat with_reducible refine cj ?_ ?_
      all_goals try first | omega
      refine hK10 _ _ _ ?_; clear hK10
      -- region 7
      refine AW.regionD mixed 0 (fun ii => if ii = 10 then some (.reads false (.int .u64 (g (W.getD k 0) (V.getD k 0)))) else none) [2, 6, 8, 19, 20, 21] [6, 8, 17] ?_
      simp only [go_sem, reduceIte, reduceCtorEq, Nat.reduceAdd, Nat.reduceMul, Nat.reduceEqDiff, Nat.reduceLT, Nat.reduceLeDiff, Nat.reduceSub, Nat.reducePow, Nat.reduceBEq, Int.reduceToNat, List.reduceReplicate, hgz, hzl]
      repeat with_reducible refine cj ?_ ?_
      all_goals try first | (first | exact hff | exact he) | omega | exact chk (by kernel_rfl) | exact ent (by kernel_rfl)
      refine hK9 _ _ _ ?_; clear hK9
      -- region 8
      refine AW.regionK 0 (fun _ => none) [2, 6, 8, 19, 20, 21] [6, 8, 17] ?_
      simp only [go_sem, reduceIte, reduceCtorEq, Nat.reduceAdd, Nat.reduceMul, Nat.reduceEqDiff, Nat.reduceLT, Nat.reduceLeDiff, Nat.reduceSub, Nat.reducePow, Nat.reduceBEq, Int.reduceToNat, List.reduceReplicate]
      repeat with_reducible refine cj ?_ ?_
      all_goals try first | omega
      rw [← hQl1]
      change Exists _
      refine ⟨_, ?hm, k + 1, ?_, ?_, ?_, ?_, ?_, ?_, rfl, ?henv, ?hstore, ?hst⟩
      case henv =>
        repeat' (first | rfl | refine env_cons ?_ ?_ | refine st_cons ?_ ?_ ?_ ?_ | refine int_eq ?_ | refine bool_eq ?_ | refine rsl_eq ?_ | refine osl_eq ?_ | refine sl_eq ?_ ?_ ?_ | refine ptr_eq ?_ ?_ ?_ | refine agg_eq ?_ | refine es_cons ?_ ?_ | refine row_cons ?_ ?_)
        all_goals (first | (simp; done) | omega | (simp; omega))
      case hstore =>
        repeat' (first | rfl | refine env_cons ?_ ?_ | refine st_cons ?_ ?_ ?_ ?_ | refine int_eq ?_ | refine bool_eq ?_ | refine rsl_eq ?_ | refine osl_eq ?_ | refine sl_eq ?_ ?_ ?_ | refine ptr_eq ?_ ?_ ?_ | refine agg_eq ?_ | refine es_cons ?_ ?_ | refine row_cons ?_ ?_)
        all_goals (rw [← hzs])
      case hst =>
        first | trivial | omega | (simp; done) | (simp; omega)
      case hm => omega
    · intro hb
      try simp only [hB, decide_eq_true_eq, decide_eq_false_iff_not] at hb
      refine AW.exit ?_
      rw [← hQl1]
      refine hK5 _ _ _ ?_; clear hK5
      refine AW.seq fun K11 hK11 => ?_
      -- region 9
      refine AW.regionK 0 (fun _ => none) [6, 7] [6, 8, 17] ?_
      simp only [go_sem, reduceIte, reduceCtorEq, Nat.reduceAdd, Nat.reduceMul, Nat.reduceEqDiff, Nat.reduceLT, Nat.reduceLeDiff, Nat.reduceSub, Nat.reducePow, Nat.reduceBEq, Int.reduceToNat, List.reduceReplicate]
      repeat with_reducible refine cj ?_ ?_
      all_goals try first | omega
      refine hK11 _ _ _ ?_; clear hK11
      refine AW.ret ?_
      rw [← hQr]
      simp only [go_sem, reduceIte, reduceCtorEq, Nat.reduceAdd, Nat.reduceMul, Nat.reduceEqDiff, Nat.reduceLT, Nat.reduceLeDiff, Nat.reduceSub, Nat.reducePow, Nat.reduceBEq, Int.reduceToNat, List.reduceReplicate]
      have hkl : k = W.length := by omega
      subst hkl
      have hz : (zipK g W V W.length).take W.length = List.zipWith g W V := by unfold zipK; rw [List.drop_of_length_le (Nat.le_refl _), List.append_nil, List.take_take, Nat.min_self, List.take_of_length_le (by simp [hlen])]
      rw [hz]
      exact Wk.refl _
end Go.Proofs.P

namespace Go.Proofs.P
open Go.AM Go
set_option maxRecDepth 100000
set_option maxHeartbeats 2000000
theorem setB_len {b : List Bool} (h : b.length ≤ 512) : (setW b b.length).length ≤ 1000 := by
  rw [setW_len']; have := wordsN_rng (n := (b.length : Int)) (by omega); omega
theorem union_r (a b : List Bool) (ha : a.length ≤ 512) (hl : b.length = a.length) : Reads Tryd.prog 57 false [.agg (rowB a), .agg (rowB b)] (.tup [.agg (rowB (List.zipWith (· || ·) a b)), .int .i64 ((0 : Nat) : Int)]) := by
  have hz := zipW_setW bitOp_or (a := a) (b := b) hl.symm
  have h := combined_r a.length b.length (setW a a.length) (setW b b.length) 85 (bOr .u64) (setB_len ha) (setB_len (by omega)) (by rw [setW_len', setW_len', hl]) (by rw [validS_setW ha, validS_setW (by omega), hl]; simp) (by kernel_rfl) unionf_r
  have e : (List.zipWith (· || ·) a b).length = a.length := by simp [hl]
  rw [hz] at h
  unfold rowB
  rw [e]
  refine Reads.body (rs := [.cell 4 35, .tmp 5]) Tryd.func57 rfl Tryd.ntmps57 rfl (by simp) ?_
  generalize hQr : retQ _ _ _ = Qr
  refine AW.seq fun K1 hK1 => ?_
  -- region 0
  refine AW.regionK 0 (fun _ => none) [2, 3, 4] [2, 3, 4] ?_
  simp only [go_sem, reduceIte, reduceCtorEq, Nat.reduceAdd, Nat.reduceMul, Nat.reduceEqDiff, Nat.reduceLT, Nat.reduceLeDiff, Nat.reduceSub, Nat.reducePow, Nat.reduceBEq, Int.reduceToNat, List.reduceReplicate]
  repeat with_reducible refine cj ?_ ?_
  all_goals try first | omega
  refine hK1 _ _ _ ?_; clear hK1
  refine AW.seq fun K2 hK2 => ?_
  -- region 1
  refine AW.regionK 0 (fun ii => if ii = 2 then some (.reads false (.tup [.agg [.int .i64 a.length, .rsl 1 (words (setW (List.zipWith (· || ·) a b) a.length))], .int .i64 ((0 : Nat) : Int)])) else none) [4, 5] [4] ?_
  simp only [go_sem, reduceIte, reduceCtorEq, Nat.reduceAdd, Nat.reduceMul, Nat.reduceEqDiff, Nat.reduceLT, Nat.reduceLeDiff, Nat.reduceSub, Nat.reducePow, Nat.reduceBEq, Int.reduceToNat, List.reduceReplicate]
  repeat with_reducible refine cj ?_ ?_
  all_goals try first | (exact h) | omega | exact ent (by kernel_rfl)
  refine hK2 _ _ _ ?_; clear hK2
  refine AW.ret ?_
  rw [← hQr]
  simp only [go_sem, reduceIte, reduceCtorEq, Nat.reduceAdd, Nat.reduceMul, Nat.reduceEqDiff, Nat.reduceLT, Nat.reduceLeDiff, Nat.reduceSub, Nat.reducePow, Nat.reduceBEq, Int.reduceToNat, List.reduceReplicate]
  exact Wk.refl _
theorem minus_r (a b : List Bool) (ha : a.length ≤ 512) (hl : b.length = a.length) : Reads Tryd.prog 68 false [.agg (rowB a), .agg (rowB b)] (.tup [.agg (rowB (List.zipWith (fun x y => x && !y) a b)), .int .i64 ((0 : Nat) : Int)]) := by
  have hz := zipW_setW bitOp_andNot (a := a) (b := b) hl.symm
  have h := combined_r a.length b.length (setW a a.length) (setW b b.length) 92 (bAndNot .u64) (setB_len ha) (setB_len (by omega)) (by rw [setW_len', setW_len', hl]) (by rw [validS_setW ha, validS_setW (by omega), hl]; simp) (by kernel_rfl) minusf_r
  have e : (List.zipWith (fun x y => x && !y) a b).length = a.length := by simp [hl]
  rw [hz] at h
  unfold rowB
  rw [e]
  refine Reads.body (rs := [.cell 4 35, .tmp 5]) Tryd.func68 rfl Tryd.ntmps68 rfl (by simp) ?_
  generalize hQr : retQ _ _ _ = Qr
  refine AW.seq fun K1 hK1 => ?_
  -- region 0
  refine AW.regionK 0 (fun _ => none) [2, 3, 4] [2, 3, 4] ?_
  simp only [go_sem, reduceIte, reduceCtorEq, Nat.reduceAdd, Nat.reduceMul, Nat.reduceEqDiff, Nat.reduceLT, Nat.reduceLeDiff, Nat.reduceSub, Nat.reducePow, Nat.reduceBEq, Int.reduceToNat, List.reduceReplicate]
  repeat with_reducible refine cj ?_ ?_
  all_goals try first | omega
  refine hK1 _ _ _ ?_; clear hK1
  refine AW.seq fun K2 hK2 => ?_
  -- region 1
  refine AW.regionK 0 (fun ii => if ii = 2 then some (.reads false (.tup [.agg [.int .i64 a.length, .rsl 1 (words (setW (List.zipWith (fun x y => x && !y) a b) a.length))], .int .i64 ((0 : Nat) : Int)])) else none) [4, 5] [4] ?_
  simp only [go_sem, reduceIte, reduceCtorEq, Nat.reduceAdd, Nat.reduceMul, Nat.reduceEqDiff, Nat.reduceLT, Nat.reduceLeDiff, Nat.reduceSub, Nat.reducePow, Nat.reduceBEq, Int.reduceToNat, List.reduceReplicate]
  repeat with_reducible refine cj ?_ ?_
  all_goals try first | (exact h) | omega | exact ent (by kernel_rfl)
  refine hK2 _ _ _ ?_; clear hK2
  refine AW.ret ?_
  rw [← hQr]
  simp only [go_sem, reduceIte, reduceCtorEq, Nat.reduceAdd, Nat.reduceMul, Nat.reduceEqDiff, Nat.reduceLT, Nat.reduceLeDiff, Nat.reduceSub, Nat.reducePow, Nat.reduceBEq, Int.reduceToNat, List.reduceReplicate]
  exact Wk.refl _
end Go.Proofs.P

/- Strict orders as tables of truths. -/
namespace Go.AM
/-! ### Members of a row. -/
def memB (b : List Bool) : List Nat := (List.range b.length).filter fun i => b.getD i false
theorem memB_mem {b : List Bool} {i : Nat} : i ∈ memB b ↔ i < b.length ∧ b.getD i false = true := by
  unfold memB; simp [List.mem_filter]
theorem memB_le (b : List Bool) : (memB b).length ≤ b.length := by
  unfold memB; have := List.length_filter_le (fun i => b.getD i false) (List.range b.length); simpa using this
def subB (a b : List Bool) : Bool := (List.range a.length).all fun i => !a.getD i false || b.getD i false
theorem subB_iff {a b : List Bool} : subB a b = true ↔ ∀ i, i < a.length → a.getD i false = true → b.getD i false = true := by
  unfold subB
  rw [List.all_eq_true]
  constructor
  · intro h i hi ha
    have := h i (List.mem_range.2 hi)
    rw [ha] at this
    simpa using this
  · intro h i hi
    have := h i (List.mem_range.1 hi)
    cases ha : a.getD i false
    · rfl
    · rw [this ha]; rfl
/-! ### Orders. -/
def poB (n : Nat) (t : List (List Bool)) : Bool := (List.range n).all fun i => (memB (rowT t i)).all fun j => !decide (j = i) && subB (rowT t j) (rowT t i)
structure IsPo (n : Nat) (t : List (List Bool)) : Prop where
  irr : ∀ i, i < n → atT t i i = false
  trans : ∀ i j k, i < n → j < n → k < n → atT t i j = true → atT t j k = true → atT t i k = true
theorem poB_iff {n : Nat} {t : List (List Bool)} (h : Sq n t) : poB n t = true ↔ IsPo n t := by
  unfold poB
  simp only [List.all_eq_true, List.mem_range, memB_mem, Bool.and_eq_true, Bool.not_eq_true', decide_eq_false_iff_not]
  constructor
  · intro H
    refine ⟨fun i hi => ?_, fun i j k hi hj hk h1 h2 => ?_⟩
    · cases e : atT t i i
      · rfl
      · exact absurd rfl (H i hi i ⟨by rw [h.rowLen hi]; exact hi, e⟩).1
    · exact subB_iff.1 (H i hi j ⟨by rw [h.rowLen hi]; exact hj, h1⟩).2 k (by rw [h.rowLen hj]; exact hk) h2
  · intro H i hi j hj
    have hjn : j < n := by rw [h.rowLen hi] at hj; exact hj.1
    refine ⟨fun e => ?_, subB_iff.2 fun k hk ha => ?_⟩
    · subst e
      have := H.irr _ hi
      unfold atT at this
      rw [this] at hj
      exact absurd hj.2 (by simp)
    · rw [h.rowLen hjn] at hk
      exact H.trans i j k hi hjn hk hj.2 ha
theorem poB_false {n : Nat} {t : List (List Bool)} (i j : Nat) (hi : i < n) (hj : j ∈ memB (rowT t i)) (hb : j = i ∨ subB (rowT t j) (rowT t i) = false) : poB n t = false := by
  cases e : poB n t
  · rfl
  · exfalso
    unfold poB at e
    rw [List.all_eq_true] at e
    have h1 := e i (List.mem_range.2 hi)
    rw [List.all_eq_true] at h1
    have h2 := h1 j hj
    rcases hb with hb | hb
    · simp [hb] at h2
    · simp [hb] at h2
theorem IsPo.inv {n : Nat} {t : List (List Bool)} (h : IsPo n t) : IsPo n (invT n t) := by
  refine ⟨fun i hi => by rw [atT_inv hi hi]; exact h.irr i hi, fun i j k hi hj hk h1 h2 => ?_⟩
  rw [atT_inv hi hj] at h1
  rw [atT_inv hj hk] at h2
  rw [atT_inv hi hk]
  exact h.trans k j i hk hj hi h2 h1
theorem IsPo.warsh {n : Nat} {t : List (List Bool)} (hs : Sq n t) (h : IsPo n t) : warsh n t = t := by
  refine tab_ext hs.warsh hs fun i j hi hj => bool_ext ⟨fun hw => ?_, fun hw => warsh_sub hs hi hj hw⟩
  exact warsh_least hs (S := fun a b => atT t a b = true) (fun a b _ _ h => h) (fun a c b ha hc hb h1 h2 => h.trans a c b ha hc hb h1 h2) hi hj hw
theorem IsPo.acyc {n : Nat} {t : List (List Bool)} (hs : Sq n t) (h : IsPo n t) : acyc n t = true := by
  rw [acyc_iff]
  intro i hi
  rw [h.warsh hs]
  exact h.irr i hi
/-! ### Covers. -/
def covT (n : Nat) (t : List (List Bool)) : List (List Bool) := redT n t (compT n t (warsh n t))
/-! ### Sets of elements. -/
def setR (n : Nat) (f : Nat → Bool) : List Bool := (List.range n).map f
theorem setR_len (n : Nat) (f : Nat → Bool) : (setR n f).length = n := by simp [setR]
theorem setR_get {n : Nat} {f : Nat → Bool} {i : Nat} (h : i < n) : (setR n f).getD i false = f i := by
  unfold setR; simp [List.getD_eq_getElem?_getD, h]
theorem setR_ext {n : Nat} {f g : Nat → Bool} (h : ∀ i, i < n → f i = g i) : setR n f = setR n g := List.map_congr_left fun i hi => h i (List.mem_range.1 hi)
/-- The elements above a member. -/
def abvF (n : Nat) (t : List (List Bool)) (b : List Bool) (j : Nat) : Bool := (List.range n).any fun i => b.getD i false && atT t i j
def abvL (n : Nat) (t : List (List Bool)) (l : List Nat) : List Bool := l.foldl (fun r i => List.zipWith (· || ·) r (rowT t i)) (List.replicate n false)
theorem abvL_len {n : Nat} {t : List (List Bool)} (hs : Sq n t) (l : List Nat) (hl : ∀ i ∈ l, i < n) : (abvL n t l).length = n := by
  have : ∀ (l : List Nat) (r : List Bool), (∀ i ∈ l, i < n) → r.length = n → (l.foldl (fun r i => List.zipWith (· || ·) r (rowT t i)) r).length = n := by
    intro l
    induction l with
    | nil => intro r _ h; exact h
    | cons a l ih =>
      intro r hl h
      refine ih _ (fun i hi => hl i (List.mem_cons_of_mem _ hi)) ?_
      have := hs.rowLen (hl a (List.mem_cons_self ..))
      simp [h, this]
  exact this l _ hl (by simp)
theorem abvL_get {n : Nat} {t : List (List Bool)} (hs : Sq n t) {j : Nat} (hj : j < n) (l : List Nat) (hl : ∀ i ∈ l, i < n) : (abvL n t l).getD j false = l.any fun i => atT t i j := by
  have : ∀ (l : List Nat) (r : List Bool), (∀ i ∈ l, i < n) → r.length = n → (l.foldl (fun r i => List.zipWith (· || ·) r (rowT t i)) r).getD j false = (r.getD j false || l.any fun i => atT t i j) := by
    intro l
    induction l with
    | nil => intro r _ h; simp
    | cons a l ih =>
      intro r hl h
      have hr := hs.rowLen (hl a (List.mem_cons_self ..))
      rw [List.foldl_cons, ih _ (fun i hi => hl i (List.mem_cons_of_mem _ hi)) (by simp [h, hr]), zipB_get _ (by rw [h, hr]) (by rw [h]; exact hj), List.any_cons, Bool.or_assoc]
      rfl
  rw [abvL, this l _ hl (by simp)]
  have e : (List.replicate n false).getD j false = false := by rw [List.getD_eq_getElem?_getD, List.getElem?_replicate]; split <;> rfl
  rw [e]; rfl
theorem abvL_snoc (n : Nat) (t : List (List Bool)) (l : List Nat) (i : Nat) : abvL n t (l ++ [i]) = List.zipWith (· || ·) (abvL n t l) (rowT t i) := by simp [abvL]
theorem abv_eq {n : Nat} {t : List (List Bool)} (hs : Sq n t) {b : List Bool} (hb : b.length = n) : abvL n t (memB b) = setR n (abvF n t b) := by
  have hm : ∀ i ∈ memB b, i < n := fun i hi => by rw [← hb]; exact (memB_mem.1 hi).1
  refine getD_extB (by rw [abvL_len hs _ hm, setR_len]) fun j hj => ?_
  rw [abvL_len hs _ hm] at hj
  rw [abvL_get hs hj _ hm, setR_get hj]
  refine bool_ext ?_
  unfold abvF
  rw [List.any_eq_true, List.any_eq_true]
  constructor
  · rintro ⟨i, h1, h2⟩
    have := memB_mem.1 h1
    exact ⟨i, List.mem_range.2 (hm i h1), by rw [this.2, h2]; rfl⟩
  · rintro ⟨i, h1, h2⟩
    rw [Bool.and_eq_true] at h2
    exact ⟨i, memB_mem.2 ⟨by rw [hb]; exact List.mem_range.1 h1, h2.1⟩, h2.2⟩
def upT (n : Nat) (t : List (List Bool)) (b : List Bool) : List Bool := setR n fun j => b.getD j false || abvF n t b j
theorem up_eq {n : Nat} {t : List (List Bool)} {b : List Bool} (hb : b.length = n) : List.zipWith (· || ·) b (setR n (abvF n t b)) = upT n t b := by
  refine getD_extB (by simp [hb, setR_len, upT]) fun j hj => ?_
  have hj : j < n := by simp [hb, setR_len] at hj; exact hj
  rw [zipB_get _ (by rw [hb, setR_len]) (by rw [hb]; exact hj), upT, setR_get hj, setR_get hj]
end Go.AM

namespace Go.Proofs.P
open Go.AM Go
set_option maxRecDepth 100000
set_option maxHeartbeats 2000000
theorem memT_setW {b : List Bool} (hb : b.length ≤ 512) : memT (setW b b.length) (setW b b.length).length = memB b := by
  have hok := setW_ok b
  rw [memT_filter hok, setW_len']
  have hw := wordsN_rng (n := (b.length : Int)) (by omega)
  obtain ⟨c, hc⟩ : ∃ c, 64 * (wordsN b.length).toNat = b.length + c := ⟨64 * (wordsN b.length).toNat - b.length, by omega⟩
  rw [hc, range_add]
  have h2 : ((List.range c).filter fun j => hasW (setW b b.length) ((b.length + j : Nat) : Int)) = [] := by
    rw [List.filter_eq_nil_iff]
    intro j hj
    have hj := List.mem_range.1 hj
    rw [hasW_setW b (i := b.length + j) (by rw [setW_len']; omega)]
    simp [List.getD_eq_getElem?_getD]
  rw [h2, List.map_nil, List.append_nil]
  unfold memB
  refine List.filter_congr fun i hi => ?_
  exact hasW_row (List.mem_range.1 hi)
theorem members_b (b : List Bool) (hb : b.length ≤ 512) : Reads Tryd.prog 64 false [.agg (rowB b)] (.tup [.rsl 1 (ints (nats (memB b))), .int .i64 ((0 : Nat) : Int)]) := by
  have h := members_r b.length (setW b b.length) (validS_setW hb) (setW_ok b)
  rw [memT_setW hb] at h
  exact h
theorem count_b (b : List Bool) (hb : b.length ≤ 512) : Reads Tryd.prog 89 false [.agg (rowB b)] (.int .i64 ((memB b).length : Nat)) := by
  have h := count_r b.length (setW b b.length) (validS_setW hb) (setW_ok b)
  rw [memT_setW hb] at h
  exact h
theorem subB_count {a b : List Bool} (hl : b.length = a.length) : decide (((memB (List.zipWith (fun x y => x && !y) a b)).length : Int) = 0) = subB a b := by
  have e : (List.zipWith (fun x y => x && !y) a b).length = a.length := by simp [hl]
  refine bool_ext ?_
  rw [decide_eq_true_eq, show (((memB (List.zipWith (fun x y => x && !y) a b)).length : Int) = 0 ↔ memB (List.zipWith (fun x y => x && !y) a b) = []) from by rw [← List.length_eq_zero_iff]; omega]
  unfold memB subB
  rw [List.filter_eq_nil_iff, List.all_eq_true, e]
  constructor
  · intro h i hi
    have := h i hi
    rw [zipB_get _ hl.symm (List.mem_range.1 hi)] at this
    cases h1 : a.getD i false <;> cases h2 : b.getD i false <;> simp_all
  · intro h i hi
    have := h i hi
    rw [zipB_get _ hl.symm (List.mem_range.1 hi)]
    revert this
    cases a.getD i false <;> cases b.getD i false <;> decide
theorem subset_r (a b : List Bool) (ha : a.length ≤ 512) (hl : b.length = a.length) : Reads Tryd.prog 65 false [.agg (rowB a), .agg (rowB b)] (.bool (subB a b)) := by
  have hm := minus_r a b ha hl
  have e : (List.zipWith (fun x y => x && !y) a b).length = a.length := by simp [hl]
  have hc := count_b (List.zipWith (fun x y => x && !y) a b) (by omega)
  have hs := subB_count hl
  unfold rowB at *
  refine Reads.body (rs := [.tmp 4]) Tryd.func65 rfl Tryd.ntmps65 rfl (by simp) ?_
  generalize hQr : retQ _ _ _ = Qr
  refine AW.seq fun K1 hK1 => ?_
  -- region 0
  refine AW.regionK 0 (fun _ => none) [2, 3] [2, 3] ?_
  simp only [go_sem, reduceIte, reduceCtorEq, Nat.reduceAdd, Nat.reduceMul, Nat.reduceEqDiff, Nat.reduceLT, Nat.reduceLeDiff, Nat.reduceSub, Nat.reducePow, Nat.reduceBEq, Int.reduceToNat, List.reduceReplicate]
  repeat with_reducible refine cj ?_ ?_
  all_goals try first | omega
  refine hK1 _ _ _ ?_; clear hK1
  refine AW.seq fun K2 hK2 => ?_
  -- region 1
  refine AW.regionK 0 (fun ii => if ii = 2 then some (.reads false (.tup [.agg (rowB (List.zipWith (fun x y => x && !y) a b)), .int .i64 ((0 : Nat) : Int)])) else none) [5, 6] [5] ?_
  simp only [go_sem, reduceIte, reduceCtorEq, Nat.reduceAdd, Nat.reduceMul, Nat.reduceEqDiff, Nat.reduceLT, Nat.reduceLeDiff, Nat.reduceSub, Nat.reducePow, Nat.reduceBEq, Int.reduceToNat, List.reduceReplicate, rowB]
  repeat with_reducible refine cj ?_ ?_
  all_goals try first | (exact hm) | omega | exact ent (by kernel_rfl)
  refine hK2 _ _ _ ?_; clear hK2
  refine AW.seq fun K3 hK3 => ?_
  -- region 2
  refine AW.regionK 0 (fun ii => if ii = 4 then some (.reads false (.int .i64 ((memB (List.zipWith (fun x y => x && !y) a b)).length : Nat))) else none) [4] [] ?_
  simp only [go_sem, reduceIte, reduceCtorEq, Nat.reduceAdd, Nat.reduceMul, Nat.reduceEqDiff, Nat.reduceLT, Nat.reduceLeDiff, Nat.reduceSub, Nat.reducePow, Nat.reduceBEq, Int.reduceToNat, List.reduceReplicate]
  repeat with_reducible refine cj ?_ ?_
  all_goals try first | (first | exact hc | (intro hh; exact ⟨hh, hc⟩)) | (intros; (repeat' apply And.intro) <;> first | assumption | (first | exact hc | (intro hh; exact ⟨hh, hc⟩))) | omega | exact ent (by kernel_rfl) | (intro hgd; exact absurd hgd (by decide)) | rfl | (simp only [go_sem, reduceIte, reduceCtorEq, Nat.reduceAdd, Nat.reduceMul, Nat.reduceEqDiff, Nat.reduceLT, Nat.reduceLeDiff, Nat.reduceSub, Nat.reducePow, Nat.reduceBEq, Int.reduceToNat, List.reduceReplicate]; done) | (intro _hgd; simp_all [go_sem]; done)
  refine hK3 _ _ _ ?_; clear hK3
  refine AW.ret ?_
  rw [← hQr]
  simp only [go_sem, reduceIte, reduceCtorEq, Nat.reduceAdd, Nat.reduceMul, Nat.reduceEqDiff, Nat.reduceLT, Nat.reduceLeDiff, Nat.reduceSub, Nat.reducePow, Nat.reduceBEq, Int.reduceToNat, List.reduceReplicate]
  exact Wk.of_eq (by rw [← hs]; simp)
end Go.Proofs.P

namespace Go.Proofs.P
open Go.AM Go
set_option maxRecDepth 100000
set_option maxHeartbeats 2000000
theorem inside_r (N : Int) (W : List (List AV)) (i : Int) : Reads Tryd.prog 80 false [.agg [.int .i64 N, .rsl 1 W], .int .i64 i] (.bool (decide (0 ≤ i) && decide (i < N))) := by
  refine Reads.body (rs := [.tmp 4]) Tryd.func80 rfl Tryd.ntmps80 rfl (by simp) ?_
  generalize hQr : retQ _ _ _ = Qr
  refine AW.seq fun K1 hK1 => ?_
  -- region 0
  refine AW.regionK 0 (fun _ => none) [1, 2] [2] ?_
  simp only [go_sem, reduceIte, reduceCtorEq, Nat.reduceAdd, Nat.reduceMul, Nat.reduceEqDiff, Nat.reduceLT, Nat.reduceLeDiff, Nat.reduceSub, Nat.reducePow, Nat.reduceBEq, Int.reduceToNat, List.reduceReplicate]
  repeat with_reducible refine cj ?_ ?_
  all_goals try first | omega
  refine hK1 _ _ _ ?_; clear hK1
  refine AW.seq fun K2 hK2 => ?_
  -- region 1
  refine AW.regionK 0 (fun _ => none) [4] [] ?_
  simp only [go_sem, reduceIte, reduceCtorEq, Nat.reduceAdd, Nat.reduceMul, Nat.reduceEqDiff, Nat.reduceLT, Nat.reduceLeDiff, Nat.reduceSub, Nat.reducePow, Nat.reduceBEq, Int.reduceToNat, List.reduceReplicate]
  repeat with_reducible refine cj ?_ ?_
  all_goals try first | omega | (intros; (repeat' apply And.intro) <;> first | assumption | omega | decide) | (intro hgd; exact absurd hgd (by decide)) | rfl | (simp only [go_sem, reduceIte, reduceCtorEq, Nat.reduceAdd, Nat.reduceMul, Nat.reduceEqDiff, Nat.reduceLT, Nat.reduceLeDiff, Nat.reduceSub, Nat.reducePow, Nat.reduceBEq, Int.reduceToNat, List.reduceReplicate]; done) | (intro _hgd; simp_all [go_sem]; done)
  refine hK2 _ _ _ ?_; clear hK2
  refine AW.ret ?_
  rw [← hQr]
  simp only [go_sem, reduceIte, reduceCtorEq, Nat.reduceAdd, Nat.reduceMul, Nat.reduceEqDiff, Nat.reduceLT, Nat.reduceLeDiff, Nat.reduceSub, Nat.reducePow, Nat.reduceBEq, Int.reduceToNat, List.reduceReplicate]
  exact Wk.refl _
theorem bhas0_r (N : Int) (W : List Int) (i : Int) (hW : okW W) (h0 : 0 ≤ i) (h1 : i.tdiv 64 < W.length) (hl : W.length ≤ 9223372036854775807) : Reads Tryd.prog 81 false [.agg [.int .i64 N, .rsl 1 (words W)], .int .i64 i] (.bool (hasW W i)) := by
  have hd := div64_rng (i := i) (n := i + 1) h0 (by omega)
  have hgw := words_getD (l := W) (i := (i.tdiv 64).toNat) (by omega)
  have hb := bit_hasW hW h0
  refine Reads.body (rs := [.tmp 4]) Tryd.func81 rfl Tryd.ntmps81 rfl (by simp) ?_
  generalize hQr : retQ _ _ _ = Qr
  refine AW.seq fun K1 hK1 => ?_
  -- region 0
  refine AW.regionK 0 (fun _ => none) [1, 2] [2] ?_
  simp only [go_sem, reduceIte, reduceCtorEq, Nat.reduceAdd, Nat.reduceMul, Nat.reduceEqDiff, Nat.reduceLT, Nat.reduceLeDiff, Nat.reduceSub, Nat.reducePow, Nat.reduceBEq, Int.reduceToNat, List.reduceReplicate]
  repeat with_reducible refine cj ?_ ?_
  all_goals try first | omega
  refine hK1 _ _ _ ?_; clear hK1
  refine AW.seq fun K2 hK2 => ?_
  -- region 1
  refine AW.regionK 0 (fun _ => none) [4] [] ?_
  simp only [go_sem, reduceIte, reduceCtorEq, Nat.reduceAdd, Nat.reduceMul, Nat.reduceEqDiff, Nat.reduceLT, Nat.reduceLeDiff, Nat.reduceSub, Nat.reducePow, Nat.reduceBEq, Int.reduceToNat, List.reduceReplicate, hgw]
  repeat with_reducible refine cj ?_ ?_
  all_goals try first | omega
  refine hK2 _ _ _ ?_; clear hK2
  refine AW.ret ?_
  rw [← hQr]
  simp only [go_sem, reduceIte, reduceCtorEq, Nat.reduceAdd, Nat.reduceMul, Nat.reduceEqDiff, Nat.reduceLT, Nat.reduceLeDiff, Nat.reduceSub, Nat.reducePow, Nat.reduceBEq, Int.reduceToNat, List.reduceReplicate]
  exact Wk.of_eq (by rw [hb])
theorem bhas_r (N : Int) (W : List Int) (i : Int) (hW : okW W) (hl : W.length ≤ 9223372036854775807) : Reads Tryd.prog 49 false [.agg [.int .i64 N, .rsl 1 (words W)], .int .i64 i] (.bool (memS N W i)) := by
  have hv := bvalid_r N W hl
  have hin := inside_r N (words W) i
  have hh0 := fun h0 h1 => bhas0_r N W i hW h0 h1 hl
  refine Reads.body (rs := [.tmp 4]) Tryd.func49 rfl Tryd.ntmps49 rfl (by simp) ?_
  generalize hQr : retQ _ _ _ = Qr
  refine AW.seq fun K1 hK1 => ?_
  -- region 0
  refine AW.regionK 0 (fun _ => none) [1, 2] [2] ?_
  simp only [go_sem, reduceIte, reduceCtorEq, Nat.reduceAdd, Nat.reduceMul, Nat.reduceEqDiff, Nat.reduceLT, Nat.reduceLeDiff, Nat.reduceSub, Nat.reducePow, Nat.reduceBEq, Int.reduceToNat, List.reduceReplicate]
  repeat with_reducible refine cj ?_ ?_
  all_goals try first | omega
  refine hK1 _ _ _ ?_; clear hK1
  refine AW.seq fun K2 hK2 => ?_
  -- region 1
  refine AW.regionK 0 (fun ii => if ii = 1 then some (.reads false (.bool (validS N W))) else if ii = 5 then some (.reads false (.bool (decide (0 ≤ i) && decide (i < N)))) else if ii = 10 then some (.reads false (.bool (hasW W i))) else none) [4] [] ?_
  simp only [go_sem, reduceIte, reduceCtorEq, Nat.reduceAdd, Nat.reduceMul, Nat.reduceEqDiff, Nat.reduceLT, Nat.reduceLeDiff, Nat.reduceSub, Nat.reducePow, Nat.reduceBEq, Int.reduceToNat, List.reduceReplicate]
  repeat with_reducible refine cj ?_ ?_
  all_goals try first | (first | exact hv | (intro hh; exact ⟨hh, hin⟩) | (intro hh; refine ⟨hh, ?_⟩; simp at hh; have hs := validS_sz hh.1; have hd := div64_rng (i := i) (n := N) (by omega) (by omega); exact hh0 (by omega) (by omega))) | (intros; (repeat' apply And.intro) <;> first | assumption | (first | exact hv | (intro hh; exact ⟨hh, hin⟩) | (intro hh; refine ⟨hh, ?_⟩; simp at hh; have hs := validS_sz hh.1; have hd := div64_rng (i := i) (n := N) (by omega) (by omega); exact hh0 (by omega) (by omega)))) | omega | exact ent (by kernel_rfl) | (intro hgd; exact absurd hgd (by decide)) | rfl | (simp only [go_sem, reduceIte, reduceCtorEq, Nat.reduceAdd, Nat.reduceMul, Nat.reduceEqDiff, Nat.reduceLT, Nat.reduceLeDiff, Nat.reduceSub, Nat.reducePow, Nat.reduceBEq, Int.reduceToNat, List.reduceReplicate]; done) | (intro _hgd; simp_all [go_sem]; done)
  refine hK2 _ _ _ ?_; clear hK2
  refine AW.ret ?_
  rw [← hQr]
  simp only [go_sem, reduceIte, reduceCtorEq, Nat.reduceAdd, Nat.reduceMul, Nat.reduceEqDiff, Nat.reduceLT, Nat.reduceLeDiff, Nat.reduceSub, Nat.reducePow, Nat.reduceBEq, Int.reduceToNat, List.reduceReplicate]
  exact Wk.of_eq (by simp [memS, Bool.and_assoc])
end Go.Proofs.P

namespace Go.Proofs.P
open Go.AM Go
set_option maxRecDepth 100000
set_option maxHeartbeats 2000000
theorem of_r (n : Int) (l : List Int) (h0 : 0 ≤ n) (h1 : n ≤ 512) (hl : l.length ≤ 9223372036854775807) (hr : ∀ i ∈ l, 0 ≤ i ∧ i < n) :
    Reads Tryd.prog 93 true [.int .i64 n, .rsl 1 (ints l)] (.tup [.agg [.int .i64 n, .rsl 1 (words (ofW n l))], .int .i64 0]) := by
  have hwr := bwords_r n h0 (by omega)
  have hwn := wordsN_rng h0
  refine Reads.bodyF (rs := [.cell 4 35, .tmp 5]) Tryd.func93 rfl Tryd.ntmps93 rfl (by simp) ?_
  generalize hQr : retQ _ _ _ = Qr
  refine AW.seq fun K1 hK1 => ?_
  -- region 0
  refine AW.regionK 0 (fun _ => none) [0, 1, 4] [4] ?_
  simp only [go_sem, reduceIte, reduceCtorEq, Nat.reduceAdd, Nat.reduceMul, Nat.reduceEqDiff, Nat.reduceLT, Nat.reduceLeDiff, Nat.reduceSub, Nat.reducePow, Nat.reduceBEq, Int.reduceToNat, List.reduceReplicate]
  repeat with_reducible refine cj ?_ ?_
  all_goals try first | omega
  refine hK1 _ _ _ ?_; clear hK1
  refine AW.seq fun K2 hK2 => ?_
  refine AW.seq fun K3 hK3 => ?_
  -- region 1
  refine AW.regionK 0 (fun _ => none) [0, 1, 4, 14] [4] ?_
  simp only [go_sem, reduceIte, reduceCtorEq, Nat.reduceAdd, Nat.reduceMul, Nat.reduceEqDiff, Nat.reduceLT, Nat.reduceLeDiff, Nat.reduceSub, Nat.reducePow, Nat.reduceBEq, Int.reduceToNat, List.reduceReplicate]
  repeat with_reducible refine cj ?_ ?_
  all_goals try first | omega | (intros; (repeat' apply And.intro) <;> first | assumption | omega | decide) | (intro hgd; exact absurd hgd (by decide)) | rfl | (simp only [go_sem, reduceIte, reduceCtorEq, Nat.reduceAdd, Nat.reduceMul, Nat.reduceEqDiff, Nat.reduceLT, Nat.reduceLeDiff, Nat.reduceSub, Nat.reducePow, Nat.reduceBEq, Int.reduceToNat, List.reduceReplicate]; done) | (intro _hgd; simp_all [go_sem]; done)
  refine hK3 _ _ _ ?_; clear hK3
  -- cond 1
  refine AW.cond rfl (by simp only [go_sem, reduceIte, reduceCtorEq, Nat.reduceAdd, Nat.reduceMul, Nat.reduceEqDiff, Nat.reduceLT, Nat.reduceLeDiff, Nat.reduceSub, Nat.reducePow, Nat.reduceBEq, Int.reduceToNat, List.reduceReplicate]) ?_ ?_
  · intro hb
    try simp only [hB, decide_eq_true_eq, decide_eq_false_iff_not] at hb
    exfalso; omega
  · intro hb
    try simp only [hB, decide_eq_true_eq, decide_eq_false_iff_not] at hb
    refine AW.skip ?_
    refine hK2 _ _ _ ?_; clear hK2
    refine AW.seq fun K4 hK4 => ?_
    -- region 3
    refine AW.regionK 0 (fun ii => if ii = 2 then some (.reads false (.int .i64 (wordsN n))) else none) [1, 4, 6] [4, 6, 19] ?_
    simp only [go_sem, reduceIte, reduceCtorEq, Nat.reduceAdd, Nat.reduceMul, Nat.reduceEqDiff, Nat.reduceLT, Nat.reduceLeDiff, Nat.reduceSub, Nat.reducePow, Nat.reduceBEq, Int.reduceToNat, List.reduceReplicate]
    repeat with_reducible refine cj ?_ ?_
    all_goals try first | omega | exact ent (by kernel_rfl)
    refine hK4 _ _ _ ?_; clear hK4
    refine AW.seq fun K5 hK5 => ?_
    refine AW.seq fun K6 hK6 => ?_
    -- region 4
    refine AW.regionK 0 (fun _ => none) [4, 6, 21, 22, 23] [4, 6, 19] ?_
    simp only [go_sem, reduceIte, reduceCtorEq, Nat.reduceAdd, Nat.reduceMul, Nat.reduceEqDiff, Nat.reduceLT, Nat.reduceLeDiff, Nat.reduceSub, Nat.reducePow, Nat.reduceBEq, Int.reduceToNat, List.reduceReplicate]
    repeat with_reducible refine cj ?_ ?_
    all_goals try first | omega
    refine hK6 _ _ _ ?_; clear hK6
    refine AW.block ?_
    -- loop 1
    refine AW.loopE (fun mm ee ss kk => ∃ (j g4 v4 g v gw vw : Nat) (c4 : List AV), l.length - j = mm ∧ ee = [(4, .ptr ⟨4, g4, none⟩ 0 0), (6, .ptr ⟨6, g, none⟩ 0 0), (21, .rsl 1 (ints l)), (22, .int .i64 l.length), (23, .int .i64 (j : Nat))] ∧ ss = [(4, some ⟨g4, v4, 2, [[.int .i64 0, .nilsl]]⟩), (6, some ⟨g, v, 2, [[.int .i64 n, .sl ⟨19, gw, none⟩ 0 (wordsN n).toNat none]]⟩), (19, some ⟨gw, vw, 1, words (ofW n (l.take j))⟩)] ∧ (j ≤ l.length)) ?_ ?_
    · refine ⟨_, 0, ?_, ?_, ?_, ?_, ?_, ?_, [], rfl, ?henv, ?hstore, ?hst⟩
      case henv =>
        repeat' (first | rfl | refine env_cons ?_ ?_ | refine st_cons ?_ ?_ ?_ ?_ | refine int_eq ?_ | refine bool_eq ?_ | refine rsl_eq ?_ | refine osl_eq ?_ | refine sl_eq ?_ ?_ ?_ | refine ptr_eq ?_ ?_ ?_ | refine agg_eq ?_ | refine es_cons ?_ ?_ | refine row_cons ?_ ?_)
        all_goals (first | (simp; done) | omega | (simp; omega))
      case hstore =>
        repeat' (first | rfl | refine env_cons ?_ ?_ | refine st_cons ?_ ?_ ?_ ?_ | refine int_eq ?_ | refine bool_eq ?_ | refine rsl_eq ?_ | refine osl_eq ?_ | refine sl_eq ?_ ?_ ?_ | refine ptr_eq ?_ ?_ ?_ | refine agg_eq ?_ | refine es_cons ?_ ?_ | refine row_cons ?_ ?_)
        all_goals simp [ofW, words]
      case hst =>
        first | trivial | omega | (simp; done) | (simp; omega)
    rintro mm ee ss kk ⟨j, g4, v4, g, v, gw, vw, c4, rfl, rfl, rfl, hI⟩
    generalize hQl1 : thenQ _ _ = Ql1
    refine AW.seq fun K7 hK7 => ?_
    -- region 5
    refine AW.regionK 0 (fun _ => none) [4, 6, 21, 22, 23, 24] [4, 6, 19] ?_
    simp only [go_sem, reduceIte, reduceCtorEq, Nat.reduceAdd, Nat.reduceMul, Nat.reduceEqDiff, Nat.reduceLT, Nat.reduceLeDiff, Nat.reduceSub, Nat.reducePow, Nat.reduceBEq, Int.reduceToNat, List.reduceReplicate]
    repeat with_reducible refine cj ?_ ?_
    all_goals try first | omega
    refine hK7 _ _ _ ?_; clear hK7
    refine AW.seq fun K8 hK8 => ?_
    -- cond 2
    refine AW.cond rfl (by simp only [go_sem, reduceIte, reduceCtorEq, Nat.reduceAdd, Nat.reduceMul, Nat.reduceEqDiff, Nat.reduceLT, Nat.reduceLeDiff, Nat.reduceSub, Nat.reducePow, Nat.reduceBEq, Int.reduceToNat, List.reduceReplicate]) ?_ ?_
    · intro hb
      try simp only [hB, decide_eq_true_eq, decide_eq_false_iff_not] at hb
      obtain ⟨x, hx⟩ := getI (l := l) (j := j) (by omega)
      have hgx := ints_get hx
      have hxr := hr x (List.mem_of_getElem? hx)
      have hwl := ofW_len n (l.take j)
      have hd := div64_rng hxr.1 hxr.2
      have hgw := words_getD (l := ofW n (l.take j)) (i := (x.tdiv 64).toNat) (by omega)
      have hsu := ofW_succ (n := n) hx
      have hin := inside_r n (words (ofW n (l.take j))) x
      have hwt : (words (ofW n (l.take j))).take (wordsN n).toNat = words (ofW n (l.take j)) := by rw [words_take, List.take_of_length_le (by omega)]
      refine AW.skip ?_
      refine hK8 _ _ _ ?_; clear hK8
      refine AW.seq fun K9 hK9 => ?_
      refine AW.block ?_
      refine AW.seq fun K10 hK10 => ?_
      -- region 6
      refine AW.regionK 0 (fun _ => none) [4, 6, 8, 21, 22, 23] [4, 6, 19] ?_
      simp only [go_sem, reduceIte, reduceCtorEq, Nat.reduceAdd, Nat.reduceMul, Nat.reduceEqDiff, Nat.reduceLT, Nat.reduceLeDiff, Nat.reduceSub, Nat.reducePow, Nat.reduceBEq, Int.reduceToNat, List.reduceReplicate, hgx]
      repeat with_reducible refine cj ?_ ?_
      all_goals try first | omega
      refine hK10 _ _ _ ?_; clear hK10
      refine AW.seq fun K11 hK11 => ?_
      refine AW.seq fun K12 hK12 => ?_
      -- region 7
      refine AW.regionK 0 (fun ii => if ii = 2 then some (.reads true (.bool (decide (0 ≤ x) && decide (x < n)))) else none) [4, 6, 8, 21, 22, 23, 30] [4, 6, 19] ?_
      simp only [go_sem, reduceIte, reduceCtorEq, Nat.reduceAdd, Nat.reduceMul, Nat.reduceEqDiff, Nat.reduceLT, Nat.reduceLeDiff, Nat.reduceSub, Nat.reducePow, Nat.reduceBEq, Int.reduceToNat, List.reduceReplicate, hwt]
      repeat with_reducible refine cj ?_ ?_
      all_goals try first | (exact Reads.flat hin rfl) | omega | exact ent (by kernel_rfl)
      refine hK12 _ _ _ ?_; clear hK12
      -- cond 3
      refine AW.cond rfl (by simp only [go_sem, reduceIte, reduceCtorEq, Nat.reduceAdd, Nat.reduceMul, Nat.reduceEqDiff, Nat.reduceLT, Nat.reduceLeDiff, Nat.reduceSub, Nat.reducePow, Nat.reduceBEq, Int.reduceToNat, List.reduceReplicate]) ?_ ?_
      · intro hb
        try simp only [hB, decide_eq_true_eq, decide_eq_false_iff_not] at hb
        exfalso; omega
      · intro hb
        try simp only [hB, decide_eq_true_eq, decide_eq_false_iff_not] at hb
        refine AW.skip ?_
        refine hK11 _ _ _ ?_; clear hK11
        -- region 9
        refine AW.regionD mixed 0 (fun _ => none) [4, 6, 21, 22, 23] [4, 6, 19] ?_
        simp only [go_sem, reduceIte, reduceCtorEq, Nat.reduceAdd, Nat.reduceMul, Nat.reduceEqDiff, Nat.reduceLT, Nat.reduceLeDiff, Nat.reduceSub, Nat.reducePow, Nat.reduceBEq, Int.reduceToNat, List.reduceReplicate, hgw, hwl]
        repeat with_reducible refine cj ?_ ?_
        all_goals try first | omega | exact chk (by kernel_rfl)
        refine hK9 _ _ _ ?_; clear hK9
        -- region 10
        refine AW.regionK 0 (fun _ => none) [4, 6, 21, 22, 23] [4, 6, 19] ?_
        simp only [go_sem, reduceIte, reduceCtorEq, Nat.reduceAdd, Nat.reduceMul, Nat.reduceEqDiff, Nat.reduceLT, Nat.reduceLeDiff, Nat.reduceSub, Nat.reducePow, Nat.reduceBEq, Int.reduceToNat, List.reduceReplicate]
        repeat with_reducible refine cj ?_ ?_
        all_goals try first | omega
        rw [← hQl1]
        change Exists _
        refine ⟨_, ?hm, j + 1, ?_, ?_, ?_, ?_, ?_, ?_, [], rfl, ?henv, ?hstore, ?hst⟩
        case henv =>
          repeat' (first | rfl | refine env_cons ?_ ?_ | refine st_cons ?_ ?_ ?_ ?_ | refine int_eq ?_ | refine bool_eq ?_ | refine rsl_eq ?_ | refine osl_eq ?_ | refine sl_eq ?_ ?_ ?_ | refine ptr_eq ?_ ?_ ?_ | refine agg_eq ?_ | refine es_cons ?_ ?_ | refine row_cons ?_ ?_)
          all_goals (first | (simp; done) | omega | (simp; omega))
        case hstore =>
          repeat' (first | rfl | refine env_cons ?_ ?_ | refine st_cons ?_ ?_ ?_ ?_ | refine int_eq ?_ | refine bool_eq ?_ | refine rsl_eq ?_ | refine osl_eq ?_ | refine sl_eq ?_ ?_ ?_ | refine ptr_eq ?_ ?_ ?_ | refine agg_eq ?_ | refine es_cons ?_ ?_ | refine row_cons ?_ ?_)
          all_goals (rw [hsu]; simp [setBit])
        case hst =>
          first | trivial | omega | (simp; done) | (simp; omega)
        case hm => omega
    · intro hb
      try simp only [hB, decide_eq_true_eq, decide_eq_false_iff_not] at hb
      refine AW.keep [4, 6] [4, 6, 19] ?_
      try simp only [go_sem, reduceIte, reduceCtorEq, Nat.reduceAdd, Nat.reduceMul, Nat.reduceEqDiff, Nat.reduceLT, Nat.reduceLeDiff, Nat.reduceSub, Nat.reducePow, Nat.reduceBEq, Int.reduceToNat, List.reduceReplicate]
      refine AW.exit ?_
      rw [← hQl1]
      refine hK5 _ _ _ ?_; clear hK5
      refine AW.seq fun K13 hK13 => ?_
      -- region 11
      refine AW.regionK 0 (fun _ => none) [4, 5] [4, 19] ?_
      simp only [go_sem, reduceIte, reduceCtorEq, Nat.reduceAdd, Nat.reduceMul, Nat.reduceEqDiff, Nat.reduceLT, Nat.reduceLeDiff, Nat.reduceSub, Nat.reducePow, Nat.reduceBEq, Int.reduceToNat, List.reduceReplicate]
      repeat with_reducible refine cj ?_ ?_
      all_goals try first | omega
      refine hK13 _ _ _ ?_; clear hK13
      refine AW.ret ?_
      rw [← hQr]
      simp only [go_sem, reduceIte, reduceCtorEq, Nat.reduceAdd, Nat.reduceMul, Nat.reduceEqDiff, Nat.reduceLT, Nat.reduceLeDiff, Nat.reduceSub, Nat.reducePow, Nat.reduceBEq, Int.reduceToNat, List.reduceReplicate]
      rw [List.take_of_length_le (by rw [ofW_len]; exact Nat.le_refl _), List.take_of_length_le (l := l) (by omega)]
      exact Wk.refl _
end Go.Proofs.P

/- Levels of an order; tables filled pair by pair. -/
namespace Go.AM
structure IsLev (n : Nat) (t : List (List Bool)) (o : List Int) : Prop where
  len : o.length = n
  pos : ∀ j, j < n → 0 ≤ o.getD j 0
  up : ∀ i j, i < n → j < n → atT t i j = true → o.getD i 0 + 1 ≤ o.getD j 0
  att : ∀ j, j < n → o.getD j 0 = 0 ∨ ∃ i, i < n ∧ atT t i j = true ∧ o.getD j 0 = o.getD i 0 + 1
theorem lev_le {n : Nat} {t : List (List Bool)} {o o' : List Int} (h : IsLev n t o) (hp : ∀ j, j < n → 0 ≤ o'.getD j 0) (hu : ∀ i j, i < n → j < n → atT t i j = true → o'.getD i 0 + 1 ≤ o'.getD j 0) :
    ∀ (m : Nat) (j : Nat), j < n → o.getD j 0 ≤ m → o.getD j 0 ≤ o'.getD j 0
  | 0, j, hj, hm => by have := hp j hj; omega
  | m + 1, j, hj, hm => by
    rcases h.att j hj with h0 | ⟨i, hi, ha, he⟩
    · have := hp j hj; omega
    · have := lev_le h hp hu m i hi (by omega)
      have := hu i j hi hj ha
      omega
/-! ### The program: along an order. -/
def levJ (i : Nat) (o : List Int) (j : Nat) : List Int := o.set j (max (o.getD j 0) (o.getD i 0 + 1))
def levS (t : List (List Bool)) (o : List Int) (i : Nat) : List Int := (memB (rowT t i)).foldl (levJ i) o
def levO (n : Nat) (t : List (List Bool)) : List Int := (ordO n t n []).foldl (levS t) (List.replicate n 0)
theorem levJ_len (i : Nat) (l : List Nat) : ∀ o : List Int, (l.foldl (levJ i) o).length = o.length := by
  induction l with
  | nil => intro o; rfl
  | cons a l ih => intro o; rw [List.foldl_cons, ih]; simp [levJ]
theorem levJ_get (i : Nat) : ∀ (l : List Nat) (o : List Int), l.Nodup → (∀ j ∈ l, j < o.length ∧ j ≠ i) → ∀ k, (l.foldl (levJ i) o).getD k 0 = if k ∈ l then max (o.getD k 0) (o.getD i 0 + 1) else o.getD k 0
  | [], o, _, _, k => by simp
  | a :: l, o, hn, hl, k => by
    have ha := hl a (List.mem_cons_self ..)
    have hn2 := List.nodup_cons.1 hn
    rw [List.foldl_cons, levJ_get i l _ hn2.2 (fun j hj => by have := hl j (List.mem_cons_of_mem _ hj); simpa [levJ] using this) k]
    have hi : (levJ i o a).getD i 0 = o.getD i 0 := Go.AM.getD_set_ne ha.2 ..
    rw [hi]
    by_cases e : a = k
    · subst e
      rw [if_neg hn2.1, if_pos (List.mem_cons_self ..)]
      exact Go.AM.getD_set_eq ha.1 _ _
    · have : (levJ i o a).getD k 0 = o.getD k 0 := Go.AM.getD_set_ne e ..
      rw [this]
      have e2 : (k ∈ a :: l) = (k ∈ l) := by
        apply propext; rw [List.mem_cons]; exact ⟨fun h => h.resolve_left (fun h => e h.symm), .inr⟩
      simp only [e2]
theorem memB_nodup (b : List Bool) : (memB b).Nodup := List.Pairwise.sublist List.filter_sublist List.nodup_range
theorem levS_len (t : List (List Bool)) (o : List Int) (i : Nat) : (levS t o i).length = o.length := levJ_len i _ o
theorem levS_get {n : Nat} {t : List (List Bool)} (hs : Sq n t) (hp : IsPo n t) {o : List Int} (ho : o.length = n) {i : Nat} (hi : i < n) {k : Nat} (hk : k < n) : (levS t o i).getD k 0 = if atT t i k = true then max (o.getD k 0) (o.getD i 0 + 1) else o.getD k 0 := by
  unfold levS
  rw [levJ_get i _ _ (memB_nodup _) (fun j hj => by
    have := memB_mem.1 hj
    rw [hs.rowLen hi] at this
    refine ⟨by omega, fun e => ?_⟩
    subst e
    have h2 := hp.irr _ hi
    unfold atT at h2
    rw [h2] at this
    exact absurd this.2 (by simp)) k]
  have e : (k ∈ memB (rowT t i)) = (atT t i k = true) := by
    apply propext; rw [memB_mem, hs.rowLen hi]; exact ⟨fun h => h.2, fun h => ⟨hk, h⟩⟩
  simp only [e]
structure LevI (n : Nat) (t : List (List Bool)) (pre : List Nat) (o : List Int) : Prop where
  len : o.length = n
  pos : ∀ j, j < n → 0 ≤ o.getD j 0
  up : ∀ i j, i ∈ pre → j < n → atT t i j = true → o.getD i 0 + 1 ≤ o.getD j 0
  att : ∀ j, j < n → o.getD j 0 = 0 ∨ ∃ i, i ∈ pre ∧ atT t i j = true ∧ o.getD j 0 = o.getD i 0 + 1
  bnd : ∀ j, j < n → o.getD j 0 ≤ pre.length
theorem LevI.nil (n : Nat) (t : List (List Bool)) : LevI n t [] (List.replicate n 0) := by
  have e : ∀ j, (List.replicate n (0 : Int)).getD j 0 = 0 := fun j => by rw [List.getD_eq_getElem?_getD, List.getElem?_replicate]; split <;> rfl
  exact ⟨by simp, fun j _ => by rw [e]; exact Int.le_refl _, (fun i j h => absurd h List.not_mem_nil), fun j _ => Or.inl (e j), fun j _ => by rw [e]; simp⟩
theorem nodup_ix {l : List Nat} (h : l.Nodup) {p q : Nat} (hp : p < l.length) (hq : q < l.length) (e : l[p] = l[q]) : p = q := (List.getElem_inj h).1 e
/-- What stands before: the elements of a list that is closed downwards. -/
theorem LevI.snoc {n : Nat} {t : List (List Bool)} (hs : Sq n t) (hp : IsPo n t) {pre : List Nat} {o : List Int} (h : LevI n t pre o) {i : Nat} (hi : i < n) (hin : i ∉ pre) (hpr : ∀ k ∈ pre, k < n) (hcl : ∀ k, k ∈ pre → atT t i k = false) : LevI n t (pre ++ [i]) (levS t o i) := by
  have hg := fun k hk => levS_get (k := k) hs hp h.len hi hk
  have hgi : (levS t o i).getD i 0 = o.getD i 0 := by rw [hg i hi, hp.irr i hi]; simp
  have hgp : ∀ k, k ∈ pre → (levS t o i).getD k 0 = o.getD k 0 := fun k hk => by rw [hg k (hpr k hk), hcl k hk]; simp
  have hge : ∀ k, k < n → o.getD k 0 ≤ (levS t o i).getD k 0 := fun k hk => by rw [hg k hk]; split <;> omega
  refine ⟨by rw [levS_len, h.len], fun j hj => Int.le_trans (h.pos j hj) (hge j hj), fun k j hk hj ha => ?_, fun j hj => ?_, fun j hj => ?_⟩
  · rcases List.mem_append.1 hk with hk | hk
    · rw [hgp k hk]
      exact Int.le_trans (h.up k j hk hj ha) (hge j hj)
    · obtain rfl := List.mem_singleton.1 hk
      rw [hgi, hg j hj, if_pos ha]
      omega
  · rw [hg j hj]
    have hold : o.getD j 0 = 0 ∨ ∃ k, k ∈ pre ++ [i] ∧ atT t k j = true ∧ o.getD j 0 = (levS t o i).getD k 0 + 1 := by
      rcases h.att j hj with h0 | ⟨k, hk, ha, he⟩
      · exact .inl h0
      · exact .inr ⟨k, List.mem_append_left _ hk, ha, by rw [hgp k hk]; exact he⟩
    split
    · rename_i ha
      by_cases hm : o.getD i 0 + 1 ≤ o.getD j 0
      · rw [Int.max_eq_left hm]; exact hold
      · rw [Int.max_eq_right (by omega)]
        exact .inr ⟨i, List.mem_append_right _ (List.mem_singleton.2 rfl), ha, by rw [hgi]⟩
    · exact hold
  · rw [hg j hj, List.length_append]
    have h1 := h.bnd j hj
    have h2 := h.bnd i hi
    simp only [List.length_singleton, Int.natCast_add, Int.natCast_one]
    split <;> omega
theorem LevI.all {n : Nat} {t : List (List Bool)} (hs : Sq n t) (hp : IsPo n t) {l : List Nat} (ho : OrdI n t l) : ∀ k, k ≤ l.length → LevI n t (l.take k) ((l.take k).foldl (levS t) (List.replicate n 0))
  | 0, _ => by simpa using LevI.nil n t
  | k + 1, hk => by
    have ih := LevI.all hs hp ho k (by omega)
    have e : l.take (k + 1) = l.take k ++ [l[k]] := by rw [List.take_succ_eq_append_getElem (by omega)]
    rw [e, List.foldl_append]
    have hm : l[k] ∈ l := List.getElem_mem ..
    have hin : ∀ x ∈ l, x < n := ho.rng
    refine LevI.snoc hs hp ih (hin _ hm) ?_ (fun x hx => hin x (List.mem_of_mem_take hx)) fun x hx => ?_
    · intro hx
      obtain ⟨q, hq, hqe⟩ := List.mem_iff_getElem.1 hx
      have hql : q < k := by simp at hq; omega
      rw [List.getElem_take] at hqe
      exact absurd (nodup_ix ho.nd (by omega) (by omega) hqe) (by omega)
    · cases ea : atT t l[k] x
      · rfl
      · exfalso
        obtain ⟨q, hq, hqe⟩ := List.mem_iff_getElem.1 hx
        have hql : q < k := by simp at hq; omega
        rw [List.getElem_take] at hqe
        obtain ⟨p, hp1, hp2⟩ := ho.top q x l[k] (by rw [List.getElem?_eq_getElem (by omega), hqe]) (hin _ hm) ea
        rw [List.getElem?_eq_getElem (by omega)] at hp2
        exact absurd (nodup_ix ho.nd (by omega) (by omega) (Option.some.inj hp2)) (by omega)
theorem levO_ok {n : Nat} {t : List (List Bool)} (hs : Sq n t) (hp : IsPo n t) : IsLev n t (levO n t) := by
  obtain ⟨ho, hl⟩ := ordO_ok hs (hp.acyc hs) n [] (OrdI.nil n t) (by simp)
  have h := LevI.all hs hp ho n (by omega)
  rw [List.take_of_length_le (by omega)] at h
  refine ⟨h.len, h.pos, fun i j hi hj ha => ?_, fun j hj => ?_⟩
  · refine h.up i j ?_ hj ha
    apply Classical.byContradiction
    intro hn
    have := nodup_nat n (i :: ordO n t n []) (List.nodup_cons.2 ⟨hn, ho.nd⟩) (fun x hx => by rcases List.mem_cons.1 hx with rfl | hx; exact hi; exact ho.rng x hx)
    simp at this; omega
  · rcases h.att j hj with h0 | ⟨i, hi, ha, he⟩
    · exact .inl h0
    · exact .inr ⟨i, ho.rng i hi, ha, he⟩
/-! ### The reference: rounds. -/
def relJ (t : List (List Bool)) (i j : Nat) (o : List Int) : List Int := if atT t i j = true ∧ o.getD j 0 ≤ o.getD i 0 then o.set j (o.getD i 0 + 1) else o
structure RndI (n : Nat) (t : List (List Bool)) (L : List Int) (r : Nat) (vis : Nat → Nat → Prop) (c : Bool) (o : List Int) : Prop where
  len : o.length = n
  pos : ∀ j, j < n → 0 ≤ o.getD j 0
  le : ∀ j, j < n → o.getD j 0 ≤ L.getD j 0
  low : ∀ j, j < n → min (L.getD j 0) r ≤ o.getD j 0
  nxt : ∀ i j, i < n → j < n → vis i j → atT t i j = true → min (L.getD i 0) r + 1 ≤ o.getD j 0
  same : c = false → ∀ i j, i < n → j < n → vis i j → atT t i j = true → o.getD i 0 < o.getD j 0
theorem RndI.start {n : Nat} {t : List (List Bool)} {L : List Int} (hL : IsLev n t L) : RndI n t L 0 (fun _ _ => False) false (List.replicate n 0) := by
  have e : ∀ j, (List.replicate n (0 : Int)).getD j 0 = 0 := fun j => by rw [List.getD_eq_getElem?_getD, List.getElem?_replicate]; split <;> rfl
  refine ⟨by simp, fun j _ => by rw [e]; exact Int.le_refl _, fun j hj => by rw [e]; exact hL.pos j hj, fun j hj => ?_, fun _ _ _ _ h => h.elim, fun _ _ _ _ _ h => h.elim⟩
  rw [e]; have := hL.pos j hj; omega
theorem RndI.step {n : Nat} {t : List (List Bool)} {L : List Int} (hL : IsLev n t L) (hp : IsPo n t) {r : Nat} {vis vis' : Nat → Nat → Prop} {c : Bool} {o : List Int} (h : RndI n t L r vis c o) {i j : Nat} (hi : i < n) (hj : j < n)
    (hv : ∀ a b, vis' a b → vis a b ∨ (a = i ∧ b = j)) :
    RndI n t L r vis' (c || (atT t i j && decide (o.getD j 0 ≤ o.getD i 0))) (relJ t i j o) := by
  unfold relJ
  by_cases hc : atT t i j = true ∧ o.getD j 0 ≤ o.getD i 0
  · have hne : i ≠ j := fun e => by subst e; have := hp.irr _ hi; rw [this] at hc; exact absurd hc.1 (by simp)
    rw [if_pos hc]
    have hg : ∀ k, (o.set j (o.getD i 0 + 1)).getD k 0 = if k = j then o.getD i 0 + 1 else o.getD k 0 := fun k => by
      by_cases e : k = j
      · subst e; rw [if_pos rfl]; exact Go.AM.getD_set_eq (by rw [h.len]; exact hj) _ _
      · rw [if_neg e]; exact Go.AM.getD_set_ne (fun q => e q.symm) ..
    have hge : ∀ k, k < n → o.getD k 0 ≤ (o.set j (o.getD i 0 + 1)).getD k 0 := fun k _ => by rw [hg]; split; (rename_i e; subst e; omega); exact Int.le_refl _
    refine ⟨by simp [h.len], fun k hk => Int.le_trans (h.pos k hk) (hge k hk), fun k hk => ?_, fun k hk => Int.le_trans (h.low k hk) (hge k hk), fun a b ha hb hab hat => ?_, fun hf => ?_⟩
    · rw [hg]
      split
      · rename_i e; subst e
        have := h.le i hi
        have := hL.up i _ hi hj hc.1
        omega
      · exact h.le k hk
    · rcases hv a b hab with h1 | ⟨rfl, rfl⟩
      · exact Int.le_trans (h.nxt a b ha hb h1 hat) (hge b hb)
      · rw [hg, if_pos rfl]
        have := h.low a ha
        omega
    · exfalso; rw [hc.1, decide_eq_true hc.2] at hf; simp at hf
  · rw [if_neg hc]
    refine ⟨h.len, h.pos, h.le, h.low, fun a b ha hb hab hat => ?_, fun hf a b ha hb hab hat => ?_⟩
    · rcases hv a b hab with h1 | ⟨rfl, rfl⟩
      · exact h.nxt a b ha hb h1 hat
      · have := h.low a ha
        have : ¬ o.getD b 0 ≤ o.getD a 0 := fun q => hc ⟨hat, q⟩
        omega
    · rcases hv a b hab with h1 | ⟨rfl, rfl⟩
      · exact h.same (by rw [Bool.or_eq_false_iff] at hf; exact hf.1) a b ha hb h1 hat
      · have : ¬ o.getD b 0 ≤ o.getD a 0 := fun q => hc ⟨hat, q⟩
        omega
theorem RndI.next {n : Nat} {t : List (List Bool)} {L : List Int} (hL : IsLev n t L) {r : Nat} {vis vis' : Nat → Nat → Prop} {c : Bool} {o : List Int} (h : RndI n t L r vis c o) (hv : ∀ i j, i < n → j < n → vis i j) (hv' : ∀ i j, ¬ vis' i j) : RndI n t L (r + 1) vis' false o := by
  refine ⟨h.len, h.pos, h.le, fun j hj => ?_, fun i j _ _ hh => (hv' i j hh).elim, fun _ i j _ _ hh => (hv' i j hh).elim⟩
  rcases hL.att j hj with h0 | ⟨i, hi, ha, he⟩
  · have := h.pos j hj; omega
  · have := h.nxt i j hi hj (hv i j hi hj) ha; omega
theorem RndI.stop {n : Nat} {t : List (List Bool)} {L : List Int} (hL : IsLev n t L) {r : Nat} {vis : Nat → Nat → Prop} {o : List Int} (h : RndI n t L r vis false o) (hv : ∀ i j, i < n → j < n → vis i j) : o = L := by
  refine getD_ext (by rw [h.len, hL.len]) fun k hk => ?_
  rw [h.len] at hk
  have h1 := lev_le hL h.pos (fun i j hi hj ha => by have := h.same rfl i j hi hj (hv i j hi hj) ha; omega) (L.getD k 0).toNat k hk (by have := hL.pos k hk; omega)
  have h2 := h.le k hk
  omega
/-! ### Tables filled pair by pair. -/
def tabF (n : Nat) (f : Nat → Nat → Bool) : List (List Bool) := (List.range n).map fun i => setR n (f i)
theorem tabF_sq (n : Nat) (f : Nat → Nat → Bool) : Sq n (tabF n f) := ⟨by simp [tabF], fun b hb => by obtain ⟨i, _, rfl⟩ := List.mem_map.1 hb; exact setR_len _ _⟩
theorem rowT_tabF {n : Nat} {f : Nat → Nat → Bool} {i : Nat} (hi : i < n) : rowT (tabF n f) i = setR n (f i) := rowT_of (by simp [tabF, hi])
theorem atT_tabF {n : Nat} {f : Nat → Nat → Bool} {i j : Nat} (hi : i < n) (hj : j < n) : atT (tabF n f) i j = f i j := by unfold atT; rw [rowT_tabF hi, setR_get hj]
theorem tabF_ext {n : Nat} {f g : Nat → Nat → Bool} (h : ∀ i j, i < n → j < n → f i j = g i j) : tabF n f = tabF n g := List.map_congr_left fun i hi => setR_ext fun j hj => h i j (List.mem_range.1 hi) hj
/-- Filled up to the pair (i, j). -/
def partF (f : Nat → Nat → Bool) (i j a b : Nat) : Bool := (decide (a < i) || (decide (a = i) && decide (b < j))) && f a b
theorem atT_zero (n i j : Nat) : atT (zeroT n) i j = false := atT_rep n i j
theorem part_zero (n : Nat) (f : Nat → Nat → Bool) : tabF n (partF f 0 0) = zeroT n :=
  tab_ext (tabF_sq n _) (Sq.rep n) fun i j hi hj => by rw [atT_tabF hi hj, atT_zero]; simp [partF]
theorem part_row (n : Nat) (f : Nat → Nat → Bool) (i : Nat) : tabF n (partF f i n) = tabF n (partF f (i + 1) 0) := tabF_ext fun a b ha hb => by
  unfold partF
  congr 1
  by_cases h1 : a < i
  · rw [decide_eq_true h1, decide_eq_true (by omega : a < i + 1)]; rfl
  · by_cases h2 : a = i
    · subst h2; simp [hb]
    · rw [decide_eq_false h1, decide_eq_false h2, decide_eq_false (by omega : ¬ a < i + 1)]; simp
theorem part_all (n : Nat) (f : Nat → Nat → Bool) : tabF n (partF f n 0) = tabF n f := tabF_ext fun a b ha hb => by simp [partF, ha]
theorem part_skip {n : Nat} {f : Nat → Nat → Bool} {i j : Nat} (hf : f i j = false) : tabF n (partF f i (j + 1)) = tabF n (partF f i j) := tabF_ext fun a b ha hb => by
  unfold partF
  by_cases h : a = i ∧ b = j
  · obtain ⟨rfl, rfl⟩ := h; rw [hf]; simp
  · congr 2
    by_cases h1 : a = i
    · have : b ≠ j := fun e => h ⟨h1, e⟩
      simp only [h1, decide_true, Bool.true_and]
      exact decide_eq_decide.2 (by omega)
    · simp [h1]
theorem part_put {n : Nat} {f : Nat → Nat → Bool} {i j : Nat} (hi : i < n) (hj : j < n) (hf : f i j = true) : putT (tabF n (partF f i j)) i j = tabF n (partF f i (j + 1)) :=
  tab_ext ((tabF_sq n _).putT hi j) (tabF_sq n _) fun a b ha hb => by
    rw [atT_putT (tabF_sq n _) hi hj, atT_tabF ha hb, atT_tabF ha hb]
    unfold partF
    by_cases h : i = a ∧ j = b
    · obtain ⟨rfl, rfl⟩ := h; simp [hf]
    · rw [decide_eq_false h, Bool.false_or]
      congr 2
      by_cases h1 : a = i
      · have : b ≠ j := fun e => h ⟨h1.symm, e.symm⟩
        simp only [h1, decide_true, Bool.true_and]
        exact decide_eq_decide.2 (by omega)
      · simp [h1]
end Go.AM

namespace Go.Proofs.P
open Go.AM Go
set_option maxRecDepth 100000
set_option maxHeartbeats 2000000
def pvJ (t : List (List Bool)) (i j : Nat) : Bool := !decide (j = i) && subB (rowT t j) (rowT t i)
theorem pvalid_g (n : Nat) (t : List (List Bool)) (hs : Sq n t) (hn : n ≤ 512) : Reads Tryd.prog 28 false [relB t] (.bool (poB n t)) := by
  have h := valid_g n t hs hn
  have hlt : (tabR t).length = n := by rw [tabR_len, hs.len]
  have hgr := fun i hi => tabR_get (t := t) (i := i) hi
  have hmb := fun b hb => members_b b hb
  have hsb := fun a b ha hl => subset_r a b ha hl
  have hpo : poB n t = (List.range n).all fun i => (memB (rowT t i)).all (pvJ t i) := rfl
  have hlen := hs.len
  unfold relB rowB at *
  refine Reads.body (rs := [.tmp 2]) Tryd.func28 rfl Tryd.ntmps28 rfl (by simp) ?_
  generalize hQr : retQ _ _ _ = Qr
  refine AW.seq fun K1 hK1 => ?_
  -- region 0
  refine AW.regionK 0 (fun _ => none) [1] [1] ?_
  simp only [go_sem, reduceIte, reduceCtorEq, Nat.reduceAdd, Nat.reduceMul, Nat.reduceEqDiff, Nat.reduceLT, Nat.reduceLeDiff, Nat.reduceSub, Nat.reducePow, Nat.reduceBEq, Int.reduceToNat, List.reduceReplicate, hlt]
  repeat with_reducible refine cj ?_ ?_
  all_goals try first | omega
  refine hK1 _ _ _ ?_; clear hK1
  refine AW.seq fun K2 hK2 => ?_
  refine AW.seq fun K3 hK3 => ?_
  -- region 1
  refine AW.regionK 0 (fun ii => if ii = 1 then some (.reads false (.bool true)) else none) [1, 11] [1] ?_
  simp only [go_sem, reduceIte, reduceCtorEq, Nat.reduceAdd, Nat.reduceMul, Nat.reduceEqDiff, Nat.reduceLT, Nat.reduceLeDiff, Nat.reduceSub, Nat.reducePow, Nat.reduceBEq, Int.reduceToNat, List.reduceReplicate, hlt]
  repeat with_reducible refine cj ?_ ?_
  all_goals try first | (exact h) | omega | exact ent (by kernel_rfl)
  refine hK3 _ _ _ ?_; clear hK3
  -- cond 1
  refine AW.cond rfl (by simp only [go_sem, reduceIte, reduceCtorEq, Nat.reduceAdd, Nat.reduceMul, Nat.reduceEqDiff, Nat.reduceLT, Nat.reduceLeDiff, Nat.reduceSub, Nat.reducePow, Nat.reduceBEq, Int.reduceToNat, List.reduceReplicate]) ?_ ?_
  · intro hb
    try simp only [hB, decide_eq_true_eq, decide_eq_false_iff_not] at hb
    simp at hb
  · intro hb
    try simp only [hB, decide_eq_true_eq, decide_eq_false_iff_not] at hb
    refine AW.skip ?_
    refine hK2 _ _ _ ?_; clear hK2
    refine AW.seq fun K4 hK4 => ?_
    refine AW.seq fun K5 hK5 => ?_
    -- region 3
    refine AW.regionK 0 (fun _ => none) [1, 13, 14, 15] [1] ?_
    simp only [go_sem, reduceIte, reduceCtorEq, Nat.reduceAdd, Nat.reduceMul, Nat.reduceEqDiff, Nat.reduceLT, Nat.reduceLeDiff, Nat.reduceSub, Nat.reducePow, Nat.reduceBEq, Int.reduceToNat, List.reduceReplicate, hlt]
    repeat with_reducible refine cj ?_ ?_
    all_goals try first | omega
    refine hK5 _ _ _ ?_; clear hK5
    refine AW.block ?_
    -- loop 1
    refine AW.loopE (fun mm ee ss kk => ∃ (i g1 v1 : Nat), n - i = mm ∧ ee = [(1, .ptr ⟨1, g1, none⟩ 0 0), (13, .rsl 2 (tabR t)), (14, .int .i64 n), (15, .int .i64 (i : Nat))] ∧ ss = [(1, some ⟨g1, v1, 1, [[.rsl 2 (tabR t)]]⟩)] ∧ (i ≤ n ∧ ((List.range i).all fun i => (memB (rowT t i)).all (pvJ t i)) = true)) ?_ ?_
    · refine ⟨_, 0, ?_, ?_, rfl, ?henv, ?hstore, ?hst⟩
      case henv =>
        repeat' (first | rfl | refine env_cons ?_ ?_ | refine st_cons ?_ ?_ ?_ ?_ | refine int_eq ?_ | refine bool_eq ?_ | refine rsl_eq ?_ | refine osl_eq ?_ | refine sl_eq ?_ ?_ ?_ | refine ptr_eq ?_ ?_ ?_ | refine agg_eq ?_ | refine es_cons ?_ ?_ | refine row_cons ?_ ?_)
        all_goals (first | (simp; done) | omega | (simp; omega))
      case hstore =>
        repeat' (first | rfl | refine env_cons ?_ ?_ | refine st_cons ?_ ?_ ?_ ?_ | refine int_eq ?_ | refine bool_eq ?_ | refine rsl_eq ?_ | refine osl_eq ?_ | refine sl_eq ?_ ?_ ?_ | refine ptr_eq ?_ ?_ ?_ | refine agg_eq ?_ | refine es_cons ?_ ?_ | refine row_cons ?_ ?_)
        all_goals (first | (simp; done) | omega | (simp; omega))
      case hst =>
        exact ⟨Nat.zero_le _, rfl⟩
    rintro mm ee ss kk ⟨i, g1, v1, rfl, rfl, rfl, hI⟩
    generalize hQl1 : thenQ _ _ = Ql1
    obtain ⟨hi, hall⟩ := hI
    refine AW.seq fun K6 hK6 => ?_
    -- region 4
    refine AW.regionK 0 (fun _ => none) [1, 13, 14, 15, 16] [1] ?_
    simp only [go_sem, reduceIte, reduceCtorEq, Nat.reduceAdd, Nat.reduceMul, Nat.reduceEqDiff, Nat.reduceLT, Nat.reduceLeDiff, Nat.reduceSub, Nat.reducePow, Nat.reduceBEq, Int.reduceToNat, List.reduceReplicate, hlt]
    repeat with_reducible refine cj ?_ ?_
    all_goals try first | omega
    refine hK6 _ _ _ ?_; clear hK6
    refine AW.seq fun K7 hK7 => ?_
    -- cond 2
    refine AW.cond rfl (by simp only [go_sem, reduceIte, reduceCtorEq, Nat.reduceAdd, Nat.reduceMul, Nat.reduceEqDiff, Nat.reduceLT, Nat.reduceLeDiff, Nat.reduceSub, Nat.reducePow, Nat.reduceBEq, Int.reduceToNat, List.reduceReplicate]) ?_ ?_
    · intro hb
      try simp only [hB, decide_eq_true_eq, decide_eq_false_iff_not] at hb
      have hgi := hgr i (by omega)
      have hri := hs.rowLen (i := i) (by omega)
      have hmi := hmb (rowT t i) (by omega)
      have hsi := fun j (hj : j < n) => hsb (rowT t j) (rowT t i) (by rw [hs.rowLen hj]; exact hn) (by rw [hs.rowLen hj, hri])
      have hmm : ∀ j, j ∈ memB (rowT t i) → j < n := fun j hj => by have := (memB_mem.1 hj).1; omega
      have hml := memB_le (rowT t i)
      have hrs := range_all_succ (p := fun i => (memB (rowT t i)).all (pvJ t i)) i
      rw [hall, Bool.true_and] at hrs
      have hrf := range_all_false (p := fun i => (memB (rowT t i)).all (pvJ t i)) (j := i) (m := n) (by omega)
      generalize hM : memB (rowT t i) = M at *
      refine AW.skip ?_
      refine hK7 _ _ _ ?_; clear hK7
      refine AW.seq fun K8 hK8 => ?_
      refine AW.block ?_
      refine AW.seq fun K9 hK9 => ?_
      -- region 5
      refine AW.regionK 0 (fun _ => none) [1, 3, 4, 13, 14, 15] [1, 4] ?_
      simp only [go_sem, reduceIte, reduceCtorEq, Nat.reduceAdd, Nat.reduceMul, Nat.reduceEqDiff, Nat.reduceLT, Nat.reduceLeDiff, Nat.reduceSub, Nat.reducePow, Nat.reduceBEq, Int.reduceToNat, List.reduceReplicate, hlt, hgi]
      repeat with_reducible refine cj ?_ ?_
      all_goals try first | omega
      refine hK9 _ _ _ ?_; clear hK9
      refine AW.seq fun K10 hK10 => ?_
      -- region 6
      refine AW.regionK 0 (fun ii => if ii = 1 then some (.reads false (.tup [.rsl 1 (ints (nats M)), .int .i64 ((0 : Nat) : Int)])) else none) [1, 3, 4, 5, 13, 14, 15] [1, 4] ?_
      simp only [go_sem, reduceIte, reduceCtorEq, Nat.reduceAdd, Nat.reduceMul, Nat.reduceEqDiff, Nat.reduceLT, Nat.reduceLeDiff, Nat.reduceSub, Nat.reducePow, Nat.reduceBEq, Int.reduceToNat, List.reduceReplicate, hlt]
      repeat with_reducible refine cj ?_ ?_
      all_goals try first | (exact hmi) | omega | exact ent (by kernel_rfl)
      refine hK10 _ _ _ ?_; clear hK10
      refine AW.seq fun K11 hK11 => ?_
      -- region 7
      refine AW.regionK 0 (fun _ => none) [1, 3, 4, 13, 14, 15, 25, 26, 27] [1, 4] ?_
      simp only [go_sem, reduceIte, reduceCtorEq, Nat.reduceAdd, Nat.reduceMul, Nat.reduceEqDiff, Nat.reduceLT, Nat.reduceLeDiff, Nat.reduceSub, Nat.reducePow, Nat.reduceBEq, Int.reduceToNat, List.reduceReplicate, hlt, ints_len, nats_len]
      repeat with_reducible refine cj ?_ ?_
      all_goals try first | omega
      refine hK11 _ _ _ ?_; clear hK11
      refine AW.block ?_
      -- loop 2
      refine AW.loopE (fun mm ee ss kk => ∃ (j g1 v1 g4 v4 : Nat), M.length - j = mm ∧ ee = [(1, .ptr ⟨1, g1, none⟩ 0 0), (3, .int .i64 (i : Nat)), (4, .ptr ⟨4, g4, none⟩ 0 0), (13, .rsl 2 (tabR t)), (14, .int .i64 n), (15, .int .i64 (i : Nat)), (25, .rsl 1 (ints (nats M))), (26, .int .i64 M.length), (27, .int .i64 (j : Nat))] ∧ ss = [(1, some ⟨g1, v1, 1, [[.rsl 2 (tabR t)]]⟩), (4, some ⟨g4, v4, 2, [[.int .i64 (rowT t i).length, .rsl 1 (words (setW (rowT t i) (rowT t i).length))]]⟩)] ∧ (j ≤ M.length ∧ (M.take j).all (pvJ t i) = true)) ?_ ?_
      · refine ⟨_, 0, ?_, ?_, ?_, ?_, rfl, ?henv, ?hstore, ?hst⟩
        case henv =>
          repeat' (first | rfl | refine env_cons ?_ ?_ | refine st_cons ?_ ?_ ?_ ?_ | refine int_eq ?_ | refine bool_eq ?_ | refine rsl_eq ?_ | refine osl_eq ?_ | refine sl_eq ?_ ?_ ?_ | refine ptr_eq ?_ ?_ ?_ | refine agg_eq ?_ | refine es_cons ?_ ?_ | refine row_cons ?_ ?_)
          all_goals (first | (simp; done) | omega | (simp; omega))
        case hstore =>
          repeat' (first | rfl | refine env_cons ?_ ?_ | refine st_cons ?_ ?_ ?_ ?_ | refine int_eq ?_ | refine bool_eq ?_ | refine rsl_eq ?_ | refine osl_eq ?_ | refine sl_eq ?_ ?_ ?_ | refine ptr_eq ?_ ?_ ?_ | refine agg_eq ?_ | refine es_cons ?_ ?_ | refine row_cons ?_ ?_)
          all_goals (first | (simp; done) | omega | (simp; omega))
        case hst =>
          exact ⟨Nat.zero_le _, rfl⟩
      rintro mm ee ss kk ⟨j, g1, v1, g4, v4, rfl, rfl, rfl, hI⟩
      generalize hQl2 : thenQ _ _ = Ql2
      obtain ⟨hj, hallj⟩ := hI
      refine AW.seq fun K12 hK12 => ?_
      -- region 8
      refine AW.regionK 0 (fun _ => none) [1, 3, 4, 13, 14, 15, 25, 26, 27, 28] [1, 4] ?_
      simp only [go_sem, reduceIte, reduceCtorEq, Nat.reduceAdd, Nat.reduceMul, Nat.reduceEqDiff, Nat.reduceLT, Nat.reduceLeDiff, Nat.reduceSub, Nat.reducePow, Nat.reduceBEq, Int.reduceToNat, List.reduceReplicate, hlt]
      repeat with_reducible refine cj ?_ ?_
      all_goals try first | omega
      refine hK12 _ _ _ ?_; clear hK12
      refine AW.seq fun K13 hK13 => ?_
      -- cond 3
      refine AW.cond rfl (by simp only [go_sem, reduceIte, reduceCtorEq, Nat.reduceAdd, Nat.reduceMul, Nat.reduceEqDiff, Nat.reduceLT, Nat.reduceLeDiff, Nat.reduceSub, Nat.reducePow, Nat.reduceBEq, Int.reduceToNat, List.reduceReplicate]) ?_ ?_
      · intro hb
        try simp only [hB, decide_eq_true_eq, decide_eq_false_iff_not] at hb
        obtain ⟨q, hq⟩ := getI (l := M) (j := j) (by omega)
        have hgq : (ints (nats M)).getD j [] = [.int .i64 (q : Nat)] := ints_get (by simp [nats, hq])
        have hqn := hmm q (List.mem_of_getElem? hq)
        have hgt := hgr q (by omega)
        have hsq := hsi q hqn
        have hats := all_take_succ (p := pvJ t i) hq
        have haf := all_false_of (p := pvJ t i) hq
        have hqi : decide ((q : Int) = (i : Int)) = decide (q = i) := decide_eq_decide.2 (by omega)
        have hpv : pvJ t i q = (!decide (q = i) && subB (rowT t q) (rowT t i)) := rfl
        refine AW.skip ?_
        refine hK13 _ _ _ ?_; clear hK13
        refine AW.seq fun K14 hK14 => ?_
        refine AW.block ?_
        refine AW.seq fun K15 hK15 => ?_
        -- region 9
        refine AW.regionK 0 (fun _ => none) [1, 3, 4, 8, 13, 14, 15, 25, 26, 27] [1, 4] ?_
        simp only [go_sem, reduceIte, reduceCtorEq, Nat.reduceAdd, Nat.reduceMul, Nat.reduceEqDiff, Nat.reduceLT, Nat.reduceLeDiff, Nat.reduceSub, Nat.reducePow, Nat.reduceBEq, Int.reduceToNat, List.reduceReplicate, hlt, hgq, ints_len, nats_len]
        repeat with_reducible refine cj ?_ ?_
        all_goals try first | omega
        refine hK15 _ _ _ ?_; clear hK15
        refine AW.seq fun K16 hK16 => ?_
        -- region 10
        refine AW.regionD mixed 0 (fun ii => if ii = 10 then some (.reads false (.bool (subB (rowT t q) (rowT t i)))) else none) [1, 3, 4, 13, 14, 15, 25, 26, 27, 43] [1, 4] ?_
        simp only [go_sem, reduceIte, reduceCtorEq, Nat.reduceAdd, Nat.reduceMul, Nat.reduceEqDiff, Nat.reduceLT, Nat.reduceLeDiff, Nat.reduceSub, Nat.reducePow, Nat.reduceBEq, Int.reduceToNat, List.reduceReplicate, hlt, hgt, hqi]
        repeat with_reducible refine cj ?_ ?_
        all_goals try first | (first | exact hsq | (intro hh; exact hsq)) | (intros; (repeat' apply And.intro) <;> first | assumption | (first | exact hsq | (intro hh; exact hsq))) | omega | exact chk (by kernel_rfl) | exact ent (by kernel_rfl) | (intro hgd; exact absurd hgd (by decide)) | rfl | (simp only [go_sem, reduceIte, reduceCtorEq, Nat.reduceAdd, Nat.reduceMul, Nat.reduceEqDiff, Nat.reduceLT, Nat.reduceLeDiff, Nat.reduceSub, Nat.reducePow, Nat.reduceBEq, Int.reduceToNat, List.reduceReplicate, hlt, hgt, hqi]; done) | (intro _hgd; simp_all [go_sem]; done)
        refine hK16 _ _ _ ?_; clear hK16
        -- cond 4
        refine AW.cond rfl (by simp only [go_sem, reduceIte, reduceCtorEq, Nat.reduceAdd, Nat.reduceMul, Nat.reduceEqDiff, Nat.reduceLT, Nat.reduceLeDiff, Nat.reduceSub, Nat.reducePow, Nat.reduceBEq, Int.reduceToNat, List.reduceReplicate]) ?_ ?_
        · intro hb
          try simp only [hB, decide_eq_true_eq, decide_eq_false_iff_not] at hb
          refine AW.seq fun K17 hK17 => ?_
          -- region 11
          refine AW.regionK 0 (fun _ => none) [2] [] ?_
          simp only [go_sem, reduceIte, reduceCtorEq, Nat.reduceAdd, Nat.reduceMul, Nat.reduceEqDiff, Nat.reduceLT, Nat.reduceLeDiff, Nat.reduceSub, Nat.reducePow, Nat.reduceBEq, Int.reduceToNat, List.reduceReplicate, hlt]
          repeat with_reducible refine cj ?_ ?_
          all_goals try first | omega
          refine hK17 _ _ _ ?_; clear hK17
          refine AW.ret ?_
          rw [← hQl2]
          rw [← hQl1]
          rw [← hQr]
          simp only [go_sem, reduceIte, reduceCtorEq, Nat.reduceAdd, Nat.reduceMul, Nat.reduceEqDiff, Nat.reduceLT, Nat.reduceLeDiff, Nat.reduceSub, Nat.reducePow, Nat.reduceBEq, Int.reduceToNat, List.reduceReplicate, hlt]
          refine Wk.of_eq ?_
          rw [hpo, hrf (haf (by rw [hpv]; revert hb; by_cases e : q = i <;> cases subB (rowT t q) (rowT t i) <;> simp [e]))]
        · intro hb
          try simp only [hB, decide_eq_true_eq, decide_eq_false_iff_not] at hb
          refine AW.skip ?_
          refine hK14 _ _ _ ?_; clear hK14
          -- region 12
          refine AW.regionK 0 (fun _ => none) [1, 3, 4, 13, 14, 15, 25, 26, 27] [1, 4] ?_
          simp only [go_sem, reduceIte, reduceCtorEq, Nat.reduceAdd, Nat.reduceMul, Nat.reduceEqDiff, Nat.reduceLT, Nat.reduceLeDiff, Nat.reduceSub, Nat.reducePow, Nat.reduceBEq, Int.reduceToNat, List.reduceReplicate, hlt]
          repeat with_reducible refine cj ?_ ?_
          all_goals try first | omega
          rw [← hQl2]
          change Exists _
          refine ⟨_, ?hm, j + 1, ?_, ?_, ?_, ?_, rfl, ?henv, ?hstore, ?hst⟩
          case henv =>
            repeat' (first | rfl | refine env_cons ?_ ?_ | refine st_cons ?_ ?_ ?_ ?_ | refine int_eq ?_ | refine bool_eq ?_ | refine rsl_eq ?_ | refine osl_eq ?_ | refine sl_eq ?_ ?_ ?_ | refine ptr_eq ?_ ?_ ?_ | refine agg_eq ?_ | refine es_cons ?_ ?_ | refine row_cons ?_ ?_)
            all_goals (first | (simp; done) | omega | (simp; omega))
          case hstore =>
            repeat' (first | rfl | refine env_cons ?_ ?_ | refine st_cons ?_ ?_ ?_ ?_ | refine int_eq ?_ | refine bool_eq ?_ | refine rsl_eq ?_ | refine osl_eq ?_ | refine sl_eq ?_ ?_ ?_ | refine ptr_eq ?_ ?_ ?_ | refine agg_eq ?_ | refine es_cons ?_ ?_ | refine row_cons ?_ ?_)
            all_goals (first | (simp; done) | omega | (simp; omega))
          case hst =>
            refine ⟨by omega, ?_⟩
            rw [hats, hallj, hpv]; revert hb; by_cases e : q = i <;> cases subB (rowT t q) (rowT t i) <;> simp [e]
          case hm => omega
      · intro hb
        try simp only [hB, decide_eq_true_eq, decide_eq_false_iff_not] at hb
        have hj2 : j = M.length := by omega
        subst hj2
        rw [List.take_of_length_le (Nat.le_refl _)] at hallj
        refine AW.keep [1, 13, 14, 15] [1] ?_
        try simp only [go_sem, reduceIte, reduceCtorEq, Nat.reduceAdd, Nat.reduceMul, Nat.reduceEqDiff, Nat.reduceLT, Nat.reduceLeDiff, Nat.reduceSub, Nat.reducePow, Nat.reduceBEq, Int.reduceToNat, List.reduceReplicate]
        refine AW.exit ?_
        rw [← hQl2]
        refine hK8 _ _ _ ?_; clear hK8
        -- region 13
        refine AW.regionK 0 (fun _ => none) [1, 13, 14, 15] [1] ?_
        simp only [go_sem, reduceIte, reduceCtorEq, Nat.reduceAdd, Nat.reduceMul, Nat.reduceEqDiff, Nat.reduceLT, Nat.reduceLeDiff, Nat.reduceSub, Nat.reducePow, Nat.reduceBEq, Int.reduceToNat, List.reduceReplicate, hlt]
        repeat with_reducible refine cj ?_ ?_
        all_goals try first | omega
        rw [← hQl1]
        change Exists _
        refine ⟨_, ?hm, i + 1, ?_, ?_, rfl, ?henv, ?hstore, ?hst⟩
        case henv =>
          repeat' (first | rfl | refine env_cons ?_ ?_ | refine st_cons ?_ ?_ ?_ ?_ | refine int_eq ?_ | refine bool_eq ?_ | refine rsl_eq ?_ | refine osl_eq ?_ | refine sl_eq ?_ ?_ ?_ | refine ptr_eq ?_ ?_ ?_ | refine agg_eq ?_ | refine es_cons ?_ ?_ | refine row_cons ?_ ?_)
          all_goals (first | (simp; done) | omega | (simp; omega))
        case hstore =>
          repeat' (first | rfl | refine env_cons ?_ ?_ | refine st_cons ?_ ?_ ?_ ?_ | refine int_eq ?_ | refine bool_eq ?_ | refine rsl_eq ?_ | refine osl_eq ?_ | refine sl_eq ?_ ?_ ?_ | refine ptr_eq ?_ ?_ ?_ | refine agg_eq ?_ | refine es_cons ?_ ?_ | refine row_cons ?_ ?_)
          all_goals (first | (simp; done) | omega | (simp; omega))
        case hst =>
          refine ⟨by omega, ?_⟩
          rw [hrs, hallj]
        case hm => omega
    · intro hb
      try simp only [hB, decide_eq_true_eq, decide_eq_false_iff_not] at hb
      refine AW.keep [] [] ?_
      try simp only [go_sem, reduceIte, reduceCtorEq, Nat.reduceAdd, Nat.reduceMul, Nat.reduceEqDiff, Nat.reduceLT, Nat.reduceLeDiff, Nat.reduceSub, Nat.reducePow, Nat.reduceBEq, Int.reduceToNat, List.reduceReplicate]
      refine AW.exit ?_
      rw [← hQl1]
      refine hK4 _ _ _ ?_; clear hK4
      refine AW.seq fun K18 hK18 => ?_
      -- region 14
      refine AW.regionK 0 (fun _ => none) [2] [] ?_
      simp only [go_sem, reduceIte, reduceCtorEq, Nat.reduceAdd, Nat.reduceMul, Nat.reduceEqDiff, Nat.reduceLT, Nat.reduceLeDiff, Nat.reduceSub, Nat.reducePow, Nat.reduceBEq, Int.reduceToNat, List.reduceReplicate, hlt]
      repeat with_reducible refine cj ?_ ?_
      all_goals try first | omega
      refine hK18 _ _ _ ?_; clear hK18
      refine AW.ret ?_
      rw [← hQr]
      simp only [go_sem, reduceIte, reduceCtorEq, Nat.reduceAdd, Nat.reduceMul, Nat.reduceEqDiff, Nat.reduceLT, Nat.reduceLeDiff, Nat.reduceSub, Nat.reducePow, Nat.reduceBEq, Int.reduceToNat, List.reduceReplicate, hlt]
      have hi2 : i = n := by omega
      subst hi2
      exact Wk.of_eq (by rw [hpo, hall])
end Go.Proofs.P

namespace Go.Proofs.P
open Go.AM Go
set_option maxRecDepth 100000
set_option maxHeartbeats 2000000
theorem pvalid_e (rs : List USet) (hl : longR rs) (hv : validR rs = false) : Reads Tryd.prog 28 false [relV rs] (.bool false) := by
  have h := rvalid_r rs hl.1 hl.2
  rw [hv] at h
  unfold relV at *
  refine Reads.body (rs := [.tmp 2]) Tryd.func28 rfl Tryd.ntmps28 rfl (by simp) ?_
  generalize hQr : retQ _ _ _ = Qr
  refine AW.seq fun K1 hK1 => ?_
  -- region 0
  refine AW.regionK 0 (fun _ => none) [1] [1] ?_
  simp only [go_sem, reduceIte, reduceCtorEq, Nat.reduceAdd, Nat.reduceMul, Nat.reduceEqDiff, Nat.reduceLT, Nat.reduceLeDiff, Nat.reduceSub, Nat.reducePow, Nat.reduceBEq, Int.reduceToNat, List.reduceReplicate]
  repeat with_reducible refine cj ?_ ?_
  all_goals try first | omega
  refine hK1 _ _ _ ?_; clear hK1
  refine AW.seq fun K2 hK2 => ?_
  refine AW.seq fun K3 hK3 => ?_
  -- region 1
  refine AW.regionK 0 (fun ii => if ii = 1 then some (.reads false (.bool false)) else none) [1, 11] [1] ?_
  simp only [go_sem, reduceIte, reduceCtorEq, Nat.reduceAdd, Nat.reduceMul, Nat.reduceEqDiff, Nat.reduceLT, Nat.reduceLeDiff, Nat.reduceSub, Nat.reducePow, Nat.reduceBEq, Int.reduceToNat, List.reduceReplicate]
  repeat with_reducible refine cj ?_ ?_
  all_goals try first | (exact h) | omega | exact ent (by kernel_rfl)
  refine hK3 _ _ _ ?_; clear hK3
  -- cond 1
  refine AW.cond rfl (by simp only [go_sem, reduceIte, reduceCtorEq, Nat.reduceAdd, Nat.reduceMul, Nat.reduceEqDiff, Nat.reduceLT, Nat.reduceLeDiff, Nat.reduceSub, Nat.reducePow, Nat.reduceBEq, Int.reduceToNat, List.reduceReplicate]) ?_ ?_
  · intro hb
    try simp only [hB, decide_eq_true_eq, decide_eq_false_iff_not] at hb
    refine AW.seq fun K4 hK4 => ?_
    -- region 2
    refine AW.regionK 0 (fun _ => none) [2] [] ?_
    simp only [go_sem, reduceIte, reduceCtorEq, Nat.reduceAdd, Nat.reduceMul, Nat.reduceEqDiff, Nat.reduceLT, Nat.reduceLeDiff, Nat.reduceSub, Nat.reducePow, Nat.reduceBEq, Int.reduceToNat, List.reduceReplicate]
    repeat with_reducible refine cj ?_ ?_
    all_goals try first | omega
    refine hK4 _ _ _ ?_; clear hK4
    refine AW.ret ?_
    rw [← hQr]
    simp only [go_sem, reduceIte, reduceCtorEq, Nat.reduceAdd, Nat.reduceMul, Nat.reduceEqDiff, Nat.reduceLT, Nat.reduceLeDiff, Nat.reduceSub, Nat.reducePow, Nat.reduceBEq, Int.reduceToNat, List.reduceReplicate]
    exact Wk.refl _
  · intro hb
    try simp only [hB, decide_eq_true_eq, decide_eq_false_iff_not] at hb
    simp at hb
theorem memS_row {b : List Bool} (hb : b.length ≤ 512) (i : Int) : memS b.length (setW b b.length) i = (decide (0 ≤ i) && decide (i < b.length) && b.getD i.toNat false) := by
  unfold memS
  rw [validS_setW hb, Bool.true_and]
  by_cases h0 : 0 ≤ i
  · by_cases h1 : i < b.length
    · rw [decide_eq_true h0, decide_eq_true h1, Bool.true_and, Bool.true_and, Bool.true_and, setW_mem h0 h1]
    · rw [decide_eq_false h1]; simp
  · rw [decide_eq_false h0]; simp
theorem rowH_r (b : List Bool) (hb : b.length ≤ 512) (i : Int) : Reads Tryd.prog 49 false [.agg (rowB b), .int .i64 i] (.bool (decide (0 ≤ i) && decide (i < b.length) && b.getD i.toNat false)) := by
  have h := bhas_r b.length (setW b b.length) i (setW_ok b) (by have := setW_len' b; have := wordsN_rng (n := (b.length : Int)) (by omega); omega)
  rw [memS_row hb] at h
  exact h
theorem covers_g (n : Nat) (t : List (List Bool)) (hs : Sq n t) (hn : n ≤ 512) (hp : poB n t = true) : Reads Tryd.prog 13 false [relB t] (.tup [relB (covT n t), .int .i64 ((0 : Nat) : Int)]) := by
  have h := pvalid_g n t hs hn
  have h2 := reduction_g n t hs hn (((poB_iff hs).1 hp).acyc hs)
  rw [hp] at h
  rw [show redT n t (compT n t (warsh n t)) = covT n t from rfl] at h2
  unfold relB at *
  refine Reads.body (rs := [.cell 2 24, .tmp 3]) Tryd.func13 rfl Tryd.ntmps13 rfl (by simp) ?_
  generalize hQr : retQ _ _ _ = Qr
  refine AW.seq fun K1 hK1 => ?_
  -- region 0
  refine AW.regionK 0 (fun _ => none) [1, 2] [1, 2] ?_
  simp only [go_sem, reduceIte, reduceCtorEq, Nat.reduceAdd, Nat.reduceMul, Nat.reduceEqDiff, Nat.reduceLT, Nat.reduceLeDiff, Nat.reduceSub, Nat.reducePow, Nat.reduceBEq, Int.reduceToNat, List.reduceReplicate]
  repeat with_reducible refine cj ?_ ?_
  all_goals try first | omega
  refine hK1 _ _ _ ?_; clear hK1
  refine AW.seq fun K2 hK2 => ?_
  refine AW.seq fun K3 hK3 => ?_
  -- region 1
  refine AW.regionK 0 (fun ii => if ii = 1 then some (.reads false (.bool true)) else none) [1, 2, 6] [1, 2] ?_
  simp only [go_sem, reduceIte, reduceCtorEq, Nat.reduceAdd, Nat.reduceMul, Nat.reduceEqDiff, Nat.reduceLT, Nat.reduceLeDiff, Nat.reduceSub, Nat.reducePow, Nat.reduceBEq, Int.reduceToNat, List.reduceReplicate]
  repeat with_reducible refine cj ?_ ?_
  all_goals try first | (exact h) | omega | exact ent (by kernel_rfl)
  refine hK3 _ _ _ ?_; clear hK3
  -- cond 1
  refine AW.cond rfl (by simp only [go_sem, reduceIte, reduceCtorEq, Nat.reduceAdd, Nat.reduceMul, Nat.reduceEqDiff, Nat.reduceLT, Nat.reduceLeDiff, Nat.reduceSub, Nat.reducePow, Nat.reduceBEq, Int.reduceToNat, List.reduceReplicate]) ?_ ?_
  · intro hb
    try simp only [hB, decide_eq_true_eq, decide_eq_false_iff_not] at hb
    simp at hb
  · intro hb
    try simp only [hB, decide_eq_true_eq, decide_eq_false_iff_not] at hb
    refine AW.skip ?_
    refine hK2 _ _ _ ?_; clear hK2
    refine AW.seq fun K4 hK4 => ?_
    -- region 3
    refine AW.regionK 0 (fun ii => if ii = 1 then some (.reads false (.tup [.agg [.rsl 2 (tabR (covT n t))], .int .i64 ((0 : Nat) : Int)])) else none) [2, 3] [2] ?_
    simp only [go_sem, reduceIte, reduceCtorEq, Nat.reduceAdd, Nat.reduceMul, Nat.reduceEqDiff, Nat.reduceLT, Nat.reduceLeDiff, Nat.reduceSub, Nat.reducePow, Nat.reduceBEq, Int.reduceToNat, List.reduceReplicate]
    repeat with_reducible refine cj ?_ ?_
    all_goals try first | (exact h2) | omega | exact ent (by kernel_rfl)
    refine hK4 _ _ _ ?_; clear hK4
    refine AW.ret ?_
    rw [← hQr]
    simp only [go_sem, reduceIte, reduceCtorEq, Nat.reduceAdd, Nat.reduceMul, Nat.reduceEqDiff, Nat.reduceLT, Nat.reduceLeDiff, Nat.reduceSub, Nat.reducePow, Nat.reduceBEq, Int.reduceToNat, List.reduceReplicate]
    exact Wk.refl _
end Go.Proofs.P

/- Rows made of lists of members. -/
namespace Go.AM
def rowL (n : Nat) (l : List Int) : List Bool := setR n fun i => decide ((i : Int) ∈ l)
theorem rowL_len (n : Nat) (l : List Int) : (rowL n l).length = n := setR_len _ _
theorem rowL_get {n : Nat} {l : List Int} {i : Nat} (h : i < n) : (rowL n l).getD i false = decide ((i : Int) ∈ l) := setR_get h
theorem fold_setBit {n : Nat} : ∀ (l : List Int) (b : List Bool), b.length = n → (∀ x ∈ l, 0 ≤ x ∧ x < n) → l.foldl setBit (setW b n) = setW (l.foldl (fun b x => b.set x.toNat true) b) n
  | [], _, _, _ => rfl
  | x :: l, b, hb, hl => by
    have hx := hl x (List.mem_cons_self ..)
    have h1 := setBit_setW b (i := x.toNat) (by omega)
    rw [hb, Int.toNat_of_nonneg hx.1] at h1
    rw [List.foldl_cons, List.foldl_cons, h1]
    exact fold_setBit l _ (by simp [hb]) fun y hy => hl y (List.mem_cons_of_mem _ hy)
theorem fold_set_get {n : Nat} : ∀ (l : List Int) (b : List Bool), b.length = n → (∀ x ∈ l, 0 ≤ x ∧ x < n) → (l.foldl (fun b x => b.set x.toNat true) b).length = n ∧ ∀ i, i < n → (l.foldl (fun b x => b.set x.toNat true) b).getD i false = (b.getD i false || decide ((i : Int) ∈ l))
  | [], b, hb, _ => ⟨hb, fun i _ => by simp⟩
  | x :: l, b, hb, hl => by
    have hx := hl x (List.mem_cons_self ..)
    obtain ⟨h1, h2⟩ := fold_set_get l (b.set x.toNat true) (by simp [hb]) fun y hy => hl y (List.mem_cons_of_mem _ hy)
    refine ⟨h1, fun i hi => ?_⟩
    rw [List.foldl_cons, h2 i hi, getD_setB]
    by_cases e : x = (i : Int)
    · rw [if_pos ⟨by omega, by omega⟩, decide_eq_true (show (i : Int) ∈ x :: l by rw [e]; exact List.mem_cons_self ..)]; simp
    · rw [if_neg (by omega)]
      congr 1
      refine decide_eq_decide.2 ?_
      rw [List.mem_cons]
      exact ⟨.inr, fun h => h.resolve_left fun h => e h.symm⟩
theorem ofW_row {n : Nat} {l : List Int} (hl : ∀ x ∈ l, 0 ≤ x ∧ x < n) : ofW n l = setW (rowL n l) n := by
  have hz := setW_zero n
  have h1 := fold_setBit l (List.replicate n false) (by simp) hl
  rw [hz] at h1
  have h2 := fold_set_get l (List.replicate n false) (by simp) hl
  unfold ofW
  rw [h1]
  congr 1
  refine getD_extB (by rw [h2.1, rowL_len]) fun i hi => ?_
  rw [h2.1] at hi
  rw [h2.2 i hi, rowL_get hi]
  have e : (List.replicate n false).getD i false = false := by rw [List.getD_eq_getElem?_getD, List.getElem?_replicate]; split <;> rfl
  rw [e, Bool.false_or]
theorem rowL_nil (n : Nat) : rowL n [] = List.replicate n false := by
  refine getD_extB (by simp [rowL_len]) fun i hi => ?_
  rw [rowL_len] at hi
  rw [rowL_get hi, List.getD_eq_getElem?_getD, List.getElem?_replicate]; simp [hi]
theorem rowL_nats {n : Nat} {l : List Nat} : rowL n (l.map fun (i : Nat) => (i : Int)) = setR n fun i => decide (i ∈ l) := by
  refine setR_ext fun i hi => decide_eq_decide.2 ?_
  rw [List.mem_map]
  exact ⟨fun ⟨a, h1, h2⟩ => by rw [← (by omega : a = i)]; exact h1, fun h => ⟨i, h, rfl⟩⟩
/-- The row of the members is the row. -/
theorem rowL_mem {n : Nat} {b : List Bool} (hb : b.length = n) : rowL n ((memB b).map fun (i : Nat) => (i : Int)) = b := by
  rw [rowL_nats]
  refine getD_extB (by rw [setR_len, hb]) fun i hi => ?_
  rw [setR_len] at hi
  rw [setR_get hi]
  refine bool_ext ?_
  rw [decide_eq_true_eq, memB_mem, hb]
  exact ⟨fun h => h.2, fun h => ⟨hi, h⟩⟩
end Go.AM

namespace Go.Proofs.P
open Go.AM Go
set_option maxRecDepth 100000
set_option maxHeartbeats 2000000
theorem ofRow_r (n : Nat) (l : List Int) (h1 : n ≤ 512) (hl : l.length ≤ 9223372036854775807) (hr : ∀ i ∈ l, 0 ≤ i ∧ i < n) :
    Reads Tryd.prog 93 true [.int .i64 n, .rsl 1 (ints l)] (.tup [.agg (rowB (rowL n l)), .int .i64 ((0 : Nat) : Int)]) := by
  have h := of_r n l (by omega) (by omega) hl hr
  rw [ofW_row hr] at h
  unfold rowB
  rw [rowL_len]
  exact h
theorem pempty_r (es : List (List AV)) (n : Nat) (he : es.length = n) (hn : n ≤ 512) : Reads Tryd.prog 86 false [.agg [.rsl 2 es]] (.agg (rowB (List.replicate n false))) := by
  have h0 := (ofRow_r n [] hn (by simp) (by simp)).wk (args := [.int .i64 n, .nilsl]) (.cons (Wk.refl _) (.cons (Wk.nil 1) .nil)) (Wk.refl _)
  rw [rowL_nil] at h0
  unfold rowB at *
  simp only [List.length_replicate] at h0 ⊢
  refine Reads.body (rs := [.cell 2 35]) Tryd.func86 rfl Tryd.ntmps86 rfl (by simp) ?_
  generalize hQr : retQ _ _ _ = Qr
  refine AW.seq fun K1 hK1 => ?_
  -- region 0
  refine AW.regionK 0 (fun _ => none) [1, 2] [1, 2] ?_
  simp only [go_sem, reduceIte, reduceCtorEq, Nat.reduceAdd, Nat.reduceMul, Nat.reduceEqDiff, Nat.reduceLT, Nat.reduceLeDiff, Nat.reduceSub, Nat.reducePow, Nat.reduceBEq, Int.reduceToNat, List.reduceReplicate, he]
  repeat with_reducible refine cj ?_ ?_
  all_goals try first | omega
  refine hK1 _ _ _ ?_; clear hK1
  refine AW.seq fun K2 hK2 => ?_
  -- region 1
  refine AW.regionK 0 (fun ii => if ii = 3 then some (.reads true (.tup [.agg [.int .i64 n, .rsl 1 (words (setW (List.replicate n false) n))], .int .i64 ((0 : Nat) : Int)])) else none) [2, 3] [2, 3] ?_
  simp only [go_sem, reduceIte, reduceCtorEq, Nat.reduceAdd, Nat.reduceMul, Nat.reduceEqDiff, Nat.reduceLT, Nat.reduceLeDiff, Nat.reduceSub, Nat.reducePow, Nat.reduceBEq, Int.reduceToNat, List.reduceReplicate, he]
  repeat with_reducible refine cj ?_ ?_
  all_goals try first | (exact h0) | omega | exact ent (by kernel_rfl)
  refine hK2 _ _ _ ?_; clear hK2
  refine AW.seq fun K3 hK3 => ?_
  -- region 2
  refine AW.regionK 0 (fun _ => none) [2] [2] ?_
  simp only [go_sem, reduceIte, reduceCtorEq, Nat.reduceAdd, Nat.reduceMul, Nat.reduceEqDiff, Nat.reduceLT, Nat.reduceLeDiff, Nat.reduceSub, Nat.reducePow, Nat.reduceBEq, Int.reduceToNat, List.reduceReplicate, he]
  repeat with_reducible refine cj ?_ ?_
  all_goals try first | omega
  refine hK3 _ _ _ ?_; clear hK3
  refine AW.ret ?_
  rw [← hQr]
  simp only [go_sem, reduceIte, reduceCtorEq, Nat.reduceAdd, Nat.reduceMul, Nat.reduceEqDiff, Nat.reduceLT, Nat.reduceLeDiff, Nat.reduceSub, Nat.reducePow, Nat.reduceBEq, Int.reduceToNat, List.reduceReplicate, he]
  exact Wk.refl _
theorem above_r (n : Nat) (t : List (List Bool)) (hs : Sq n t) (hn : n ≤ 512) (b : List Bool) (hb : b.length = n) : Reads Tryd.prog 58 false [relB t, .agg (rowB b)] (.agg (rowB (setR n (abvF n t b)))) := by
  have h0 := pempty_r (tabR t) n (by rw [tabR_len, hs.len]) hn
  have hm := members_b b (by omega)
  have hlt : (tabR t).length = n := by rw [tabR_len, hs.len]
  have hmm : ∀ j, j ∈ memB b → j < n := fun j hj => by have := (memB_mem.1 hj).1; omega
  have hml := memB_le b
  have hu := fun a c ha hl => union_r a c ha hl
  have hae := abv_eq hs hb
  have hal := fun l hl => abvL_len hs l hl
  have hgr := fun i hi => tabR_get (t := t) (i := i) hi
  have hlen := hs.len
  generalize hM : memB b = M at *
  unfold relB rowB at *
  simp only [List.length_replicate] at h0
  refine Reads.body (rs := [.cell 4 35]) Tryd.func58 rfl Tryd.ntmps58 rfl (by simp) ?_
  generalize hQr : retQ _ _ _ = Qr
  refine AW.seq fun K1 hK1 => ?_
  -- region 0
  refine AW.regionK 0 (fun _ => none) [2, 3, 4] [2, 3, 4] ?_
  simp only [go_sem, reduceIte, reduceCtorEq, Nat.reduceAdd, Nat.reduceMul, Nat.reduceEqDiff, Nat.reduceLT, Nat.reduceLeDiff, Nat.reduceSub, Nat.reducePow, Nat.reduceBEq, Int.reduceToNat, List.reduceReplicate, nats_len, ints_len]
  repeat with_reducible refine cj ?_ ?_
  all_goals try first | omega
  refine hK1 _ _ _ ?_; clear hK1
  refine AW.seq fun K2 hK2 => ?_
  -- region 1
  refine AW.regionK 0 (fun ii => if ii = 1 then some (.reads false (.agg [.int .i64 n, .rsl 1 (words (setW (List.replicate n false) n))])) else none) [2, 3, 4, 5] [2, 3, 4, 5] ?_
  simp only [go_sem, reduceIte, reduceCtorEq, Nat.reduceAdd, Nat.reduceMul, Nat.reduceEqDiff, Nat.reduceLT, Nat.reduceLeDiff, Nat.reduceSub, Nat.reducePow, Nat.reduceBEq, Int.reduceToNat, List.reduceReplicate, nats_len, ints_len]
  repeat with_reducible refine cj ?_ ?_
  all_goals try first | (exact h0) | omega | exact ent (by kernel_rfl)
  refine hK2 _ _ _ ?_; clear hK2
  refine AW.seq fun K3 hK3 => ?_
  -- region 2
  refine AW.regionK 0 (fun ii => if ii = 1 then some (.reads false (.tup [.rsl 1 (ints (nats M)), .int .i64 ((0 : Nat) : Int)])) else none) [2, 4, 5, 6] [2, 4, 5] ?_
  simp only [go_sem, reduceIte, reduceCtorEq, Nat.reduceAdd, Nat.reduceMul, Nat.reduceEqDiff, Nat.reduceLT, Nat.reduceLeDiff, Nat.reduceSub, Nat.reducePow, Nat.reduceBEq, Int.reduceToNat, List.reduceReplicate, nats_len, ints_len]
  repeat with_reducible refine cj ?_ ?_
  all_goals try first | (exact hm) | omega | exact ent (by kernel_rfl)
  refine hK3 _ _ _ ?_; clear hK3
  refine AW.seq fun K4 hK4 => ?_
  refine AW.seq fun K5 hK5 => ?_
  -- region 3
  refine AW.regionK 0 (fun _ => none) [2, 4, 5, 17, 18, 19] [2, 4, 5] ?_
  simp only [go_sem, reduceIte, reduceCtorEq, Nat.reduceAdd, Nat.reduceMul, Nat.reduceEqDiff, Nat.reduceLT, Nat.reduceLeDiff, Nat.reduceSub, Nat.reducePow, Nat.reduceBEq, Int.reduceToNat, List.reduceReplicate, nats_len, ints_len]
  repeat with_reducible refine cj ?_ ?_
  all_goals try first | omega
  refine hK5 _ _ _ ?_; clear hK5
  refine AW.block ?_
  -- loop 1
  refine AW.loopE (fun mm ee ss kk => ∃ (k g2 v2 g4 v4 g5 v5 : Nat), M.length - k = mm ∧ ee = [(2, .ptr ⟨2, g2, none⟩ 0 0), (4, .ptr ⟨4, g4, none⟩ 0 0), (5, .ptr ⟨5, g5, none⟩ 0 0), (17, .rsl 1 (ints (nats M))), (18, .int .i64 M.length), (19, .int .i64 (k : Nat))] ∧ ss = [(2, some ⟨g2, v2, 1, [[.rsl 2 (tabR t)]]⟩), (4, some ⟨g4, v4, 2, [[.int .i64 0, .nilsl]]⟩), (5, some ⟨g5, v5, 2, [[.int .i64 (abvL n t (M.take k)).length, .rsl 1 (words (setW (abvL n t (M.take k)) (abvL n t (M.take k)).length))]]⟩)] ∧ (k ≤ M.length)) ?_ ?_
  · refine ⟨_, 0, ?_, ?_, ?_, ?_, ?_, ?_, rfl, ?henv, ?hstore, ?hst⟩
    case henv =>
      repeat' (first | rfl | refine env_cons ?_ ?_ | refine st_cons ?_ ?_ ?_ ?_ | refine int_eq ?_ | refine bool_eq ?_ | refine rsl_eq ?_ | refine osl_eq ?_ | refine sl_eq ?_ ?_ ?_ | refine ptr_eq ?_ ?_ ?_ | refine agg_eq ?_ | refine es_cons ?_ ?_ | refine row_cons ?_ ?_)
      all_goals (first | (simp; done) | omega | (simp; omega))
    case hstore =>
      repeat' (first | rfl | refine env_cons ?_ ?_ | refine st_cons ?_ ?_ ?_ ?_ | refine int_eq ?_ | refine bool_eq ?_ | refine rsl_eq ?_ | refine osl_eq ?_ | refine sl_eq ?_ ?_ ?_ | refine ptr_eq ?_ ?_ ?_ | refine agg_eq ?_ | refine es_cons ?_ ?_ | refine row_cons ?_ ?_)
      all_goals (simp [abvL])
    case hst =>
      first | trivial | omega | (simp; done) | (simp; omega)
  rintro mm ee ss kk ⟨k, g2, v2, g4, v4, g5, v5, rfl, rfl, rfl, hI⟩
  generalize hQl1 : thenQ _ _ = Ql1
  refine AW.seq fun K6 hK6 => ?_
  -- region 4
  refine AW.regionK 0 (fun _ => none) [2, 4, 5, 17, 18, 19, 20] [2, 4, 5] ?_
  simp only [go_sem, reduceIte, reduceCtorEq, Nat.reduceAdd, Nat.reduceMul, Nat.reduceEqDiff, Nat.reduceLT, Nat.reduceLeDiff, Nat.reduceSub, Nat.reducePow, Nat.reduceBEq, Int.reduceToNat, List.reduceReplicate, nats_len, ints_len]
  repeat with_reducible refine cj ?_ ?_
  all_goals try first | omega
  refine hK6 _ _ _ ?_; clear hK6
  refine AW.seq fun K7 hK7 => ?_
  -- cond 1
  refine AW.cond rfl (by simp only [go_sem, reduceIte, reduceCtorEq, Nat.reduceAdd, Nat.reduceMul, Nat.reduceEqDiff, Nat.reduceLT, Nat.reduceLeDiff, Nat.reduceSub, Nat.reducePow, Nat.reduceBEq, Int.reduceToNat, List.reduceReplicate]) ?_ ?_
  · intro hb
    try simp only [hB, decide_eq_true_eq, decide_eq_false_iff_not] at hb
    obtain ⟨q, hq⟩ := getI (l := M) (j := k) (by omega)
    have hgq : (ints (nats M)).getD k [] = [.int .i64 (q : Nat)] := ints_get (by simp [nats, hq])
    have hqn := hmm q (List.mem_of_getElem? hq)
    have hgt := hgr q (by omega)
    have hqr := hs.rowLen hqn
    have hak := hal (M.take k) (fun i hi => hmm i (List.mem_of_mem_take hi))
    have huk := hu (abvL n t (M.take k)) (rowT t q) (by omega) (by omega)
    have hts : M.take (k + 1) = M.take k ++ [q] := by obtain ⟨h1, h2⟩ := List.getElem?_eq_some_iff.1 hq; rw [List.take_succ_eq_append_getElem h1, h2]
    have hsn := abvL_snoc n t (M.take k) q
    rw [← hts] at hsn
    rw [← hsn] at huk
    refine AW.skip ?_
    refine hK7 _ _ _ ?_; clear hK7
    refine AW.seq fun K8 hK8 => ?_
    refine AW.block ?_
    refine AW.seq fun K9 hK9 => ?_
    -- region 5
    refine AW.regionK 0 (fun _ => none) [2, 4, 5, 9, 17, 18, 19] [2, 4, 5] ?_
    simp only [go_sem, reduceIte, reduceCtorEq, Nat.reduceAdd, Nat.reduceMul, Nat.reduceEqDiff, Nat.reduceLT, Nat.reduceLeDiff, Nat.reduceSub, Nat.reducePow, Nat.reduceBEq, Int.reduceToNat, List.reduceReplicate, nats_len, ints_len, hgq]
    repeat with_reducible refine cj ?_ ?_
    all_goals try first | omega
    refine hK9 _ _ _ ?_; clear hK9
    -- region 6
    refine AW.regionD mixed 0 (fun ii => if ii = 6 then some (.reads false (.tup [.agg [.int .i64 (abvL n t (M.take (k + 1))).length, .rsl 1 (words (setW (abvL n t (M.take (k + 1))) (abvL n t (M.take (k + 1))).length))], .int .i64 ((0 : Nat) : Int)])) else none) [2, 4, 5, 17, 18, 19] [2, 4, 5] ?_
    simp only [go_sem, reduceIte, reduceCtorEq, Nat.reduceAdd, Nat.reduceMul, Nat.reduceEqDiff, Nat.reduceLT, Nat.reduceLeDiff, Nat.reduceSub, Nat.reducePow, Nat.reduceBEq, Int.reduceToNat, List.reduceReplicate, nats_len, ints_len, hgt]
    repeat with_reducible refine cj ?_ ?_
    all_goals try first | (first | exact huk | exact ⟨rfl, huk⟩) | omega | exact chk (by kernel_rfl) | exact ent (by kernel_rfl)
    refine hK8 _ _ _ ?_; clear hK8
    -- region 7
    refine AW.regionK 0 (fun _ => none) [2, 4, 5, 17, 18, 19] [2, 4, 5] ?_
    simp only [go_sem, reduceIte, reduceCtorEq, Nat.reduceAdd, Nat.reduceMul, Nat.reduceEqDiff, Nat.reduceLT, Nat.reduceLeDiff, Nat.reduceSub, Nat.reducePow, Nat.reduceBEq, Int.reduceToNat, List.reduceReplicate, nats_len, ints_len]
    repeat with_reducible refine cj ?_ ?_
    all_goals try first | omega
    rw [← hQl1]
    change Exists _
    refine ⟨_, ?hm, k + 1, ?_, ?_, ?_, ?_, ?_, ?_, rfl, ?henv, ?hstore, ?hst⟩
    case henv =>
      repeat' (first | rfl | refine env_cons ?_ ?_ | refine st_cons ?_ ?_ ?_ ?_ | refine int_eq ?_ | refine bool_eq ?_ | refine rsl_eq ?_ | refine osl_eq ?_ | refine sl_eq ?_ ?_ ?_ | refine ptr_eq ?_ ?_ ?_ | refine agg_eq ?_ | refine es_cons ?_ ?_ | refine row_cons ?_ ?_)
      all_goals (first | (simp; done) | omega | (simp; omega))
    case hstore =>
      repeat' (first | rfl | refine env_cons ?_ ?_ | refine st_cons ?_ ?_ ?_ ?_ | refine int_eq ?_ | refine bool_eq ?_ | refine rsl_eq ?_ | refine osl_eq ?_ | refine sl_eq ?_ ?_ ?_ | refine ptr_eq ?_ ?_ ?_ | refine agg_eq ?_ | refine es_cons ?_ ?_ | refine row_cons ?_ ?_)
      all_goals (first | (simp; done) | omega | (simp; omega))
    case hst =>
      first | trivial | omega | (simp; done) | (simp; omega)
    case hm => omega
  · intro hb
    try simp only [hB, decide_eq_true_eq, decide_eq_false_iff_not] at hb
    refine AW.keep [4, 5] [4, 5] ?_
    try simp only [go_sem, reduceIte, reduceCtorEq, Nat.reduceAdd, Nat.reduceMul, Nat.reduceEqDiff, Nat.reduceLT, Nat.reduceLeDiff, Nat.reduceSub, Nat.reducePow, Nat.reduceBEq, Int.reduceToNat, List.reduceReplicate]
    refine AW.exit ?_
    rw [← hQl1]
    refine hK4 _ _ _ ?_; clear hK4
    refine AW.seq fun K10 hK10 => ?_
    -- region 8
    refine AW.regionK 0 (fun _ => none) [4] [4] ?_
    simp only [go_sem, reduceIte, reduceCtorEq, Nat.reduceAdd, Nat.reduceMul, Nat.reduceEqDiff, Nat.reduceLT, Nat.reduceLeDiff, Nat.reduceSub, Nat.reducePow, Nat.reduceBEq, Int.reduceToNat, List.reduceReplicate, nats_len, ints_len]
    repeat with_reducible refine cj ?_ ?_
    all_goals try first | omega
    refine hK10 _ _ _ ?_; clear hK10
    refine AW.ret ?_
    rw [← hQr]
    simp only [go_sem, reduceIte, reduceCtorEq, Nat.reduceAdd, Nat.reduceMul, Nat.reduceEqDiff, Nat.reduceLT, Nat.reduceLeDiff, Nat.reduceSub, Nat.reducePow, Nat.reduceBEq, Int.reduceToNat, List.reduceReplicate, nats_len, ints_len]
    have hk : k = M.length := by omega
    subst hk
    rw [List.take_of_length_le (Nat.le_refl _), hae]
    exact Wk.refl _
end Go.Proofs.P

namespace Go.Proofs.P
open Go.AM Go
set_option maxRecDepth 100000
set_option maxHeartbeats 2000000
theorem pmatch_e (es : List (List AV)) (N : Int) (W : List Int) (h : Reads Tryd.prog 28 false [.agg [.rsl 2 es]] (.bool false)) (hl : W.length ≤ 9223372036854775807) (hl2 : es.length ≤ 9223372036854775807) : Reads Tryd.prog 55 false [.agg [.rsl 2 es], .agg [.int .i64 N, .rsl 1 (words W)]] (.bool false) := by
  have hv := bvalid_r N W hl
  refine Reads.body (rs := [.tmp 4]) Tryd.func55 rfl Tryd.ntmps55 rfl (by simp) ?_
  generalize hQr : retQ _ _ _ = Qr
  refine AW.seq fun K1 hK1 => ?_
  -- region 0
  refine AW.regionK 0 (fun _ => none) [2, 3] [2, 3] ?_
  simp only [go_sem, reduceIte, reduceCtorEq, Nat.reduceAdd, Nat.reduceMul, Nat.reduceEqDiff, Nat.reduceLT, Nat.reduceLeDiff, Nat.reduceSub, Nat.reducePow, Nat.reduceBEq, Int.reduceToNat, List.reduceReplicate]
  repeat with_reducible refine cj ?_ ?_
  all_goals try first | omega
  refine hK1 _ _ _ ?_; clear hK1
  refine AW.seq fun K2 hK2 => ?_
  -- region 1
  refine AW.regionK 0 (fun ii => if ii = 1 then some (.reads false (.bool false)) else if ii = 4 then some (.reads false (.bool (validS N W))) else none) [4] [] ?_
  simp only [go_sem, reduceIte, reduceCtorEq, Nat.reduceAdd, Nat.reduceMul, Nat.reduceEqDiff, Nat.reduceLT, Nat.reduceLeDiff, Nat.reduceSub, Nat.reducePow, Nat.reduceBEq, Int.reduceToNat, List.reduceReplicate]
  repeat with_reducible refine cj ?_ ?_
  all_goals try first | (first | exact h | (intro hh; exact ⟨hh, hv⟩)) | (intros; (repeat' apply And.intro) <;> first | assumption | (first | exact h | (intro hh; exact ⟨hh, hv⟩))) | omega | exact ent (by kernel_rfl) | (intro hgd; exact absurd hgd (by decide)) | rfl | (simp only [go_sem, reduceIte, reduceCtorEq, Nat.reduceAdd, Nat.reduceMul, Nat.reduceEqDiff, Nat.reduceLT, Nat.reduceLeDiff, Nat.reduceSub, Nat.reducePow, Nat.reduceBEq, Int.reduceToNat, List.reduceReplicate]; done) | (intro _hgd; simp_all [go_sem]; done)
  refine hK2 _ _ _ ?_; clear hK2
  refine AW.ret ?_
  rw [← hQr]
  simp only [go_sem, reduceIte, reduceCtorEq, Nat.reduceAdd, Nat.reduceMul, Nat.reduceEqDiff, Nat.reduceLT, Nat.reduceLeDiff, Nat.reduceSub, Nat.reducePow, Nat.reduceBEq, Int.reduceToNat, List.reduceReplicate]
  exact Wk.of_eq (by simp)
theorem pmatch_g (n : Nat) (t : List (List Bool)) (N : Int) (W : List Int) (hs : Sq n t) (hn : n ≤ 512) (hl : W.length ≤ 9223372036854775807) : Reads Tryd.prog 55 false [relB t, .agg [.int .i64 N, .rsl 1 (words W)]] (.bool (poB n t && validS N W && decide (N = n))) := by
  have h := pvalid_g n t hs hn
  have hv := bvalid_r N W hl
  have hlt : (tabR t).length = n := by rw [tabR_len, hs.len]
  unfold relB at *
  refine Reads.body (rs := [.tmp 4]) Tryd.func55 rfl Tryd.ntmps55 rfl (by simp) ?_
  generalize hQr : retQ _ _ _ = Qr
  refine AW.seq fun K1 hK1 => ?_
  -- region 0
  refine AW.regionK 0 (fun _ => none) [2, 3] [2, 3] ?_
  simp only [go_sem, reduceIte, reduceCtorEq, Nat.reduceAdd, Nat.reduceMul, Nat.reduceEqDiff, Nat.reduceLT, Nat.reduceLeDiff, Nat.reduceSub, Nat.reducePow, Nat.reduceBEq, Int.reduceToNat, List.reduceReplicate, hlt]
  repeat with_reducible refine cj ?_ ?_
  all_goals try first | omega
  refine hK1 _ _ _ ?_; clear hK1
  refine AW.seq fun K2 hK2 => ?_
  -- region 1
  refine AW.regionK 0 (fun ii => if ii = 1 then some (.reads false (.bool (poB n t))) else if ii = 4 then some (.reads false (.bool (validS N W))) else none) [4] [] ?_
  simp only [go_sem, reduceIte, reduceCtorEq, Nat.reduceAdd, Nat.reduceMul, Nat.reduceEqDiff, Nat.reduceLT, Nat.reduceLeDiff, Nat.reduceSub, Nat.reducePow, Nat.reduceBEq, Int.reduceToNat, List.reduceReplicate, hlt]
  repeat with_reducible refine cj ?_ ?_
  all_goals try first | (first | exact h | (intro hh; exact ⟨hh, hv⟩)) | (intros; (repeat' apply And.intro) <;> first | assumption | (first | exact h | (intro hh; exact ⟨hh, hv⟩))) | omega | exact ent (by kernel_rfl) | (intro hgd; exact absurd hgd (by decide)) | rfl | (simp only [go_sem, reduceIte, reduceCtorEq, Nat.reduceAdd, Nat.reduceMul, Nat.reduceEqDiff, Nat.reduceLT, Nat.reduceLeDiff, Nat.reduceSub, Nat.reducePow, Nat.reduceBEq, Int.reduceToNat, List.reduceReplicate, hlt]; done) | (intro _hgd; simp_all [go_sem]; done)
  refine hK2 _ _ _ ?_; clear hK2
  refine AW.ret ?_
  rw [← hQr]
  simp only [go_sem, reduceIte, reduceCtorEq, Nat.reduceAdd, Nat.reduceMul, Nat.reduceEqDiff, Nat.reduceLT, Nat.reduceLeDiff, Nat.reduceSub, Nat.reducePow, Nat.reduceBEq, Int.reduceToNat, List.reduceReplicate, hlt]
  exact Wk.refl _
theorem up_e (es : List (List AV)) (N : Int) (W : List Int) (h : Reads Tryd.prog 55 false [.agg [.rsl 2 es], .agg [.int .i64 N, .rsl 1 (words W)]] (.bool false)) : Reads Tryd.prog 22 false [.agg [.rsl 2 es], .agg [.int .i64 N, .rsl 1 (words W)]] (.tup [.agg [.int .i64 0, .rsl 1 []], .int .i64 ((1 : Nat) : Int)]) := by
  refine Reads.body (rs := [.cell 4 35, .tmp 5]) Tryd.func22 rfl Tryd.ntmps22 rfl (by simp) ?_
  generalize hQr : retQ _ _ _ = Qr
  refine AW.seq fun K1 hK1 => ?_
  -- region 0
  refine AW.regionK 0 (fun _ => none) [2, 3, 4] [2, 3, 4] ?_
  simp only [go_sem, reduceIte, reduceCtorEq, Nat.reduceAdd, Nat.reduceMul, Nat.reduceEqDiff, Nat.reduceLT, Nat.reduceLeDiff, Nat.reduceSub, Nat.reducePow, Nat.reduceBEq, Int.reduceToNat, List.reduceReplicate]
  repeat with_reducible refine cj ?_ ?_
  all_goals try first | omega
  refine hK1 _ _ _ ?_; clear hK1
  refine AW.seq fun K2 hK2 => ?_
  refine AW.seq fun K3 hK3 => ?_
  -- region 1
  refine AW.regionK 0 (fun ii => if ii = 2 then some (.reads false (.bool false)) else none) [2, 3, 4, 9] [2, 3, 4] ?_
  simp only [go_sem, reduceIte, reduceCtorEq, Nat.reduceAdd, Nat.reduceMul, Nat.reduceEqDiff, Nat.reduceLT, Nat.reduceLeDiff, Nat.reduceSub, Nat.reducePow, Nat.reduceBEq, Int.reduceToNat, List.reduceReplicate]
  repeat with_reducible refine cj ?_ ?_
  all_goals try first | (exact h) | omega | exact ent (by kernel_rfl)
  refine hK3 _ _ _ ?_; clear hK3
  -- cond 1
  refine AW.cond rfl (by simp only [go_sem, reduceIte, reduceCtorEq, Nat.reduceAdd, Nat.reduceMul, Nat.reduceEqDiff, Nat.reduceLT, Nat.reduceLeDiff, Nat.reduceSub, Nat.reducePow, Nat.reduceBEq, Int.reduceToNat, List.reduceReplicate]) ?_ ?_
  · intro hb
    try simp only [hB, decide_eq_true_eq, decide_eq_false_iff_not] at hb
    refine AW.seq fun K4 hK4 => ?_
    -- region 2
    refine AW.regionK 0 (fun _ => none) [4, 5] [4] ?_
    simp only [go_sem, reduceIte, reduceCtorEq, Nat.reduceAdd, Nat.reduceMul, Nat.reduceEqDiff, Nat.reduceLT, Nat.reduceLeDiff, Nat.reduceSub, Nat.reducePow, Nat.reduceBEq, Int.reduceToNat, List.reduceReplicate]
    repeat with_reducible refine cj ?_ ?_
    all_goals try first | omega
    refine hK4 _ _ _ ?_; clear hK4
    refine AW.ret ?_
    rw [← hQr]
    simp only [go_sem, reduceIte, reduceCtorEq, Nat.reduceAdd, Nat.reduceMul, Nat.reduceEqDiff, Nat.reduceLT, Nat.reduceLeDiff, Nat.reduceSub, Nat.reducePow, Nat.reduceBEq, Int.reduceToNat, List.reduceReplicate]
    exact Wk.tup2 (Wk.agg2 (Wk.refl _) (Wk.nil 1)) (Wk.refl _)
  · intro hb
    try simp only [hB, decide_eq_true_eq, decide_eq_false_iff_not] at hb
    simp at hb
theorem down_e (es : List (List AV)) (N : Int) (W : List Int) (h : Reads Tryd.prog 55 false [.agg [.rsl 2 es], .agg [.int .i64 N, .rsl 1 (words W)]] (.bool false)) : Reads Tryd.prog 21 false [.agg [.rsl 2 es], .agg [.int .i64 N, .rsl 1 (words W)]] (.tup [.agg [.int .i64 0, .rsl 1 []], .int .i64 ((1 : Nat) : Int)]) := by
  refine Reads.body (rs := [.cell 4 35, .tmp 5]) Tryd.func21 rfl Tryd.ntmps21 rfl (by simp) ?_
  generalize hQr : retQ _ _ _ = Qr
  refine AW.seq fun K1 hK1 => ?_
  -- region 0
  refine AW.regionK 0 (fun _ => none) [2, 3, 4] [2, 3, 4] ?_
  simp only [go_sem, reduceIte, reduceCtorEq, Nat.reduceAdd, Nat.reduceMul, Nat.reduceEqDiff, Nat.reduceLT, Nat.reduceLeDiff, Nat.reduceSub, Nat.reducePow, Nat.reduceBEq, Int.reduceToNat, List.reduceReplicate]
  repeat with_reducible refine cj ?_ ?_
  all_goals try first | omega
  refine hK1 _ _ _ ?_; clear hK1
  refine AW.seq fun K2 hK2 => ?_
  refine AW.seq fun K3 hK3 => ?_
  -- region 1
  refine AW.regionK 0 (fun ii => if ii = 2 then some (.reads false (.bool false)) else none) [2, 3, 4, 11] [2, 3, 4] ?_
  simp only [go_sem, reduceIte, reduceCtorEq, Nat.reduceAdd, Nat.reduceMul, Nat.reduceEqDiff, Nat.reduceLT, Nat.reduceLeDiff, Nat.reduceSub, Nat.reducePow, Nat.reduceBEq, Int.reduceToNat, List.reduceReplicate]
  repeat with_reducible refine cj ?_ ?_
  all_goals try first | (exact h) | omega | exact ent (by kernel_rfl)
  refine hK3 _ _ _ ?_; clear hK3
  -- cond 1
  refine AW.cond rfl (by simp only [go_sem, reduceIte, reduceCtorEq, Nat.reduceAdd, Nat.reduceMul, Nat.reduceEqDiff, Nat.reduceLT, Nat.reduceLeDiff, Nat.reduceSub, Nat.reducePow, Nat.reduceBEq, Int.reduceToNat, List.reduceReplicate]) ?_ ?_
  · intro hb
    try simp only [hB, decide_eq_true_eq, decide_eq_false_iff_not] at hb
    refine AW.seq fun K4 hK4 => ?_
    -- region 2
    refine AW.regionK 0 (fun _ => none) [4, 5] [4] ?_
    simp only [go_sem, reduceIte, reduceCtorEq, Nat.reduceAdd, Nat.reduceMul, Nat.reduceEqDiff, Nat.reduceLT, Nat.reduceLeDiff, Nat.reduceSub, Nat.reducePow, Nat.reduceBEq, Int.reduceToNat, List.reduceReplicate]
    repeat with_reducible refine cj ?_ ?_
    all_goals try first | omega
    refine hK4 _ _ _ ?_; clear hK4
    refine AW.ret ?_
    rw [← hQr]
    simp only [go_sem, reduceIte, reduceCtorEq, Nat.reduceAdd, Nat.reduceMul, Nat.reduceEqDiff, Nat.reduceLT, Nat.reduceLeDiff, Nat.reduceSub, Nat.reducePow, Nat.reduceBEq, Int.reduceToNat, List.reduceReplicate]
    exact Wk.tup2 (Wk.agg2 (Wk.refl _) (Wk.nil 1)) (Wk.refl _)
  · intro hb
    try simp only [hB, decide_eq_true_eq, decide_eq_false_iff_not] at hb
    simp at hb
theorem pmatch_t (n : Nat) (t : List (List Bool)) (hs : Sq n t) (hn : n ≤ 512) (hp : poB n t = true) (b : List Bool) (hb : b.length = n) : Reads Tryd.prog 55 false [relB t, .agg (rowB b)] (.bool true) := by
  have h := pmatch_g n t b.length (setW b b.length) hs hn (by have := setB_len (b := b) (by omega); omega)
  rw [hp, validS_setW (by omega), hb] at h
  unfold rowB
  rw [hb]
  simp only [Bool.and_self, decide_true] at h
  exact h
theorem up_g (n : Nat) (t : List (List Bool)) (hs : Sq n t) (hn : n ≤ 512) (hp : poB n t = true) (b : List Bool) (hb : b.length = n) : Reads Tryd.prog 22 false [relB t, .agg (rowB b)] (.tup [.agg (rowB (upT n t b)), .int .i64 ((0 : Nat) : Int)]) := by
  have h := pmatch_t n t hs hn hp b hb
  have ha := above_r n t hs hn b hb
  have hu := union_r b (setR n (abvF n t b)) (by omega) (by rw [setR_len, hb])
  rw [up_eq hb] at hu
  unfold relB rowB at *
  refine Reads.body (rs := [.cell 4 35, .tmp 5]) Tryd.func22 rfl Tryd.ntmps22 rfl (by simp) ?_
  generalize hQr : retQ _ _ _ = Qr
  refine AW.seq fun K1 hK1 => ?_
  -- region 0
  refine AW.regionK 0 (fun _ => none) [2, 3, 4] [2, 3, 4] ?_
  simp only [go_sem, reduceIte, reduceCtorEq, Nat.reduceAdd, Nat.reduceMul, Nat.reduceEqDiff, Nat.reduceLT, Nat.reduceLeDiff, Nat.reduceSub, Nat.reducePow, Nat.reduceBEq, Int.reduceToNat, List.reduceReplicate]
  repeat with_reducible refine cj ?_ ?_
  all_goals try first | omega
  refine hK1 _ _ _ ?_; clear hK1
  refine AW.seq fun K2 hK2 => ?_
  refine AW.seq fun K3 hK3 => ?_
  -- region 1
  refine AW.regionK 0 (fun ii => if ii = 2 then some (.reads false (.bool true)) else none) [2, 3, 4, 9] [2, 3, 4] ?_
  simp only [go_sem, reduceIte, reduceCtorEq, Nat.reduceAdd, Nat.reduceMul, Nat.reduceEqDiff, Nat.reduceLT, Nat.reduceLeDiff, Nat.reduceSub, Nat.reducePow, Nat.reduceBEq, Int.reduceToNat, List.reduceReplicate]
  repeat with_reducible refine cj ?_ ?_
  all_goals try first | (exact h) | omega | exact ent (by kernel_rfl)
  refine hK3 _ _ _ ?_; clear hK3
  -- cond 1
  refine AW.cond rfl (by simp only [go_sem, reduceIte, reduceCtorEq, Nat.reduceAdd, Nat.reduceMul, Nat.reduceEqDiff, Nat.reduceLT, Nat.reduceLeDiff, Nat.reduceSub, Nat.reducePow, Nat.reduceBEq, Int.reduceToNat, List.reduceReplicate]) ?_ ?_
  · intro hb
    try simp only [hB, decide_eq_true_eq, decide_eq_false_iff_not] at hb
    simp at hb
  · intro hb
    try simp only [hB, decide_eq_true_eq, decide_eq_false_iff_not] at hb
    refine AW.skip ?_
    refine hK2 _ _ _ ?_; clear hK2
    refine AW.seq fun K4 hK4 => ?_
    -- region 3
    refine AW.regionD mixed 0 (fun ii => if ii = 3 then some (.reads false (.agg [.int .i64 (setR n (abvF n t b)).length, .rsl 1 (words (setW (setR n (abvF n t b)) (setR n (abvF n t b)).length))])) else if ii = 4 then some (.reads false (.tup [.agg [.int .i64 (upT n t b).length, .rsl 1 (words (setW (upT n t b) (upT n t b).length))], .int .i64 ((0 : Nat) : Int)])) else none) [4, 5] [4] ?_
    simp only [go_sem, reduceIte, reduceCtorEq, Nat.reduceAdd, Nat.reduceMul, Nat.reduceEqDiff, Nat.reduceLT, Nat.reduceLeDiff, Nat.reduceSub, Nat.reducePow, Nat.reduceBEq, Int.reduceToNat, List.reduceReplicate]
    repeat with_reducible refine cj ?_ ?_
    all_goals try first | (first | exact ha | exact hu | exact ⟨rfl, ha⟩ | exact ⟨rfl, hu⟩) | omega | exact chk (by kernel_rfl) | exact ent (by kernel_rfl)
    refine hK4 _ _ _ ?_; clear hK4
    refine AW.ret ?_
    rw [← hQr]
    simp only [go_sem, reduceIte, reduceCtorEq, Nat.reduceAdd, Nat.reduceMul, Nat.reduceEqDiff, Nat.reduceLT, Nat.reduceLeDiff, Nat.reduceSub, Nat.reducePow, Nat.reduceBEq, Int.reduceToNat, List.reduceReplicate]
    exact Wk.refl _
theorem down_g (n : Nat) (t : List (List Bool)) (hs : Sq n t) (hn : n ≤ 512) (hp : poB n t = true) (b : List Bool) (hb : b.length = n) : Reads Tryd.prog 21 false [relB t, .agg (rowB b)] (.tup [.agg (rowB (upT n (invT n t) b)), .int .i64 ((0 : Nat) : Int)]) := by
  have h := pmatch_t n t hs hn hp b hb
  have hi := inverse_g n t hs hn
  have hu := up_g n (invT n t) Sq.inv hn ((poB_iff Sq.inv).2 ((poB_iff hs).1 hp).inv) b hb
  unfold relB rowB at *
  refine Reads.body (rs := [.cell 4 35, .tmp 5]) Tryd.func21 rfl Tryd.ntmps21 rfl (by simp) ?_
  generalize hQr : retQ _ _ _ = Qr
  refine AW.seq fun K1 hK1 => ?_
  -- region 0
  refine AW.regionK 0 (fun _ => none) [2, 3, 4] [2, 3, 4] ?_
  simp only [go_sem, reduceIte, reduceCtorEq, Nat.reduceAdd, Nat.reduceMul, Nat.reduceEqDiff, Nat.reduceLT, Nat.reduceLeDiff, Nat.reduceSub, Nat.reducePow, Nat.reduceBEq, Int.reduceToNat, List.reduceReplicate]
  repeat with_reducible refine cj ?_ ?_
  all_goals try first | omega
  refine hK1 _ _ _ ?_; clear hK1
  refine AW.seq fun K2 hK2 => ?_
  refine AW.seq fun K3 hK3 => ?_
  -- region 1
  refine AW.regionK 0 (fun ii => if ii = 2 then some (.reads false (.bool true)) else none) [2, 3, 4, 11] [2, 3, 4] ?_
  simp only [go_sem, reduceIte, reduceCtorEq, Nat.reduceAdd, Nat.reduceMul, Nat.reduceEqDiff, Nat.reduceLT, Nat.reduceLeDiff, Nat.reduceSub, Nat.reducePow, Nat.reduceBEq, Int.reduceToNat, List.reduceReplicate]
  repeat with_reducible refine cj ?_ ?_
  all_goals try first | (exact h) | omega | exact ent (by kernel_rfl)
  refine hK3 _ _ _ ?_; clear hK3
  -- cond 1
  refine AW.cond rfl (by simp only [go_sem, reduceIte, reduceCtorEq, Nat.reduceAdd, Nat.reduceMul, Nat.reduceEqDiff, Nat.reduceLT, Nat.reduceLeDiff, Nat.reduceSub, Nat.reducePow, Nat.reduceBEq, Int.reduceToNat, List.reduceReplicate]) ?_ ?_
  · intro hb
    try simp only [hB, decide_eq_true_eq, decide_eq_false_iff_not] at hb
    simp at hb
  · intro hb
    try simp only [hB, decide_eq_true_eq, decide_eq_false_iff_not] at hb
    refine AW.skip ?_
    refine hK2 _ _ _ ?_; clear hK2
    refine AW.seq fun K4 hK4 => ?_
    -- region 3
    refine AW.regionK 0 (fun ii => if ii = 1 then some (.reads false (.tup [.agg [.rsl 2 (tabR (invT n t))], .int .i64 ((0 : Nat) : Int)])) else none) [3, 4, 6] [3, 4, 6] ?_
    simp only [go_sem, reduceIte, reduceCtorEq, Nat.reduceAdd, Nat.reduceMul, Nat.reduceEqDiff, Nat.reduceLT, Nat.reduceLeDiff, Nat.reduceSub, Nat.reducePow, Nat.reduceBEq, Int.reduceToNat, List.reduceReplicate]
    repeat with_reducible refine cj ?_ ?_
    all_goals try first | (exact hi) | omega | exact ent (by kernel_rfl)
    refine hK4 _ _ _ ?_; clear hK4
    refine AW.seq fun K5 hK5 => ?_
    -- region 4
    refine AW.regionK 0 (fun ii => if ii = 2 then some (.reads false (.tup [.agg [.int .i64 (upT n (invT n t) b).length, .rsl 1 (words (setW (upT n (invT n t) b) (upT n (invT n t) b).length))], .int .i64 ((0 : Nat) : Int)])) else none) [4, 5] [4] ?_
    simp only [go_sem, reduceIte, reduceCtorEq, Nat.reduceAdd, Nat.reduceMul, Nat.reduceEqDiff, Nat.reduceLT, Nat.reduceLeDiff, Nat.reduceSub, Nat.reducePow, Nat.reduceBEq, Int.reduceToNat, List.reduceReplicate]
    repeat with_reducible refine cj ?_ ?_
    all_goals try first | (exact hu) | omega | exact ent (by kernel_rfl)
    refine hK5 _ _ _ ?_; clear hK5
    refine AW.ret ?_
    rw [← hQr]
    simp only [go_sem, reduceIte, reduceCtorEq, Nat.reduceAdd, Nat.reduceMul, Nat.reduceEqDiff, Nat.reduceLT, Nat.reduceLeDiff, Nat.reduceSub, Nat.reducePow, Nat.reduceBEq, Int.reduceToNat, List.reduceReplicate]
    exact Wk.refl _
end Go.Proofs.P

/- The restriction of an order. -/
namespace Go.AM
def resT (t : List (List Bool)) (M : List Nat) : List (List Bool) := tabF M.length fun a c => atT t (M.getD a 0) (M.getD c 0)
theorem resT_sq (t : List (List Bool)) (M : List Nat) : Sq M.length (resT t M) := tabF_sq _ _
theorem resT_at {t : List (List Bool)} {M : List Nat} {a c : Nat} (ha : a < M.length) (hc : c < M.length) : atT (resT t M) a c = atT t (M.getD a 0) (M.getD c 0) := atT_tabF ha hc
theorem memB_lt {n : Nat} {b : List Bool} (hb : b.length = n) {a : Nat} (ha : a < (memB b).length) : (memB b).getD a 0 < n := by
  have := (memB_mem.1 (mem_getD ha 0)).1; omega
theorem IsPo.res {n : Nat} {t : List (List Bool)} (h : IsPo n t) {M : List Nat} (hM : ∀ i ∈ M, i < n) : IsPo M.length (resT t M) := by
  have hl : ∀ a, a < M.length → M.getD a 0 < n := fun a ha => hM _ (mem_getD ha 0)
  refine ⟨fun i hi => by rw [resT_at hi hi]; exact h.irr _ (hl i hi), fun i j k hi hj hk h1 h2 => ?_⟩
  rw [resT_at hi hj] at h1
  rw [resT_at hj hk] at h2
  rw [resT_at hi hk]
  exact h.trans _ _ _ (hl i hi) (hl j hj) (hl k hk) h1 h2
end Go.AM

namespace Go.Proofs.P
open Go.AM Go
set_option maxRecDepth 100000
set_option maxHeartbeats 2000000
theorem levels_g (n : Nat) (t : List (List Bool)) (hs : Sq n t) (hn : n ≤ 512) (hp : poB n t = true) : Reads Tryd.prog 31 false [relB t] (.tup [.rsl 1 (ints (levO n t)), .int .i64 ((0 : Nat) : Int)]) := by
  have h := pvalid_g n t hs hn
  rw [hp] at h
  have hpo := (poB_iff hs).1 hp
  have hac := hpo.acyc hs
  have ho := order_g n t hs hn hac
  obtain ⟨hoi, hol⟩ := ordO_ok hs hac n [] (OrdI.nil n t) (by simp)
  have hla := fun k hk => LevI.all hs hpo hoi k hk
  have hlt : (tabR t).length = n := by rw [tabR_len, hs.len]
  have hgr := fun i hi => tabR_get (t := t) (i := i) hi
  have hmb := fun b hb => members_b b hb
  have hlev : levO n t = (ordO n t n []).foldl (levS t) (List.replicate n 0) := rfl
  have hmx : ∀ a b : Int, (if a < b then b else a) = max a b := fun a b => by split <;> omega
  have hrng := hoi.rng
  generalize hO : ordO n t n [] = O at *
  unfold relB rowB at *
  refine Reads.body (rs := [.tmp 2, .tmp 3]) Tryd.func31 rfl Tryd.ntmps31 rfl (by simp) ?_
  generalize hQr : retQ _ _ _ = Qr
  refine AW.seq fun K1 hK1 => ?_
  -- region 0
  refine AW.regionK 0 (fun _ => none) [1] [1] ?_
  simp only [go_sem, reduceIte, reduceCtorEq, Nat.reduceAdd, Nat.reduceMul, Nat.reduceEqDiff, Nat.reduceLT, Nat.reduceLeDiff, Nat.reduceSub, Nat.reducePow, Nat.reduceBEq, Int.reduceToNat, List.reduceReplicate, hlt]
  repeat with_reducible refine cj ?_ ?_
  all_goals try first | omega
  refine hK1 _ _ _ ?_; clear hK1
  refine AW.seq fun K2 hK2 => ?_
  refine AW.seq fun K3 hK3 => ?_
  -- region 1
  refine AW.regionK 0 (fun ii => if ii = 1 then some (.reads false (.bool true)) else none) [1, 15] [1] ?_
  simp only [go_sem, reduceIte, reduceCtorEq, Nat.reduceAdd, Nat.reduceMul, Nat.reduceEqDiff, Nat.reduceLT, Nat.reduceLeDiff, Nat.reduceSub, Nat.reducePow, Nat.reduceBEq, Int.reduceToNat, List.reduceReplicate, hlt]
  repeat with_reducible refine cj ?_ ?_
  all_goals try first | (exact h) | omega | exact ent (by kernel_rfl)
  refine hK3 _ _ _ ?_; clear hK3
  -- cond 1
  refine AW.cond rfl (by simp only [go_sem, reduceIte, reduceCtorEq, Nat.reduceAdd, Nat.reduceMul, Nat.reduceEqDiff, Nat.reduceLT, Nat.reduceLeDiff, Nat.reduceSub, Nat.reducePow, Nat.reduceBEq, Int.reduceToNat, List.reduceReplicate]) ?_ ?_
  · intro hb
    try simp only [hB, decide_eq_true_eq, decide_eq_false_iff_not] at hb
    simp at hb
  · intro hb
    try simp only [hB, decide_eq_true_eq, decide_eq_false_iff_not] at hb
    refine AW.skip ?_
    refine hK2 _ _ _ ?_; clear hK2
    refine AW.seq fun K4 hK4 => ?_
    -- region 3
    refine AW.regionK 0 (fun ii => if ii = 1 then some (.reads false (.tup [.rsl 1 (ints (nats O)), .int .i64 ((0 : Nat) : Int)])) else none) [1, 4] [1] ?_
    simp only [go_sem, reduceIte, reduceCtorEq, Nat.reduceAdd, Nat.reduceMul, Nat.reduceEqDiff, Nat.reduceLT, Nat.reduceLeDiff, Nat.reduceSub, Nat.reducePow, Nat.reduceBEq, Int.reduceToNat, List.reduceReplicate, hlt]
    repeat with_reducible refine cj ?_ ?_
    all_goals try first | (exact ho) | omega | exact ent (by kernel_rfl)
    refine hK4 _ _ _ ?_; clear hK4
    refine AW.seq fun K5 hK5 => ?_
    -- region 4
    refine AW.regionK 0 (fun _ => none) [1, 4, 6] [1, 24] ?_
    simp only [go_sem, reduceIte, reduceCtorEq, Nat.reduceAdd, Nat.reduceMul, Nat.reduceEqDiff, Nat.reduceLT, Nat.reduceLeDiff, Nat.reduceSub, Nat.reducePow, Nat.reduceBEq, Int.reduceToNat, List.reduceReplicate, hlt]
    repeat with_reducible refine cj ?_ ?_
    all_goals try first | omega
    refine hK5 _ _ _ ?_; clear hK5
    refine AW.seq fun K6 hK6 => ?_
    refine AW.seq fun K7 hK7 => ?_
    -- region 5
    refine AW.regionK 0 (fun _ => none) [1, 6, 25, 26, 27] [1, 24] ?_
    simp only [go_sem, reduceIte, reduceCtorEq, Nat.reduceAdd, Nat.reduceMul, Nat.reduceEqDiff, Nat.reduceLT, Nat.reduceLeDiff, Nat.reduceSub, Nat.reducePow, Nat.reduceBEq, Int.reduceToNat, List.reduceReplicate, hlt, ints_len, nats_len, hol]
    repeat with_reducible refine cj ?_ ?_
    all_goals try first | omega
    refine hK7 _ _ _ ?_; clear hK7
    refine AW.block ?_
    -- loop 1
    refine AW.loopE (fun mm ee ss kk => ∃ (k g1 v1 g v : Nat), n - k = mm ∧ ee = [(1, .ptr ⟨1, g1, none⟩ 0 0), (6, .sl ⟨24, g, none⟩ 0 n none), (25, .rsl 1 (ints (nats O))), (26, .int .i64 n), (27, .int .i64 (k : Nat))] ∧ ss = [(1, some ⟨g1, v1, 1, [[.rsl 2 (tabR t)]]⟩), (24, some ⟨g, v, 1, ints ((O.take k).foldl (levS t) (List.replicate n 0))⟩)] ∧ (k ≤ n)) ?_ ?_
    · refine ⟨_, 0, ?_, ?_, ?_, ?_, rfl, ?henv, ?hstore, ?hst⟩
      case henv =>
        repeat' (first | rfl | refine env_cons ?_ ?_ | refine st_cons ?_ ?_ ?_ ?_ | refine int_eq ?_ | refine bool_eq ?_ | refine rsl_eq ?_ | refine osl_eq ?_ | refine sl_eq ?_ ?_ ?_ | refine ptr_eq ?_ ?_ ?_ | refine agg_eq ?_ | refine es_cons ?_ ?_ | refine row_cons ?_ ?_)
        all_goals (first | (simp; done) | omega | (simp; omega))
      case hstore =>
        repeat' (first | rfl | refine env_cons ?_ ?_ | refine st_cons ?_ ?_ ?_ ?_ | refine int_eq ?_ | refine bool_eq ?_ | refine rsl_eq ?_ | refine osl_eq ?_ | refine sl_eq ?_ ?_ ?_ | refine ptr_eq ?_ ?_ ?_ | refine agg_eq ?_ | refine es_cons ?_ ?_ | refine row_cons ?_ ?_)
        all_goals (simp [ints])
      case hst =>
        first | trivial | omega | (simp; done) | (simp; omega)
    rintro mm ee ss kk ⟨k, g1, v1, g, v, rfl, rfl, rfl, hI⟩
    generalize hQl1 : thenQ _ _ = Ql1
    refine AW.seq fun K8 hK8 => ?_
    -- region 6
    refine AW.regionK 0 (fun _ => none) [1, 6, 25, 26, 27, 28] [1, 24] ?_
    simp only [go_sem, reduceIte, reduceCtorEq, Nat.reduceAdd, Nat.reduceMul, Nat.reduceEqDiff, Nat.reduceLT, Nat.reduceLeDiff, Nat.reduceSub, Nat.reducePow, Nat.reduceBEq, Int.reduceToNat, List.reduceReplicate, hlt]
    repeat with_reducible refine cj ?_ ?_
    all_goals try first | omega
    refine hK8 _ _ _ ?_; clear hK8
    refine AW.seq fun K9 hK9 => ?_
    -- cond 2
    refine AW.cond rfl (by simp only [go_sem, reduceIte, reduceCtorEq, Nat.reduceAdd, Nat.reduceMul, Nat.reduceEqDiff, Nat.reduceLT, Nat.reduceLeDiff, Nat.reduceSub, Nat.reducePow, Nat.reduceBEq, Int.reduceToNat, List.reduceReplicate]) ?_ ?_
    · intro hb
      try simp only [hB, decide_eq_true_eq, decide_eq_false_iff_not] at hb
      obtain ⟨i, hi⟩ := getI (l := O) (j := k) (by omega)
      have hgi : (ints (nats O)).getD k [] = [.int .i64 (i : Nat)] := ints_get (by simp [nats, hi])
      have hin := hrng i (List.mem_of_getElem? hi)
      have hgt := hgr i (by have := hs.len; omega)
      have hri := hs.rowLen hin
      have hlk := hla k (by omega)
      have hts : O.take (k + 1) = O.take k ++ [i] := by obtain ⟨h1, h2⟩ := List.getElem?_eq_some_iff.1 hi; rw [List.take_succ_eq_append_getElem h1, h2]
      have hfs : (O.take (k + 1)).foldl (levS t) (List.replicate n 0) = levS t ((O.take k).foldl (levS t) (List.replicate n 0)) i := by rw [hts, List.foldl_append]; rfl
      generalize hU : (O.take k).foldl (levS t) (List.replicate n 0) = U at *
      have hmi := hmb (rowT t i) (by omega)
      have hml := memB_le (rowT t i)
      have hmn := memB_nodup (rowT t i)
      have hls : levS t U i = (memB (rowT t i)).foldl (levJ i) U := rfl
      have hmm : ∀ j, j ∈ memB (rowT t i) → j < n ∧ j ≠ i := fun j hj => by
        have hj := memB_mem.1 hj
        refine ⟨by omega, fun e => ?_⟩
        subst e
        have h2 := hpo.irr _ hin
        unfold atT at h2
        rw [h2] at hj
        exact absurd hj.2 (by simp)
      generalize hM : memB (rowT t i) = M at *
      have hul := hlk.len
      have hub := hlk.bnd i hin
      have hup := hlk.pos i hin
      have hkk : (O.take k).length ≤ n := by simp; omega
      refine AW.skip ?_
      refine hK9 _ _ _ ?_; clear hK9
      refine AW.seq fun K10 hK10 => ?_
      refine AW.block ?_
      refine AW.seq fun K11 hK11 => ?_
      -- region 7
      refine AW.regionK 0 (fun _ => none) [1, 6, 8, 25, 26, 27] [1, 24] ?_
      simp only [go_sem, reduceIte, reduceCtorEq, Nat.reduceAdd, Nat.reduceMul, Nat.reduceEqDiff, Nat.reduceLT, Nat.reduceLeDiff, Nat.reduceSub, Nat.reducePow, Nat.reduceBEq, Int.reduceToNat, List.reduceReplicate, hlt, hgi, ints_len, nats_len]
      repeat with_reducible refine cj ?_ ?_
      all_goals try first | omega
      refine hK11 _ _ _ ?_; clear hK11
      refine AW.seq fun K12 hK12 => ?_
      -- region 8
      refine AW.regionK 0 (fun ii => if ii = 5 then some (.reads false (.tup [.rsl 1 (ints (nats M)), .int .i64 ((0 : Nat) : Int)])) else none) [1, 6, 8, 9, 25, 26, 27] [1, 24] ?_
      simp only [go_sem, reduceIte, reduceCtorEq, Nat.reduceAdd, Nat.reduceMul, Nat.reduceEqDiff, Nat.reduceLT, Nat.reduceLeDiff, Nat.reduceSub, Nat.reducePow, Nat.reduceBEq, Int.reduceToNat, List.reduceReplicate, hlt, hgt]
      repeat with_reducible refine cj ?_ ?_
      all_goals try first | (exact hmi) | omega | exact ent (by kernel_rfl)
      refine hK12 _ _ _ ?_; clear hK12
      refine AW.seq fun K13 hK13 => ?_
      -- region 9
      refine AW.regionK 0 (fun _ => none) [1, 6, 8, 25, 26, 27, 40, 41, 42] [1, 24] ?_
      simp only [go_sem, reduceIte, reduceCtorEq, Nat.reduceAdd, Nat.reduceMul, Nat.reduceEqDiff, Nat.reduceLT, Nat.reduceLeDiff, Nat.reduceSub, Nat.reducePow, Nat.reduceBEq, Int.reduceToNat, List.reduceReplicate, hlt, ints_len, nats_len]
      repeat with_reducible refine cj ?_ ?_
      all_goals try first | omega
      refine hK13 _ _ _ ?_; clear hK13
      refine AW.block ?_
      -- loop 2
      refine AW.loopE (fun mm ee ss kk => ∃ (j g1 v1 g v : Nat), M.length - j = mm ∧ ee = [(1, .ptr ⟨1, g1, none⟩ 0 0), (6, .sl ⟨24, g, none⟩ 0 n none), (8, .int .i64 (i : Nat)), (25, .rsl 1 (ints (nats O))), (26, .int .i64 n), (27, .int .i64 (k : Nat)), (40, .rsl 1 (ints (nats M))), (41, .int .i64 M.length), (42, .int .i64 (j : Nat))] ∧ ss = [(1, some ⟨g1, v1, 1, [[.rsl 2 (tabR t)]]⟩), (24, some ⟨g, v, 1, ints ((M.take j).foldl (levJ i) U)⟩)] ∧ (j ≤ M.length)) ?_ ?_
      · refine ⟨_, 0, ?_, ?_, ?_, ?_, rfl, ?henv, ?hstore, ?hst⟩
        case henv =>
          repeat' (first | rfl | refine env_cons ?_ ?_ | refine st_cons ?_ ?_ ?_ ?_ | refine int_eq ?_ | refine bool_eq ?_ | refine rsl_eq ?_ | refine osl_eq ?_ | refine sl_eq ?_ ?_ ?_ | refine ptr_eq ?_ ?_ ?_ | refine agg_eq ?_ | refine es_cons ?_ ?_ | refine row_cons ?_ ?_)
          all_goals (first | (simp; done) | omega | (simp; omega))
        case hstore =>
          repeat' (first | rfl | refine env_cons ?_ ?_ | refine st_cons ?_ ?_ ?_ ?_ | refine int_eq ?_ | refine bool_eq ?_ | refine rsl_eq ?_ | refine osl_eq ?_ | refine sl_eq ?_ ?_ ?_ | refine ptr_eq ?_ ?_ ?_ | refine agg_eq ?_ | refine es_cons ?_ ?_ | refine row_cons ?_ ?_)
          all_goals (first | (simp; done) | omega | (simp; omega))
        case hst =>
          first | trivial | omega | (simp; done) | (simp; omega)
      rintro mm ee ss kk ⟨j, g1, v1, g, v, rfl, rfl, rfl, hI⟩
      generalize hQl2 : thenQ _ _ = Ql2
      refine AW.seq fun K14 hK14 => ?_
      -- region 10
      refine AW.regionK 0 (fun _ => none) [1, 6, 8, 25, 26, 27, 40, 41, 42, 43] [1, 24] ?_
      simp only [go_sem, reduceIte, reduceCtorEq, Nat.reduceAdd, Nat.reduceMul, Nat.reduceEqDiff, Nat.reduceLT, Nat.reduceLeDiff, Nat.reduceSub, Nat.reducePow, Nat.reduceBEq, Int.reduceToNat, List.reduceReplicate, hlt]
      repeat with_reducible refine cj ?_ ?_
      all_goals try first | omega
      refine hK14 _ _ _ ?_; clear hK14
      refine AW.seq fun K15 hK15 => ?_
      -- cond 3
      refine AW.cond rfl (by simp only [go_sem, reduceIte, reduceCtorEq, Nat.reduceAdd, Nat.reduceMul, Nat.reduceEqDiff, Nat.reduceLT, Nat.reduceLeDiff, Nat.reduceSub, Nat.reducePow, Nat.reduceBEq, Int.reduceToNat, List.reduceReplicate]) ?_ ?_
      · intro hb
        try simp only [hB, decide_eq_true_eq, decide_eq_false_iff_not] at hb
        obtain ⟨q, hq⟩ := getI (l := M) (j := j) (by omega)
        have hgq : (ints (nats M)).getD j [] = [.int .i64 (q : Nat)] := ints_get (by simp [nats, hq])
        have hqn := hmm q (List.mem_of_getElem? hq)
        have hmt : ∀ x ∈ M.take j, x < U.length ∧ x ≠ i := fun x hx => by have := hmm x (List.mem_of_mem_take hx); omega
        have hvi := levJ_get i (M.take j) U (List.Pairwise.sublist (List.take_sublist _ _) hmn) hmt i
        rw [if_neg (fun h => (hmt i h).2 rfl)] at hvi
        have hvl := levJ_len i (M.take j) U
        have hms : (M.take (j + 1)).foldl (levJ i) U = ((M.take j).foldl (levJ i) U).set q (max (((M.take j).foldl (levJ i) U).getD q 0) (((M.take j).foldl (levJ i) U).getD i 0 + 1)) := by
          obtain ⟨h1, h2⟩ := List.getElem?_eq_some_iff.1 hq
          rw [List.take_succ_eq_append_getElem h1, h2, List.foldl_append]; rfl
        generalize (M.take j).foldl (levJ i) U = V at *
        have hg1 := ints_getD (l := V) (i := q) (by omega)
        have hg2 := ints_getD (l := V) (i := i) (by omega)
        refine AW.skip ?_
        refine hK15 _ _ _ ?_; clear hK15
        refine AW.seq fun K16 hK16 => ?_
        refine AW.block ?_
        refine AW.seq fun K17 hK17 => ?_
        -- region 11
        refine AW.regionK 0 (fun _ => none) [1, 6, 8, 12, 25, 26, 27, 40, 41, 42] [1, 24] ?_
        simp only [go_sem, reduceIte, reduceCtorEq, Nat.reduceAdd, Nat.reduceMul, Nat.reduceEqDiff, Nat.reduceLT, Nat.reduceLeDiff, Nat.reduceSub, Nat.reducePow, Nat.reduceBEq, Int.reduceToNat, List.reduceReplicate, hlt, hgq, ints_len, nats_len]
        repeat with_reducible refine cj ?_ ?_
        all_goals try first | omega
        refine hK17 _ _ _ ?_; clear hK17
        -- region 12
        refine AW.regionD mixed 0 (fun _ => none) [1, 6, 8, 25, 26, 27, 40, 41, 42] [1, 24] ?_
        simp only [go_sem, reduceIte, reduceCtorEq, Nat.reduceAdd, Nat.reduceMul, Nat.reduceEqDiff, Nat.reduceLT, Nat.reduceLeDiff, Nat.reduceSub, Nat.reducePow, Nat.reduceBEq, Int.reduceToNat, List.reduceReplicate, hlt, hg1, hg2, hvl, hul, hmx]
        repeat with_reducible refine cj ?_ ?_
        all_goals try first | omega | exact chk (by kernel_rfl)
        refine hK16 _ _ _ ?_; clear hK16
        -- region 13
        refine AW.regionK 0 (fun _ => none) [1, 6, 8, 25, 26, 27, 40, 41, 42] [1, 24] ?_
        simp only [go_sem, reduceIte, reduceCtorEq, Nat.reduceAdd, Nat.reduceMul, Nat.reduceEqDiff, Nat.reduceLT, Nat.reduceLeDiff, Nat.reduceSub, Nat.reducePow, Nat.reduceBEq, Int.reduceToNat, List.reduceReplicate, hlt]
        repeat with_reducible refine cj ?_ ?_
        all_goals try first | omega
        rw [← hQl2]
        change Exists _
        refine ⟨_, ?hm, j + 1, ?_, ?_, ?_, ?_, rfl, ?henv, ?hstore, ?hst⟩
        case henv =>
          repeat' (first | rfl | refine env_cons ?_ ?_ | refine st_cons ?_ ?_ ?_ ?_ | refine int_eq ?_ | refine bool_eq ?_ | refine rsl_eq ?_ | refine osl_eq ?_ | refine sl_eq ?_ ?_ ?_ | refine ptr_eq ?_ ?_ ?_ | refine agg_eq ?_ | refine es_cons ?_ ?_ | refine row_cons ?_ ?_)
          all_goals (first | (simp; done) | omega | (simp; omega))
        case hstore =>
          repeat' (first | rfl | refine env_cons ?_ ?_ | refine st_cons ?_ ?_ ?_ ?_ | refine int_eq ?_ | refine bool_eq ?_ | refine rsl_eq ?_ | refine osl_eq ?_ | refine sl_eq ?_ ?_ ?_ | refine ptr_eq ?_ ?_ ?_ | refine agg_eq ?_ | refine es_cons ?_ ?_ | refine row_cons ?_ ?_)
          all_goals (rw [hms])
        case hst =>
          first | trivial | omega | (simp; done) | (simp; omega)
        case hm => omega
      · intro hb
        try simp only [hB, decide_eq_true_eq, decide_eq_false_iff_not] at hb
        have hj : j = M.length := by omega
        subst hj
        rw [List.take_of_length_le (Nat.le_refl _), ← hls, ← hfs]
        refine AW.keep [1, 6, 25, 26, 27] [1, 24] ?_
        try simp only [go_sem, reduceIte, reduceCtorEq, Nat.reduceAdd, Nat.reduceMul, Nat.reduceEqDiff, Nat.reduceLT, Nat.reduceLeDiff, Nat.reduceSub, Nat.reducePow, Nat.reduceBEq, Int.reduceToNat, List.reduceReplicate]
        refine AW.exit ?_
        rw [← hQl2]
        refine hK10 _ _ _ ?_; clear hK10
        -- region 14
        refine AW.regionK 0 (fun _ => none) [1, 6, 25, 26, 27] [1, 24] ?_
        simp only [go_sem, reduceIte, reduceCtorEq, Nat.reduceAdd, Nat.reduceMul, Nat.reduceEqDiff, Nat.reduceLT, Nat.reduceLeDiff, Nat.reduceSub, Nat.reducePow, Nat.reduceBEq, Int.reduceToNat, List.reduceReplicate, hlt]
        repeat with_reducible refine cj ?_ ?_
        all_goals try first | omega
        rw [← hQl1]
        change Exists _
        refine ⟨_, ?hm, k + 1, ?_, ?_, ?_, ?_, rfl, ?henv, ?hstore, ?hst⟩
        case henv =>
          repeat' (first | rfl | refine env_cons ?_ ?_ | refine st_cons ?_ ?_ ?_ ?_ | refine int_eq ?_ | refine bool_eq ?_ | refine rsl_eq ?_ | refine osl_eq ?_ | refine sl_eq ?_ ?_ ?_ | refine ptr_eq ?_ ?_ ?_ | refine agg_eq ?_ | refine es_cons ?_ ?_ | refine row_cons ?_ ?_)
          all_goals (first | (simp; done) | omega | (simp; omega))
        case hstore =>
          repeat' (first | rfl | refine env_cons ?_ ?_ | refine st_cons ?_ ?_ ?_ ?_ | refine int_eq ?_ | refine bool_eq ?_ | refine rsl_eq ?_ | refine osl_eq ?_ | refine sl_eq ?_ ?_ ?_ | refine ptr_eq ?_ ?_ ?_ | refine agg_eq ?_ | refine es_cons ?_ ?_ | refine row_cons ?_ ?_)
          all_goals (first | (simp; done) | omega | (simp; omega))
        case hst =>
          first | trivial | omega | (simp; done) | (simp; omega)
        case hm => omega
    · intro hb
      try simp only [hB, decide_eq_true_eq, decide_eq_false_iff_not] at hb
      refine AW.keep [6] [24] ?_
      try simp only [go_sem, reduceIte, reduceCtorEq, Nat.reduceAdd, Nat.reduceMul, Nat.reduceEqDiff, Nat.reduceLT, Nat.reduceLeDiff, Nat.reduceSub, Nat.reducePow, Nat.reduceBEq, Int.reduceToNat, List.reduceReplicate]
      refine AW.exit ?_
      rw [← hQl1]
      refine hK6 _ _ _ ?_; clear hK6
      refine AW.seq fun K18 hK18 => ?_
      -- region 15
      refine AW.regionK 0 (fun _ => none) [2, 3] [24] ?_
      simp only [go_sem, reduceIte, reduceCtorEq, Nat.reduceAdd, Nat.reduceMul, Nat.reduceEqDiff, Nat.reduceLT, Nat.reduceLeDiff, Nat.reduceSub, Nat.reducePow, Nat.reduceBEq, Int.reduceToNat, List.reduceReplicate, hlt]
      repeat with_reducible refine cj ?_ ?_
      all_goals try first | omega
      refine hK18 _ _ _ ?_; clear hK18
      refine AW.ret ?_
      rw [← hQr]
      simp only [go_sem, reduceIte, reduceCtorEq, Nat.reduceAdd, Nat.reduceMul, Nat.reduceEqDiff, Nat.reduceLT, Nat.reduceLeDiff, Nat.reduceSub, Nat.reducePow, Nat.reduceBEq, Int.reduceToNat, List.reduceReplicate, hlt]
      have hk : k = n := by omega
      subst hk
      rw [List.take_of_length_le (by omega : O.length ≤ k), ← hlev, List.take_of_length_le (by rw [(levO_ok hs hpo).len]; exact Nat.le_refl _)]
      exact Wk.refl _
theorem restrict_e (es : List (List AV)) (N : Int) (W : List Int) (h : Reads Tryd.prog 55 false [.agg [.rsl 2 es], .agg [.int .i64 N, .rsl 1 (words W)]] (.bool false)) : Reads Tryd.prog 39 false [.agg [.rsl 2 es], .agg [.int .i64 N, .rsl 1 (words W)]] (.tup [.agg [.rsl 2 []], .int .i64 ((1 : Nat) : Int)]) := by
  refine Reads.body (rs := [.cell 4 24, .tmp 5]) Tryd.func39 rfl Tryd.ntmps39 rfl (by simp) ?_
  generalize hQr : retQ _ _ _ = Qr
  refine AW.seq fun K1 hK1 => ?_
  -- region 0
  refine AW.regionK 0 (fun _ => none) [2, 3, 4] [2, 3, 4] ?_
  simp only [go_sem, reduceIte, reduceCtorEq, Nat.reduceAdd, Nat.reduceMul, Nat.reduceEqDiff, Nat.reduceLT, Nat.reduceLeDiff, Nat.reduceSub, Nat.reducePow, Nat.reduceBEq, Int.reduceToNat, List.reduceReplicate]
  repeat with_reducible refine cj ?_ ?_
  all_goals try first | omega
  refine hK1 _ _ _ ?_; clear hK1
  refine AW.seq fun K2 hK2 => ?_
  refine AW.seq fun K3 hK3 => ?_
  -- region 1
  refine AW.regionK 0 (fun ii => if ii = 2 then some (.reads false (.bool false)) else none) [2, 3, 4, 14] [2, 3, 4] ?_
  simp only [go_sem, reduceIte, reduceCtorEq, Nat.reduceAdd, Nat.reduceMul, Nat.reduceEqDiff, Nat.reduceLT, Nat.reduceLeDiff, Nat.reduceSub, Nat.reducePow, Nat.reduceBEq, Int.reduceToNat, List.reduceReplicate]
  repeat with_reducible refine cj ?_ ?_
  all_goals try first | (exact h) | omega | exact ent (by kernel_rfl)
  refine hK3 _ _ _ ?_; clear hK3
  -- cond 1
  refine AW.cond rfl (by simp only [go_sem, reduceIte, reduceCtorEq, Nat.reduceAdd, Nat.reduceMul, Nat.reduceEqDiff, Nat.reduceLT, Nat.reduceLeDiff, Nat.reduceSub, Nat.reducePow, Nat.reduceBEq, Int.reduceToNat, List.reduceReplicate]) ?_ ?_
  · intro hb
    try simp only [hB, decide_eq_true_eq, decide_eq_false_iff_not] at hb
    refine AW.seq fun K4 hK4 => ?_
    -- region 2
    refine AW.regionK 0 (fun _ => none) [4, 5] [4] ?_
    simp only [go_sem, reduceIte, reduceCtorEq, Nat.reduceAdd, Nat.reduceMul, Nat.reduceEqDiff, Nat.reduceLT, Nat.reduceLeDiff, Nat.reduceSub, Nat.reducePow, Nat.reduceBEq, Int.reduceToNat, List.reduceReplicate]
    repeat with_reducible refine cj ?_ ?_
    all_goals try first | omega
    refine hK4 _ _ _ ?_; clear hK4
    refine AW.ret ?_
    rw [← hQr]
    simp only [go_sem, reduceIte, reduceCtorEq, Nat.reduceAdd, Nat.reduceMul, Nat.reduceEqDiff, Nat.reduceLT, Nat.reduceLeDiff, Nat.reduceSub, Nat.reducePow, Nat.reduceBEq, Int.reduceToNat, List.reduceReplicate]
    exact Wk.tup2 (Wk.agg1 (Wk.nil 2)) (Wk.refl _)
  · intro hb
    try simp only [hB, decide_eq_true_eq, decide_eq_false_iff_not] at hb
    simp at hb
theorem restrict_g (n : Nat) (t : List (List Bool)) (hs : Sq n t) (hn : n ≤ 512) (hp : poB n t = true) (b : List Bool) (hb0 : b.length = n) : Reads Tryd.prog 39 false [relB t, .agg (rowB b)] (.tup [relB (resT t (memB b)), .int .i64 ((0 : Nat) : Int)]) := by
  have h := pmatch_t n t hs hn hp b hb0
  have hm := members_b b (by omega)
  have hlt : (tabR t).length = n := by rw [tabR_len, hs.len]
  have hgr := fun i hi => tabR_get (t := t) (i := i) hi
  have hlen := hs.len
  have hml := memB_le b
  have hmm : ∀ a, a < (memB b).length → (memB b).getD a 0 < n := fun a ha => memB_lt hb0 ha
  have hgm : ∀ a, a < (memB b).length → (ints (nats (memB b))).getD a [] = [.int .i64 ((memB b).getD a 0 : Nat)] := fun a ha => by
    obtain ⟨q, hq⟩ := getI (l := memB b) (j := a) ha
    rw [getD_of hq]
    exact ints_get (by simp [nats, hq])
  have hra := fun a c ha hc => resT_at (t := t) (M := memB b) (a := a) (c := c) ha hc
  have hrs := resT_sq t (memB b)
  have hhas : ∀ a c, a < (memB b).length → c < (memB b).length → Reads Tryd.prog 49 false [.agg (rowB (rowT t ((memB b).getD a 0))), .int .i64 ((memB b).getD c 0 : Nat)] (.bool (atT (resT t (memB b)) a c)) := fun a c ha hc => by
    have h1 := hmm a ha
    have h2 := hmm c hc
    have hr := hs.rowLen h1
    have := rowH_r (rowT t ((memB b).getD a 0)) (by omega) ((memB b).getD c 0 : Nat)
    rw [decide_eq_true (by omega), decide_eq_true (by omega), Int.toNat_natCast] at this
    rw [hra a c ha hc]
    exact this
  have hpl : (pairsT (resT t (memB b)) (memB b).length).length ≤ 262144 := Nat.le_trans (pairsAt_le _ _ _) (Nat.le_trans (Nat.mul_le_mul (by omega : _ ≤ 512) (by omega : _ ≤ 512)) (by decide))
  have hmk := make_g (memB b).length (pairsT (resT t (memB b)) (memB b).length) (by omega) (by omega) pairsT_in
  rw [mk_pairs hrs] at hmk
  have hpd : pairsT (resT t (memB b)) (memB b).length = pairsAt (resT t (memB b)) (memB b).length (memB b).length := rfl
  generalize hR : resT t (memB b) = R at *
  generalize hM : memB b = M at *
  unfold relB rowB at *
  refine Reads.body (rs := [.cell 4 24, .tmp 5]) Tryd.func39 rfl Tryd.ntmps39 rfl (by simp) ?_
  generalize hQr : retQ _ _ _ = Qr
  refine AW.seq fun K1 hK1 => ?_
  -- region 0
  refine AW.regionK 0 (fun _ => none) [2, 3, 4] [2, 3, 4] ?_
  simp only [go_sem, reduceIte, reduceCtorEq, Nat.reduceAdd, Nat.reduceMul, Nat.reduceEqDiff, Nat.reduceLT, Nat.reduceLeDiff, Nat.reduceSub, Nat.reducePow, Nat.reduceBEq, Int.reduceToNat, List.reduceReplicate, hlt, ints_len, nats_len]
  repeat with_reducible refine cj ?_ ?_
  all_goals try first | omega
  refine hK1 _ _ _ ?_; clear hK1
  refine AW.seq fun K2 hK2 => ?_
  refine AW.seq fun K3 hK3 => ?_
  -- region 1
  refine AW.regionK 0 (fun ii => if ii = 2 then some (.reads false (.bool true)) else none) [2, 3, 4, 14] [2, 3, 4] ?_
  simp only [go_sem, reduceIte, reduceCtorEq, Nat.reduceAdd, Nat.reduceMul, Nat.reduceEqDiff, Nat.reduceLT, Nat.reduceLeDiff, Nat.reduceSub, Nat.reducePow, Nat.reduceBEq, Int.reduceToNat, List.reduceReplicate, hlt, ints_len, nats_len]
  repeat with_reducible refine cj ?_ ?_
  all_goals try first | (exact h) | omega | exact ent (by kernel_rfl)
  refine hK3 _ _ _ ?_; clear hK3
  -- cond 1
  refine AW.cond rfl (by simp only [go_sem, reduceIte, reduceCtorEq, Nat.reduceAdd, Nat.reduceMul, Nat.reduceEqDiff, Nat.reduceLT, Nat.reduceLeDiff, Nat.reduceSub, Nat.reducePow, Nat.reduceBEq, Int.reduceToNat, List.reduceReplicate]) ?_ ?_
  · intro hb
    try simp only [hB, decide_eq_true_eq, decide_eq_false_iff_not] at hb
    simp at hb
  · intro hb
    try simp only [hB, decide_eq_true_eq, decide_eq_false_iff_not] at hb
    refine AW.skip ?_
    refine hK2 _ _ _ ?_; clear hK2
    refine AW.seq fun K4 hK4 => ?_
    -- region 3
    refine AW.regionK 0 (fun ii => if ii = 1 then some (.reads false (.tup [.rsl 1 (ints (nats M)), .int .i64 ((0 : Nat) : Int)])) else none) [2, 4, 6] [2, 4] ?_
    simp only [go_sem, reduceIte, reduceCtorEq, Nat.reduceAdd, Nat.reduceMul, Nat.reduceEqDiff, Nat.reduceLT, Nat.reduceLeDiff, Nat.reduceSub, Nat.reducePow, Nat.reduceBEq, Int.reduceToNat, List.reduceReplicate, hlt, ints_len, nats_len]
    repeat with_reducible refine cj ?_ ?_
    all_goals try first | (exact hm) | omega | exact ent (by kernel_rfl)
    refine hK4 _ _ _ ?_; clear hK4
    refine AW.seq fun K5 hK5 => ?_
    -- region 4
    refine AW.regionK 0 (fun _ => none) [2, 4, 6, 8] [2, 4] ?_
    simp only [go_sem, reduceIte, reduceCtorEq, Nat.reduceAdd, Nat.reduceMul, Nat.reduceEqDiff, Nat.reduceLT, Nat.reduceLeDiff, Nat.reduceSub, Nat.reducePow, Nat.reduceBEq, Int.reduceToNat, List.reduceReplicate, hlt, ints_len, nats_len]
    repeat with_reducible refine cj ?_ ?_
    all_goals try first | omega
    refine hK5 _ _ _ ?_; clear hK5
    refine AW.seq fun K6 hK6 => ?_
    refine AW.seq fun K7 hK7 => ?_
    -- region 5
    refine AW.regionK 0 (fun _ => none) [2, 4, 6, 8, 22, 23] [2, 4] ?_
    simp only [go_sem, reduceIte, reduceCtorEq, Nat.reduceAdd, Nat.reduceMul, Nat.reduceEqDiff, Nat.reduceLT, Nat.reduceLeDiff, Nat.reduceSub, Nat.reducePow, Nat.reduceBEq, Int.reduceToNat, List.reduceReplicate, hlt, ints_len, nats_len]
    repeat with_reducible refine cj ?_ ?_
    all_goals try first | omega
    refine hK7 _ _ _ ?_; clear hK7
    refine AW.block ?_
    refine AW.nilOwn 8 200 2 (by simp only [go_sem, reduceIte, Nat.reduceEqDiff]) ?_
    refine AW.keep [2, 4, 6, 8, 22, 23] [2, 4, 200] ?_
    simp only [go_sem, reduceIte, Nat.reduceEqDiff]
    -- loop 1
    refine AW.loopE (fun mm ee ss kk => ∃ (i g2 v2 g4 v4 g v : Nat), M.length - i = mm ∧ ee = [(2, .ptr ⟨2, g2, none⟩ 0 0), (4, .ptr ⟨4, g4, none⟩ 0 0), (6, .rsl 1 (ints (nats M))), (8, .sl ⟨200, g, none⟩ 0 (pairsAt R M.length i).length none), (22, .int .i64 M.length), (23, .int .i64 (i : Nat))] ∧ ss = [(2, some ⟨g2, v2, 1, [[.rsl 2 (tabR t)]]⟩), (4, some ⟨g4, v4, 1, [[.nilsl]]⟩), (200, some ⟨g, v, 2, (pairsAt R M.length i).map pairV⟩)] ∧ (i ≤ M.length)) ?_ ?_
    · refine ⟨_, 0, ?_, ?_, ?_, ?_, ?_, ?_, rfl, ?henv, ?hstore, ?hst⟩
      case henv =>
        repeat' (first | rfl | refine env_cons ?_ ?_ | refine st_cons ?_ ?_ ?_ ?_ | refine int_eq ?_ | refine bool_eq ?_ | refine rsl_eq ?_ | refine osl_eq ?_ | refine sl_eq ?_ ?_ ?_ | refine ptr_eq ?_ ?_ ?_ | refine agg_eq ?_ | refine es_cons ?_ ?_ | refine row_cons ?_ ?_)
        all_goals (first | (simp; done) | omega | (simp; omega))
      case hstore =>
        repeat' (first | rfl | refine env_cons ?_ ?_ | refine st_cons ?_ ?_ ?_ ?_ | refine int_eq ?_ | refine bool_eq ?_ | refine rsl_eq ?_ | refine osl_eq ?_ | refine sl_eq ?_ ?_ ?_ | refine ptr_eq ?_ ?_ ?_ | refine agg_eq ?_ | refine es_cons ?_ ?_ | refine row_cons ?_ ?_)
        all_goals (first | (simp; done) | omega | (simp; omega))
      case hst =>
        first | trivial | omega | (simp; done) | (simp; omega)
    rintro mm ee ss kk ⟨i, g2, v2, g4, v4, g, v, rfl, rfl, rfl, hI⟩
    generalize hQl1 : thenQ _ _ = Ql1
    refine AW.seq fun K8 hK8 => ?_
    -- region 6
    refine AW.regionK 0 (fun _ => none) [2, 4, 6, 8, 22, 23, 24] [2, 4, 200] ?_
    simp only [go_sem, reduceIte, reduceCtorEq, Nat.reduceAdd, Nat.reduceMul, Nat.reduceEqDiff, Nat.reduceLT, Nat.reduceLeDiff, Nat.reduceSub, Nat.reducePow, Nat.reduceBEq, Int.reduceToNat, List.reduceReplicate, hlt, ints_len, nats_len]
    repeat with_reducible refine cj ?_ ?_
    all_goals try first | omega
    refine hK8 _ _ _ ?_; clear hK8
    refine AW.seq fun K9 hK9 => ?_
    -- cond 2
    refine AW.cond rfl (by simp only [go_sem, reduceIte, reduceCtorEq, Nat.reduceAdd, Nat.reduceMul, Nat.reduceEqDiff, Nat.reduceLT, Nat.reduceLeDiff, Nat.reduceSub, Nat.reducePow, Nat.reduceBEq, Int.reduceToNat, List.reduceReplicate]) ?_ ?_
    · intro hb
      try simp only [hB, decide_eq_true_eq, decide_eq_false_iff_not] at hb
      refine AW.skip ?_
      refine hK9 _ _ _ ?_; clear hK9
      refine AW.seq fun K10 hK10 => ?_
      refine AW.block ?_
      refine AW.seq fun K11 hK11 => ?_
      -- region 7
      refine AW.regionK 0 (fun _ => none) [2, 4, 6, 8, 9, 22, 23] [2, 4, 200] ?_
      simp only [go_sem, reduceIte, reduceCtorEq, Nat.reduceAdd, Nat.reduceMul, Nat.reduceEqDiff, Nat.reduceLT, Nat.reduceLeDiff, Nat.reduceSub, Nat.reducePow, Nat.reduceBEq, Int.reduceToNat, List.reduceReplicate, hlt, ints_len, nats_len]
      repeat with_reducible refine cj ?_ ?_
      all_goals try first | omega
      refine hK11 _ _ _ ?_; clear hK11
      refine AW.seq fun K12 hK12 => ?_
      -- region 8
      refine AW.regionK 0 (fun _ => none) [2, 4, 6, 8, 9, 22, 23, 27, 28] [2, 4, 200] ?_
      simp only [go_sem, reduceIte, reduceCtorEq, Nat.reduceAdd, Nat.reduceMul, Nat.reduceEqDiff, Nat.reduceLT, Nat.reduceLeDiff, Nat.reduceSub, Nat.reducePow, Nat.reduceBEq, Int.reduceToNat, List.reduceReplicate, hlt, ints_len, nats_len]
      repeat with_reducible refine cj ?_ ?_
      all_goals try first | omega
      refine hK12 _ _ _ ?_; clear hK12
      refine AW.block ?_
      -- loop 2
      refine AW.loopE (fun mm ee ss kk => ∃ (j g2 v2 g4 v4 g v : Nat), M.length - j = mm ∧ ee = [(2, .ptr ⟨2, g2, none⟩ 0 0), (4, .ptr ⟨4, g4, none⟩ 0 0), (6, .rsl 1 (ints (nats M))), (8, .sl ⟨200, g, none⟩ 0 (pairsAt R M.length i ++ rowPairs R i j).length none), (9, .int .i64 (i : Nat)), (22, .int .i64 M.length), (23, .int .i64 (i : Nat)), (27, .int .i64 M.length), (28, .int .i64 (j : Nat))] ∧ ss = [(2, some ⟨g2, v2, 1, [[.rsl 2 (tabR t)]]⟩), (4, some ⟨g4, v4, 1, [[.nilsl]]⟩), (200, some ⟨g, v, 2, (pairsAt R M.length i ++ rowPairs R i j).map pairV⟩)] ∧ (j ≤ M.length)) ?_ ?_
      · refine ⟨_, 0, ?_, ?_, ?_, ?_, ?_, ?_, rfl, ?henv, ?hstore, ?hst⟩
        case henv =>
          repeat' (first | rfl | refine env_cons ?_ ?_ | refine st_cons ?_ ?_ ?_ ?_ | refine int_eq ?_ | refine bool_eq ?_ | refine rsl_eq ?_ | refine osl_eq ?_ | refine sl_eq ?_ ?_ ?_ | refine ptr_eq ?_ ?_ ?_ | refine agg_eq ?_ | refine es_cons ?_ ?_ | refine row_cons ?_ ?_)
          all_goals (simp [rowPairs])
        case hstore =>
          repeat' (first | rfl | refine env_cons ?_ ?_ | refine st_cons ?_ ?_ ?_ ?_ | refine int_eq ?_ | refine bool_eq ?_ | refine rsl_eq ?_ | refine osl_eq ?_ | refine sl_eq ?_ ?_ ?_ | refine ptr_eq ?_ ?_ ?_ | refine agg_eq ?_ | refine es_cons ?_ ?_ | refine row_cons ?_ ?_)
          all_goals (simp [rowPairs])
        case hst =>
          first | trivial | omega | (simp; done) | (simp; omega)
      rintro mm ee ss kk ⟨j, g2, v2, g4, v4, g, v, rfl, rfl, rfl, hI⟩
      generalize hQl2 : thenQ _ _ = Ql2
      refine AW.seq fun K13 hK13 => ?_
      -- region 9
      refine AW.regionK 0 (fun _ => none) [2, 4, 6, 8, 9, 22, 23, 27, 28, 29] [2, 4, 200] ?_
      simp only [go_sem, reduceIte, reduceCtorEq, Nat.reduceAdd, Nat.reduceMul, Nat.reduceEqDiff, Nat.reduceLT, Nat.reduceLeDiff, Nat.reduceSub, Nat.reducePow, Nat.reduceBEq, Int.reduceToNat, List.reduceReplicate, hlt, ints_len, nats_len]
      repeat with_reducible refine cj ?_ ?_
      all_goals try first | omega
      refine hK13 _ _ _ ?_; clear hK13
      refine AW.seq fun K14 hK14 => ?_
      -- cond 3
      refine AW.cond rfl (by simp only [go_sem, reduceIte, reduceCtorEq, Nat.reduceAdd, Nat.reduceMul, Nat.reduceEqDiff, Nat.reduceLT, Nat.reduceLeDiff, Nat.reduceSub, Nat.reducePow, Nat.reduceBEq, Int.reduceToNat, List.reduceReplicate]) ?_ ?_
      · intro hb
        try simp only [hB, decide_eq_true_eq, decide_eq_false_iff_not] at hb
        have hhr := hhas i j (by omega) (by omega)
        have hgi := hgm i (by omega)
        have hgj := hgm j (by omega)
        have hmi := hmm i (by omega)
        have hgt := hgr (M.getD i 0) (by omega)
        have hps := rowPairs_succ R i j
        have hpl2 := pairsAt_le R M.length i
        have hrl := rowPairs_le R i j
        have hmul : M.length * i ≤ 262144 := Nat.le_trans (Nat.mul_le_mul (by omega : M.length ≤ 512) (by omega : i ≤ 512)) (by decide)
        have hll : (pairsAt R M.length i ++ rowPairs R i j).length ≤ 300000 := by rw [List.length_append]; omega
        have hml2 : ((pairsAt R M.length i ++ rowPairs R i j).map pairV).length = (pairsAt R M.length i ++ rowPairs R i j).length := by simp
        have htk : ((pairsAt R M.length i ++ rowPairs R i j).map pairV).take (pairsAt R M.length i ++ rowPairs R i j).length = (pairsAt R M.length i ++ rowPairs R i j).map pairV := List.take_of_length_le (by simp)
        generalize hL : pairsAt R M.length i ++ rowPairs R i j = L at *
        refine AW.skip ?_
        refine hK14 _ _ _ ?_; clear hK14
        refine AW.seq fun K15 hK15 => ?_
        refine AW.block ?_
        refine AW.seq fun K16 hK16 => ?_
        -- region 10
        refine AW.regionK 0 (fun _ => none) [2, 4, 6, 8, 9, 10, 22, 23, 27, 28] [2, 4, 200] ?_
        simp only [go_sem, reduceIte, reduceCtorEq, Nat.reduceAdd, Nat.reduceMul, Nat.reduceEqDiff, Nat.reduceLT, Nat.reduceLeDiff, Nat.reduceSub, Nat.reducePow, Nat.reduceBEq, Int.reduceToNat, List.reduceReplicate, hlt, ints_len, nats_len]
        repeat with_reducible refine cj ?_ ?_
        all_goals try first | omega
        refine hK16 _ _ _ ?_; clear hK16
        refine AW.seq fun K17 hK17 => ?_
        -- region 11
        refine AW.regionD mixed 0 (fun ii => if ii = 12 then some (.reads false (.bool (atT R i j))) else none) [2, 4, 6, 8, 9, 10, 22, 23, 27, 28, 43] [2, 4, 200] ?_
        simp only [go_sem, reduceIte, reduceCtorEq, Nat.reduceAdd, Nat.reduceMul, Nat.reduceEqDiff, Nat.reduceLT, Nat.reduceLeDiff, Nat.reduceSub, Nat.reducePow, Nat.reduceBEq, Int.reduceToNat, List.reduceReplicate, hlt, ints_len, nats_len, hgi, hgj, hgt]
        repeat with_reducible refine cj ?_ ?_
        all_goals try first | (first | exact hhr | exact ⟨rfl, hhr⟩) | omega | exact chk (by kernel_rfl) | exact ent (by kernel_rfl)
        refine hK17 _ _ _ ?_; clear hK17
        -- cond 4
        refine AW.cond rfl (by simp only [go_sem, reduceIte, reduceCtorEq, Nat.reduceAdd, Nat.reduceMul, Nat.reduceEqDiff, Nat.reduceLT, Nat.reduceLeDiff, Nat.reduceSub, Nat.reducePow, Nat.reduceBEq, Int.reduceToNat, List.reduceReplicate]) ?_ ?_
        · intro hb
          try simp only [hB, decide_eq_true_eq, decide_eq_false_iff_not] at hb
          rw [if_pos hb] at hps
          have hLs : pairsAt R M.length i ++ rowPairs R i (j + 1) = L ++ [((i : Int), (j : Int))] := by rw [hps, ← List.append_assoc, hL]
          -- region 12
          refine AW.regionK 0 (fun _ => none) [2, 4, 6, 8, 9, 22, 23, 27, 28] [2, 4, 200] ?_
          simp only [go_sem, reduceIte, reduceCtorEq, Nat.reduceAdd, Nat.reduceMul, Nat.reduceEqDiff, Nat.reduceLT, Nat.reduceLeDiff, Nat.reduceSub, Nat.reducePow, Nat.reduceBEq, Int.reduceToNat, List.reduceReplicate, hlt, ints_len, nats_len, htk, hml2, pairs_app]
          repeat with_reducible refine cj ?_ ?_
          all_goals try first | omega | (simp [scP, scalar]; done) | exact scP_words _ | exact scP_ints _ | exact scP_bools _
          refine hK15 _ _ _ ?_; clear hK15
          -- region 13
          refine AW.regionK 0 (fun _ => none) [2, 4, 6, 8, 9, 22, 23, 27, 28] [2, 4, 200] ?_
          simp only [go_sem, reduceIte, reduceCtorEq, Nat.reduceAdd, Nat.reduceMul, Nat.reduceEqDiff, Nat.reduceLT, Nat.reduceLeDiff, Nat.reduceSub, Nat.reducePow, Nat.reduceBEq, Int.reduceToNat, List.reduceReplicate, hlt, ints_len, nats_len]
          repeat with_reducible refine cj ?_ ?_
          all_goals try first | omega
          rw [← hQl2]
          change Exists _
          refine ⟨_, ?hm, j + 1, ?_, ?_, ?_, ?_, ?_, ?_, rfl, ?henv, ?hstore, ?hst⟩
          case henv =>
            repeat' (first | rfl | refine env_cons ?_ ?_ | refine st_cons ?_ ?_ ?_ ?_ | refine int_eq ?_ | refine bool_eq ?_ | refine rsl_eq ?_ | refine osl_eq ?_ | refine sl_eq ?_ ?_ ?_ | refine ptr_eq ?_ ?_ ?_ | refine agg_eq ?_ | refine es_cons ?_ ?_ | refine row_cons ?_ ?_)
            all_goals (rw [hLs]; try simp)
          case hstore =>
            repeat' (first | rfl | refine env_cons ?_ ?_ | refine st_cons ?_ ?_ ?_ ?_ | refine int_eq ?_ | refine bool_eq ?_ | refine rsl_eq ?_ | refine osl_eq ?_ | refine sl_eq ?_ ?_ ?_ | refine ptr_eq ?_ ?_ ?_ | refine agg_eq ?_ | refine es_cons ?_ ?_ | refine row_cons ?_ ?_)
            all_goals (rw [hLs])
          case hst =>
            first | trivial | omega | (simp; done) | (simp; omega)
          case hm => omega
        · intro hb
          try simp only [hB, decide_eq_true_eq, decide_eq_false_iff_not] at hb
          rw [if_neg (by rw [hb]; simp)] at hps
          have hLs : pairsAt R M.length i ++ rowPairs R i (j + 1) = L := by rw [hps, hL]
          refine AW.skip ?_
          refine hK15 _ _ _ ?_; clear hK15
          -- region 13
          refine AW.regionK 0 (fun _ => none) [2, 4, 6, 8, 9, 22, 23, 27, 28] [2, 4, 200] ?_
          simp only [go_sem, reduceIte, reduceCtorEq, Nat.reduceAdd, Nat.reduceMul, Nat.reduceEqDiff, Nat.reduceLT, Nat.reduceLeDiff, Nat.reduceSub, Nat.reducePow, Nat.reduceBEq, Int.reduceToNat, List.reduceReplicate, hlt, ints_len, nats_len]
          repeat with_reducible refine cj ?_ ?_
          all_goals try first | omega
          rw [← hQl2]
          change Exists _
          refine ⟨_, ?hm, j + 1, ?_, ?_, ?_, ?_, ?_, ?_, rfl, ?henv, ?hstore, ?hst⟩
          case henv =>
            repeat' (first | rfl | refine env_cons ?_ ?_ | refine st_cons ?_ ?_ ?_ ?_ | refine int_eq ?_ | refine bool_eq ?_ | refine rsl_eq ?_ | refine osl_eq ?_ | refine sl_eq ?_ ?_ ?_ | refine ptr_eq ?_ ?_ ?_ | refine agg_eq ?_ | refine es_cons ?_ ?_ | refine row_cons ?_ ?_)
            all_goals (rw [hLs]; try simp)
          case hstore =>
            repeat' (first | rfl | refine env_cons ?_ ?_ | refine st_cons ?_ ?_ ?_ ?_ | refine int_eq ?_ | refine bool_eq ?_ | refine rsl_eq ?_ | refine osl_eq ?_ | refine sl_eq ?_ ?_ ?_ | refine ptr_eq ?_ ?_ ?_ | refine agg_eq ?_ | refine es_cons ?_ ?_ | refine row_cons ?_ ?_)
            all_goals (rw [hLs])
          case hst =>
            first | trivial | omega | (simp; done) | (simp; omega)
          case hm => omega
      · intro hb
        try simp only [hB, decide_eq_true_eq, decide_eq_false_iff_not] at hb
        have hj : j = M.length := by omega
        subst hj
        have hps := pairsAt_succ R M.length i
        refine AW.exit ?_
        rw [← hQl2]
        refine hK10 _ _ _ ?_; clear hK10
        -- region 14
        refine AW.regionK 0 (fun _ => none) [2, 4, 6, 8, 22, 23] [2, 4, 200] ?_
        simp only [go_sem, reduceIte, reduceCtorEq, Nat.reduceAdd, Nat.reduceMul, Nat.reduceEqDiff, Nat.reduceLT, Nat.reduceLeDiff, Nat.reduceSub, Nat.reducePow, Nat.reduceBEq, Int.reduceToNat, List.reduceReplicate, hlt, ints_len, nats_len]
        repeat with_reducible refine cj ?_ ?_
        all_goals try first | omega
        rw [← hQl1]
        change Exists _
        refine ⟨_, ?hm, i + 1, ?_, ?_, ?_, ?_, ?_, ?_, rfl, ?henv, ?hstore, ?hst⟩
        case henv =>
          repeat' (first | rfl | refine env_cons ?_ ?_ | refine st_cons ?_ ?_ ?_ ?_ | refine int_eq ?_ | refine bool_eq ?_ | refine rsl_eq ?_ | refine osl_eq ?_ | refine sl_eq ?_ ?_ ?_ | refine ptr_eq ?_ ?_ ?_ | refine agg_eq ?_ | refine es_cons ?_ ?_ | refine row_cons ?_ ?_)
          all_goals (rw [hps])
        case hstore =>
          repeat' (first | rfl | refine env_cons ?_ ?_ | refine st_cons ?_ ?_ ?_ ?_ | refine int_eq ?_ | refine bool_eq ?_ | refine rsl_eq ?_ | refine osl_eq ?_ | refine sl_eq ?_ ?_ ?_ | refine ptr_eq ?_ ?_ ?_ | refine agg_eq ?_ | refine es_cons ?_ ?_ | refine row_cons ?_ ?_)
          all_goals (rw [hps])
        case hst =>
          first | trivial | omega | (simp; done) | (simp; omega)
        case hm => omega
    · intro hb
      try simp only [hB, decide_eq_true_eq, decide_eq_false_iff_not] at hb
      have hi : i = M.length := by omega
      subst hi
      rw [← hpd]
      have htk2 : (List.map pairV (pairsT R M.length)).take (pairsT R M.length).length = List.map pairV (pairsT R M.length) := List.take_of_length_le (by simp)
      refine AW.freezeK [200] [8] [4, 6] [4] ?_
      simp only [go_sem, reduceIte, Nat.reduceEqDiff, vwc_pairs, htk2]
      refine AW.exit ?_
      rw [← hQl1]
      refine hK6 _ _ _ ?_; clear hK6
      refine AW.seq fun K18 hK18 => ?_
      -- region 15
      refine AW.regionK 0 (fun ii => if ii = 3 then some (.reads false (.tup [.agg [.rsl 2 (tabR R)], .int .i64 ((0 : Nat) : Int)])) else none) [4, 5] [4] ?_
      simp only [go_sem, reduceIte, reduceCtorEq, Nat.reduceAdd, Nat.reduceMul, Nat.reduceEqDiff, Nat.reduceLT, Nat.reduceLeDiff, Nat.reduceSub, Nat.reducePow, Nat.reduceBEq, Int.reduceToNat, List.reduceReplicate, hlt, ints_len, nats_len]
      repeat with_reducible refine cj ?_ ?_
      all_goals try first | (exact hmk) | omega | exact ent (by kernel_rfl)
      refine hK18 _ _ _ ?_; clear hK18
      refine AW.ret ?_
      rw [← hQr]
      simp only [go_sem, reduceIte, reduceCtorEq, Nat.reduceAdd, Nat.reduceMul, Nat.reduceEqDiff, Nat.reduceLT, Nat.reduceLeDiff, Nat.reduceSub, Nat.reducePow, Nat.reduceBEq, Int.reduceToNat, List.reduceReplicate, hlt, ints_len, nats_len]
      exact Wk.refl _
end Go.Proofs.P

/- A set is valid exactly if no bit behind its numbers is set. -/
namespace Go.AM
theorem validS_bits {N : Int} {W : List Int} (hW : okW W) (h0 : 0 ≤ N) (h1 : N ≤ 512) (hl : (W.length : Int) = wordsN N) (hb : ∀ i : Nat, N ≤ i → i < 64 * W.length → hasW W i = false) : validS N W = true := by
  have e : W = setW (setR N.toNat fun i => hasW W (i : Int)) (setR N.toNat fun i => hasW W (i : Int)).length := by
    have hn : ((setR N.toNat fun i => hasW W (i : Int)).length : Int) = N := by rw [setR_len]; omega
    have hlen : (setW (setR N.toNat fun i => hasW W (i : Int)) (setR N.toNat fun i => hasW W (i : Int)).length).length = W.length := by rw [setW_len', hn]; omega
    refine words_ext hW (setW_ok _) hlen.symm fun i hi => ?_
    rw [hasW_setW _ (by rw [hlen]; omega)]
    by_cases h : (i : Int) < N
    · rw [setR_get (by omega)]
    · rw [hb i (by omega) hi, Go.AM.getD_out (by rw [setR_len]; omega)]
  have hv := validS_setW (b := setR N.toNat fun i => hasW W (i : Int)) (by rw [setR_len]; omega)
  rw [← e] at hv
  rw [show N = ((setR N.toNat fun i => hasW W (i : Int)).length : Int) by rw [setR_len]; omega]
  exact hv
theorem validS_bit {N : Int} {W : List Int} (hW : okW W) (hv : validS N W = true) {i : Nat} (hi : N ≤ i) (hlt : i < 64 * W.length) : hasW W i = false := by
  obtain ⟨b, h1, h2⟩ := setW_of hW hv
  rw [h2, hasW_setW b (by rw [← h2]; omega)]
  rw [Go.AM.getD_out (by omega)]
end Go.AM

