/- Lemmas and contracts, part 3: an abstract machine over the model, and the functions that the statement reaches. -/
import Derived.Test.YtadfdoalifmkhaaMatchingBergeP2
import Derived.Test.YtadfdoalifmkhaaProg
import Derived.KernelRfl
set_option linter.unusedVariables false
set_option linter.unusedSimpArgs false
/- Sets as words. -/
namespace Go.AM
/-- A bit is set. -/
def setBit (W : List Int) (i : Int) : List Int := W.set (i.tdiv 64).toNat (bOr .u64 (W.getD (i.tdiv 64).toNat 0) (bShl .u64 1 (i.tmod 64)))
def wordsN (n : Int) : Int := (n + 64 - 1).tdiv 64
def ofW (n : Int) (l : List Int) : List Int := l.foldl setBit (List.replicate (wordsN n).toNat 0)
theorem wordsN_rng {n : Int} (h0 : 0 ≤ n) : 0 ≤ wordsN n ∧ n ≤ 64 * wordsN n ∧ 64 * wordsN n ≤ n + 63 := by
  unfold wordsN; rw [Int.tdiv_eq_ediv_of_nonneg (by omega)]; omega
theorem div64_rng {i n : Int} (h0 : 0 ≤ i) (h1 : i < n) : 0 ≤ i.tdiv 64 ∧ i.tdiv 64 < wordsN n ∧ 0 ≤ i.tmod 64 ∧ i.tmod 64 < 64 := by
  have := wordsN_rng (n := n) (by omega)
  rw [Int.tdiv_eq_ediv_of_nonneg h0, Int.tmod_eq_emod_of_nonneg h0]; omega
theorem ofW_len (n : Int) (l : List Int) : (ofW n l).length = (wordsN n).toNat := by
  unfold ofW
  generalize hW : List.replicate (wordsN n).toNat (0 : Int) = W
  have : W.length = (wordsN n).toNat := by rw [← hW]; simp
  clear hW
  induction l generalizing W with
  | nil => exact this
  | cons a l ih => exact ih (setBit W a) (by simp [setBit, this])
theorem ofW_succ {n : Int} {l : List Int} {j : Nat} {x : Int} (h : l[j]? = some x) : ofW n (l.take (j + 1)) = setBit (ofW n (l.take j)) x := by
  obtain ⟨hj, rfl⟩ := List.getElem?_eq_some_iff.1 h
  unfold ofW
  rw [List.take_succ_eq_append_getElem hj, List.foldl_append]; rfl
def setW (l : List Bool) (j : Nat) : List Int := (List.range j).foldl (fun W i => if l.getD i false = true then setBit W (i : Int) else W) (List.replicate (wordsN l.length).toNat 0)
theorem setW_succ (l : List Bool) (j : Nat) : setW l (j + 1) = if l.getD j false = true then setBit (setW l j) (j : Int) else setW l j := by
  unfold setW; rw [List.range_succ, List.foldl_append]; rfl
theorem setW_len (l : List Bool) (j : Nat) : (setW l j).length = (wordsN l.length).toNat := by
  induction j with
  | zero => simp [setW]
  | succ j ih => rw [setW_succ]; split <;> simp [setBit, ih]
def hasW (W : List Int) (i : Int) : Bool := decide ((bShr .u64 (W.getD (i.tdiv 64).toNat 0) (i.tmod 64)).tmod 2 = 1)
def okW (W : List Int) : Prop := ∀ i, 0 ≤ W.getD i 0 ∧ W.getD i 0 < 18446744073709551616
theorem bShr_nat {w k : Nat} (hk : k < 64) : bShr .u64 (w : Int) (k : Int) = ((w >>> k : Nat) : Int) := by
  unfold bShr
  have : min (k : Int).toNat IntKind.u64.bits = k := by simp [IntKind.bits]; omega
  rw [this, Nat.shiftRight_eq_div_pow, Int.fdiv_eq_ediv_of_nonneg _ (by exact_mod_cast Nat.zero_le _)]
  norm_cast
theorem hasW_bit {W : List Int} {i : Int} (h0 : 0 ≤ i) (hW : 0 ≤ W.getD (i.tdiv 64).toNat 0) : hasW W i = (W.getD (i.tdiv 64).toNat 0).toNat.testBit (i.toNat % 64) := by
  unfold hasW
  obtain ⟨w, hw⟩ : ∃ w : Nat, W.getD (i.tdiv 64).toNat 0 = w := ⟨_, (Int.toNat_of_nonneg hW).symm⟩
  obtain ⟨m, rfl⟩ : ∃ m : Nat, i = m := ⟨_, (Int.toNat_of_nonneg h0).symm⟩
  have e : (m : Int).tmod 64 = ((m % 64 : Nat) : Int) := by rw [Int.tmod_eq_emod_of_nonneg (by omega)]; rfl
  rw [hw, e, bShr_nat (by omega), Int.toNat_natCast, Int.toNat_natCast, Nat.testBit_eq_decide_div_mod_eq, Nat.shiftRight_eq_div_pow]
  generalize w / 2 ^ (m % 64) = d
  rw [Int.tmod_eq_emod_of_nonneg (by omega)]
  congr 1
  apply propext
  omega
theorem bOr_nat {a b : Nat} (ha : a < 18446744073709551616) (hb : b < 18446744073709551616) : bOr .u64 (a : Int) (b : Int) = ((a ||| b : Nat) : Int) := by
  unfold bOr
  have e : (BitVec.ofInt IntKind.u64.bits (a : Int) ||| BitVec.ofInt IntKind.u64.bits (b : Int)).toNat = a ||| b := by
    show (BitVec.ofInt 64 (a : Int) ||| BitVec.ofInt 64 (b : Int) : BitVec 64).toNat = _
    rw [BitVec.toNat_or, BitVec.ofInt_natCast, BitVec.ofInt_natCast, BitVec.toNat_ofNat, BitVec.toNat_ofNat, Nat.mod_eq_of_lt (by omega), Nat.mod_eq_of_lt (by omega)]
  rw [e]
  have : a ||| b < 2 ^ 64 := Nat.or_lt_two_pow (by omega) (by omega)
  simp [IntKind.wrap, IntKind.signed, IntKind.bits]
  omega
theorem bShl_nat {k : Nat} (hk : k < 64) : bShl .u64 1 (k : Int) = ((2 ^ k : Nat) : Int) := by
  unfold bShl
  have : min (k : Int).toNat IntKind.u64.bits = k := by simp [IntKind.bits]; omega
  rw [this]
  have h : (2 : Nat) ^ k < 2 ^ 64 := Nat.pow_lt_pow_right (by decide) hk
  have h2 : (1 : Int) * 2 ^ k = ((2 ^ k : Nat) : Int) := by rw [Int.one_mul]; norm_cast
  rw [h2]
  generalize 2 ^ k = p at h ⊢
  have h3 : p < 18446744073709551616 := by simpa using h
  simp [IntKind.wrap, IntKind.signed, IntKind.bits]
  omega
theorem okW.set {W : List Int} (h : okW W) {i : Int} (h0 : 0 ≤ i) : okW (setBit W i) ∧ ∀ j : Int, 0 ≤ j → (j.tdiv 64).toNat < W.length → hasW (setBit W i) j = (decide (i = j) || hasW W j) := by
  have hq : (i.tmod 64) = ((i.toNat % 64 : Nat) : Int) := by rw [Int.tmod_eq_emod_of_nonneg h0]; omega
  generalize hk : (i.tdiv 64).toNat = k
  obtain ⟨w, hw⟩ : ∃ w : Nat, W.getD k 0 = w := ⟨_, (Int.toNat_of_nonneg (h k).1).symm⟩
  have hw2 : w < 18446744073709551616 := by have := (h k).2; omega
  have hp : 2 ^ (i.toNat % 64) < 18446744073709551616 := by
    have : (2 : Nat) ^ (i.toNat % 64) < 2 ^ 64 := Nat.pow_lt_pow_right (by decide) (Nat.mod_lt _ (by decide))
    simpa using this
  have hv : bOr .u64 (W.getD k 0) (bShl .u64 1 (i.tmod 64)) = ((w ||| 2 ^ (i.toNat % 64) : Nat) : Int) := by
    rw [hq, hw, bShl_nat (Nat.mod_lt _ (by decide)), bOr_nat hw2 hp]
  have hor : w ||| 2 ^ (i.toNat % 64) < 18446744073709551616 := by
    have : w ||| 2 ^ (i.toNat % 64) < 2 ^ 64 := Nat.or_lt_two_pow (by omega) (by omega)
    simpa using this
  have hs : setBit W i = W.set k ((w ||| 2 ^ (i.toNat % 64) : Nat) : Int) := by unfold setBit; rw [hk, hv]
  have hok : okW (setBit W i) := by
    intro j
    rw [hs]
    by_cases hj : j = k ∧ k < W.length
    · rw [hj.1, List.getD_eq_getElem?_getD, List.getElem?_set_self hj.2]; simp; omega
    · have : (W.set k ((w ||| 2 ^ (i.toNat % 64) : Nat) : Int)).getD j 0 = W.getD j 0 := by
        rw [List.getD_eq_getElem?_getD, List.getD_eq_getElem?_getD]
        by_cases hjk : k = j
        · subst hjk
          rw [List.getElem?_eq_none (by simp; omega), List.getElem?_eq_none (by omega)]
        · rw [List.getElem?_set_ne hjk]
      rw [this]; exact h j
  refine ⟨hok, fun j hj hl => ?_⟩
  rw [hasW_bit hj (hok _).1, hasW_bit hj (h _).1]
  rw [hs]
  have hjq : (j.tdiv 64).toNat = j.toNat / 64 := by rw [Int.tdiv_eq_ediv_of_nonneg hj]; omega
  have hiq : k = i.toNat / 64 := by rw [← hk, Int.tdiv_eq_ediv_of_nonneg h0]; omega
  rw [hjq] at hl ⊢
  by_cases hjk : j.toNat / 64 = k
  · rw [hjk] at hl ⊢
    rw [List.getD_eq_getElem?_getD, List.getElem?_set_self hl, Option.getD_some, Int.toNat_natCast, Nat.testBit_or, Nat.testBit_two_pow, hw, Int.toNat_natCast, Bool.or_comm]
    congr 1
    by_cases e : i = j
    · subst e; simp
    · have : i.toNat % 64 ≠ j.toNat % 64 := by omega
      simp [e, this]
  · rw [List.getD_eq_getElem?_getD, List.getElem?_set_ne (fun e => hjk e.symm), ← List.getD_eq_getElem?_getD]
    have e : i ≠ j := by rintro rfl; exact hjk hiq.symm
    simp [e]
theorem okW_zero (n : Nat) : okW (List.replicate n 0) := fun i => by
  rw [List.getD_eq_getElem?_getD, List.getElem?_replicate]; split <;> simp
theorem setW_has (b : List Bool) : ∀ j, j ≤ b.length → okW (setW b j) ∧ ∀ i : Nat, i < b.length → hasW (setW b j) i = (decide (i < j) && b.getD i false)
  | 0, _ => ⟨by unfold setW; exact okW_zero _, fun i hi => by
      have : hasW (List.replicate (wordsN b.length).toNat 0) i = false := by
        rw [hasW_bit (by omega) (okW_zero _ _).1]
        have : (List.replicate (wordsN b.length).toNat (0 : Int)).getD ((i : Int).tdiv 64).toNat 0 = 0 := by
          rw [List.getD_eq_getElem?_getD, List.getElem?_replicate]; split <;> rfl
        rw [this]; simp
      simpa [setW] using this⟩
  | j + 1, hj => by
    obtain ⟨h1, h2⟩ := setW_has b j (by omega)
    rw [setW_succ]
    by_cases hb : b.getD j false = true
    · rw [if_pos hb]
      obtain ⟨h3, h4⟩ := h1.set (i := (j : Int)) (by omega)
      refine ⟨h3, fun i hi => ?_⟩
      rw [h4 i (by omega) (by rw [setW_len]; have := div64_rng (i := (i : Int)) (n := b.length) (by omega) (by omega); omega), h2 i hi]
      by_cases e : j = i
      · subst e; rw [hb]; simp
      · have : ((j : Int) = (i : Int)) = False := by simp; omega
        simp only [this, decide_false, Bool.false_or]
        congr 1
        simp; omega
    · rw [if_neg hb]
      refine ⟨h1, fun i hi => ?_⟩
      rw [h2 i hi]
      by_cases e : j = i
      · subst e
        have : b.getD j false = false := by simpa using hb
        rw [this]; simp
      · congr 1
        simp; omega
theorem setW_mem {b : List Bool} {i : Int} (h0 : 0 ≤ i) (h1 : i < b.length) : hasW (setW b b.length) i = b.getD i.toNat false := by
  obtain ⟨m, rfl⟩ : ∃ m : Nat, i = m := ⟨_, (Int.toNat_of_nonneg h0).symm⟩
  rw [(setW_has b b.length (Nat.le_refl _)).2 m (by omega)]
  have : m < b.length := by omega
  simp [this]
theorem bAnd_nat {a b : Nat} (ha : a < 18446744073709551616) (hb : b < 18446744073709551616) : bAnd .u64 (a : Int) (b : Int) = ((a &&& b : Nat) : Int) := by
  unfold bAnd
  have e : (BitVec.ofInt IntKind.u64.bits (a : Int) &&& BitVec.ofInt IntKind.u64.bits (b : Int)).toNat = a &&& b := by
    show (BitVec.ofInt 64 (a : Int) &&& BitVec.ofInt 64 (b : Int) : BitVec 64).toNat = _
    rw [BitVec.toNat_and, BitVec.ofInt_natCast, BitVec.ofInt_natCast, BitVec.toNat_ofNat, BitVec.toNat_ofNat, Nat.mod_eq_of_lt (by omega), Nat.mod_eq_of_lt (by omega)]
  rw [e]
  have : a &&& b < 2 ^ 64 := Nat.and_lt_two_pow _ (by omega)
  simp [IntKind.wrap, IntKind.signed, IntKind.bits]
  omega
theorem setW_hasA (b : List Bool) : ∀ j, j ≤ b.length → okW (setW b j) ∧ ∀ i : Nat, ((i : Int).tdiv 64).toNat < (wordsN b.length).toNat → hasW (setW b j) i = (decide (i < j) && b.getD i false)
  | 0, _ => ⟨by unfold setW; exact okW_zero _, fun i hi => by
      have : hasW (List.replicate (wordsN b.length).toNat 0) i = false := by
        rw [hasW_bit (by omega) (okW_zero _ _).1]
        have : (List.replicate (wordsN b.length).toNat (0 : Int)).getD ((i : Int).tdiv 64).toNat 0 = 0 := by
          rw [List.getD_eq_getElem?_getD, List.getElem?_replicate]; split <;> rfl
        rw [this]; simp
      simpa [setW] using this⟩
  | j + 1, hj => by
    obtain ⟨h1, h2⟩ := setW_hasA b j (by omega)
    rw [setW_succ]
    by_cases hb : b.getD j false = true
    · rw [if_pos hb]
      obtain ⟨h3, h4⟩ := h1.set (i := (j : Int)) (by omega)
      refine ⟨h3, fun i hi => ?_⟩
      rw [h4 i (by omega) (by rw [setW_len]; exact hi), h2 i hi]
      by_cases e : j = i
      · subst e; rw [hb]; simp
      · have : ((j : Int) = (i : Int)) = False := by simp; omega
        simp only [this, decide_false, Bool.false_or]
        congr 1
        simp; omega
    · rw [if_neg hb]
      refine ⟨h1, fun i hi => ?_⟩
      rw [h2 i hi]
      by_cases e : j = i
      · subst e
        have : b.getD j false = false := by simpa using hb
        rw [this]; simp
      · congr 1
        simp; omega
def topB (N : Int) (W : List Int) : Bool := decide (N.tmod 64 = 0) || decide (bShr .u64 (W.getD (W.length - 1) 0) (N.tmod 64) = 0)
def validS (N : Int) (W : List Int) : Bool := decide (0 ≤ N) && decide (N ≤ 512) && decide ((W.length : Int) = wordsN N) && topB N W
theorem validS_sz {N : Int} {W : List Int} (h : validS N W = true) : 0 ≤ N ∧ N ≤ 512 ∧ (W.length : Int) = wordsN N := by
  simp only [validS, Bool.and_eq_true, decide_eq_true_eq] at h; exact ⟨h.1.1.1, h.1.1.2, h.1.2⟩
theorem wordsN_ref (N : Int) : (N + 63).tdiv 64 = wordsN N := by unfold wordsN; congr 1; omega
theorem top_ix {N : Int} {W : List Int} (h0 : 0 ≤ N) (hl : (W.length : Int) = wordsN N) (hm : N.tmod 64 ≠ 0) : (N.tdiv 64).toNat = W.length - 1 ∧ N.tdiv 64 < W.length := by
  unfold wordsN at hl
  rw [Int.tdiv_eq_ediv_of_nonneg (by omega)] at hl ⊢
  rw [Int.tmod_eq_emod_of_nonneg h0] at hm
  omega
theorem shr_zero {w k : Nat} (h : ∀ i, k ≤ i → w.testBit i = false) : w >>> k = 0 := by
  refine Nat.eq_of_testBit_eq fun i => ?_
  rw [Nat.testBit_shiftRight, Nat.zero_testBit]
  exact h _ (by omega)
theorem validS_setW {b : List Bool} (hb : b.length ≤ 512) : validS b.length (setW b b.length) = true := by
  obtain ⟨ho, hh⟩ := setW_hasA b b.length (Nat.le_refl _)
  have hwn := wordsN_rng (n := (b.length : Int)) (by omega)
  have hl := setW_len b b.length
  simp only [validS, Bool.and_eq_true, decide_eq_true_eq]
  refine ⟨⟨⟨by omega, by omega⟩, by rw [hl]; omega⟩, ?_⟩
  simp only [topB, Bool.or_eq_true, decide_eq_true_eq]
  by_cases hm : (b.length : Int).tmod 64 = 0
  · exact .inl hm
  · right
    have hix := top_ix (N := (b.length : Int)) (W := setW b b.length) (by omega) (by rw [hl]; omega) hm
    rw [Int.tmod_eq_emod_of_nonneg (by omega)] at hm ⊢
    rw [Int.tdiv_eq_ediv_of_nonneg (by omega)] at hix
    generalize hW : setW b b.length = W at *
    have hw := ho (W.length - 1)
    obtain ⟨w, hw1⟩ : ∃ w : Nat, W.getD (W.length - 1) 0 = w := ⟨_, (Int.toNat_of_nonneg hw.1).symm⟩
    rw [hw1] at hw ⊢
    rw [show ((b.length : Int) % 64) = ((b.length % 64 : Nat) : Int) by omega, bShr_nat (Nat.mod_lt _ (by decide)), shr_zero]
    · rfl
    · intro i hi
      by_cases h64 : i < 64
      · have hq : (((64 * (W.length - 1) + i : Nat) : Int).tdiv 64).toNat = W.length - 1 := by rw [Int.tdiv_eq_ediv_of_nonneg (by omega)]; omega
        have := hh (64 * (W.length - 1) + i) (by rw [hq]; omega)
        rw [hasW_bit (by omega) (by rw [hq, hw1]; omega), hq, hw1, Int.toNat_natCast, Int.toNat_natCast, show (64 * (W.length - 1) + i) % 64 = i by omega] at this
        rw [this]
        have : ¬ 64 * (W.length - 1) + i < b.length := by omega
        simp [this]
      · refine Nat.testBit_lt_two_pow (Nat.lt_of_lt_of_le (m := 2 ^ 64) (by simp only [Nat.reducePow]; omega) (Nat.pow_le_pow_right (by decide) (by omega)))
end Go.AM

/- The first that a test finds. -/
namespace Go.AM
def ixf {α : Type} (p : α → Bool) (l : List α) : Int := if l.any p then (l.findIdx p : Nat) else -1
theorem ixf_at {α : Type} {p : α → Bool} {l : List α} {j : Nat} {x : α} (hx : l[j]? = some x) (hp : p x = true) (h : (l.take j).any p = false) : ixf p l = j := by
  obtain ⟨hj, rfl⟩ := List.getElem?_eq_some_iff.1 hx
  have h1 : l.any p = true := List.any_eq_true.2 ⟨_, List.getElem_mem hj, hp⟩
  unfold ixf
  rw [if_pos h1, (List.findIdx_eq hj).2 ⟨hp, fun i hi => ?_⟩]
  have : ¬ p (l[i]'(by omega)) = true := fun hh => by
    have : (l.take j).any p = true := List.any_eq_true.2 ⟨l[i]'(by omega), by rw [List.mem_take_iff_getElem]; exact ⟨i, by omega, rfl⟩, hh⟩
    rw [this] at h; cases h
  simpa using this
theorem ixf_none {α : Type} {p : α → Bool} {l : List α} (h : l.any p = false) : ixf p l = -1 := by unfold ixf; rw [if_neg (by rw [h]; simp)]
theorem any_take_succ {α : Type} {p : α → Bool} {l : List α} {j : Nat} {x : α} (hx : l[j]? = some x) : (l.take (j + 1)).any p = ((l.take j).any p || p x) := by
  obtain ⟨hj, rfl⟩ := List.getElem?_eq_some_iff.1 hx
  rw [List.take_succ_eq_append_getElem hj, List.any_append]; simp
theorem ixf_ge {α : Type} (p : α → Bool) (l : List α) : (decide (0 ≤ ixf p l)) = l.any p := by
  unfold ixf
  cases h : l.any p <;> simp
end Go.AM

/- Sets as words, and as lists of truths. -/
namespace Go.AM
theorem getD_ext {a b : List Int} (hl : a.length = b.length) (h : ∀ k, k < a.length → a.getD k 0 = b.getD k 0) : a = b := by
  refine List.ext_getElem hl fun i h1 h2 => ?_
  have := h i h1
  simpa [List.getD_eq_getElem?_getD, h1, h2] using this
theorem getD_extB {a b : List Bool} (hl : a.length = b.length) (h : ∀ k, k < a.length → a.getD k false = b.getD k false) : a = b := by
  refine List.ext_getElem hl fun i h1 h2 => ?_
  have := h i h1
  simpa [List.getD_eq_getElem?_getD, h1, h2] using this
theorem tdiv64 (i : Nat) : ((i : Int).tdiv 64).toNat = i / 64 := by rw [Int.tdiv_eq_ediv_of_nonneg (by omega)]; omega
theorem hasW_nat {W : List Int} (hW : okW W) (i : Nat) : hasW W i = (W.getD (i / 64) 0).toNat.testBit (i % 64) := by
  rw [hasW_bit (by omega) (hW _).1, tdiv64, Int.toNat_natCast]
/-- Words are told by their bits. -/
theorem words_ext {a b : List Int} (ha : okW a) (hb : okW b) (hl : a.length = b.length) (h : ∀ i : Nat, i < 64 * a.length → hasW a i = hasW b i) : a = b := by
  refine getD_ext hl fun k hk => ?_
  have h1 := ha k
  have h2 := hb k
  have : (a.getD k 0).toNat = (b.getD k 0).toNat := by
    refine Nat.eq_of_testBit_eq fun i => ?_
    by_cases hi : i < 64
    · have := h (64 * k + i) (by omega)
      rw [hasW_nat ha, hasW_nat hb, show (64 * k + i) / 64 = k by omega, show (64 * k + i) % 64 = i by omega] at this
      exact this
    · have hp : 2 ^ 64 ≤ 2 ^ i := Nat.pow_le_pow_right (by decide) (by omega)
      simp only [Nat.reducePow] at hp
      rw [Nat.testBit_lt_two_pow (by omega), Nat.testBit_lt_two_pow (by omega)]
  omega
theorem setW_ok (b : List Bool) : okW (setW b b.length) := (setW_hasA b b.length (Nat.le_refl _)).1
theorem setW_len' (b : List Bool) : (setW b b.length).length = (wordsN b.length).toNat := setW_len b b.length
theorem hasW_setW (b : List Bool) {i : Nat} (hi : i / 64 < (setW b b.length).length) : hasW (setW b b.length) i = b.getD i false := by
  rw [setW_len'] at hi
  rw [(setW_hasA b b.length (Nat.le_refl _)).2 i (by rw [tdiv64]; exact hi)]
  by_cases h : i < b.length
  · simp [h]
  · rw [Go.AM.getD_out (by omega)]; simp
/-- A valid set is that of its members. -/
theorem setW_of {N : Int} {W : List Int} (hW : okW W) (hv : validS N W = true) : ∃ b : List Bool, (b.length : Int) = N ∧ W = setW b b.length := by
  obtain ⟨h0, h1, h2⟩ := validS_sz hv
  have hwn := wordsN_rng (n := N) h0
  obtain ⟨b, hb⟩ : ∃ b : List Bool, b = (List.range N.toNat).map fun i => hasW W (i : Nat) := ⟨_, rfl⟩
  have hbl : b.length = N.toNat := by rw [hb]; simp
  have hbN : (b.length : Int) = N := by omega
  refine ⟨b, hbN, words_ext hW (setW_ok b) (by rw [setW_len', hbN]; omega) fun i hi => ?_⟩
  rw [hasW_setW b (by rw [setW_len', hbN]; omega)]
  by_cases h : i < N.toNat
  · rw [hb]; simp [List.getD_eq_getElem?_getD, h]
  · rw [Go.AM.getD_out (by omega), hasW_nat hW]
    simp only [validS, topB, Bool.and_eq_true, Bool.or_eq_true, decide_eq_true_eq] at hv
    have ht := hv.2
    by_cases hm : N.tmod 64 = 0
    · exfalso
      rw [Int.tmod_eq_emod_of_nonneg h0] at hm
      omega
    · have ht := ht.resolve_left hm
      have hix := top_ix h0 h2 hm
      rw [Int.tmod_eq_emod_of_nonneg h0] at hm ht
      have hw := hW (W.length - 1)
      rw [show N % 64 = ((N.toNat % 64 : Nat) : Int) by omega] at ht
      obtain ⟨w, hw1⟩ : ∃ w : Nat, W.getD (W.length - 1) 0 = w := ⟨_, (Int.toNat_of_nonneg hw.1).symm⟩
      rw [hw1, bShr_nat (Nat.mod_lt _ (by decide))] at ht
      rw [Int.tdiv_eq_ediv_of_nonneg h0] at hix
      have hq : i / 64 = W.length - 1 := by omega
      rw [hq, hw1, Int.toNat_natCast]
      have hz : w >>> (N.toNat % 64) = 0 := by exact_mod_cast ht
      have := congrArg (fun x => x.testBit (i % 64 - N.toNat % 64)) hz
      simp only [Nat.testBit_shiftRight, Nat.zero_testBit] at this
      rwa [show N.toNat % 64 + (i % 64 - N.toNat % 64) = i % 64 by omega] at this
theorem setBit_len (W : List Int) (i : Int) : (setBit W i).length = W.length := by simp [setBit]
theorem getD_setB (b : List Bool) (i j : Nat) (x : Bool) : (b.set i x).getD j false = if i = j ∧ i < b.length then x else b.getD j false := by
  by_cases h : i = j
  · subst h
    by_cases h2 : i < b.length
    · rw [Go.AM.getD_set_eq h2, if_pos ⟨rfl, h2⟩]
    · rw [List.set_eq_of_length_le (by omega), if_neg (by omega)]
  · rw [Go.AM.getD_set_ne h, if_neg (by rintro ⟨a, _⟩; exact h a)]
theorem setBit_setW (b : List Bool) {i : Nat} (h : i < b.length) : setBit (setW b b.length) (i : Int) = setW (b.set i true) b.length := by
  have h1 := (setW_ok b).set (i := (i : Int)) (by omega)
  have hl : (b.set i true).length = b.length := by simp
  have h2 := setW_ok (b.set i true)
  have h3 := fun (j : Nat) => hasW_setW (b.set i true) (i := j)
  have h4 := setW_len' (b.set i true)
  rw [hl] at h2 h3 h4
  refine words_ext h1.1 h2 (by rw [setBit_len, setW_len', h4]) fun j hj => ?_
  rw [setBit_len, setW_len'] at hj
  rw [h1.2 j (by omega) (by rw [tdiv64, setW_len']; omega), h3 _ (by omega), hasW_setW b (by rw [setW_len']; omega), getD_setB]
  by_cases e : i = j
  · subst e; simp [h]
  · have : ((i : Int) = (j : Int)) = False := by simp; omega
    simp [e, this]
theorem setW_zero (n : Nat) : setW (List.replicate n false) n = List.replicate (wordsN n).toNat 0 := by
  have hl : (List.replicate n false).length = n := by simp
  have h2 := setW_ok (List.replicate n false)
  have h3 := fun (j : Nat) => hasW_setW (List.replicate n false) (i := j)
  have h4 := setW_len' (List.replicate n false)
  rw [hl] at h2 h3 h4
  refine words_ext h2 (okW_zero _) (by rw [h4]; simp) fun j hj => ?_
  rw [h3 _ (by omega), hasW_nat (okW_zero _)]
  have e1 : (List.replicate n false).getD j false = false := by rw [List.getD_eq_getElem?_getD, List.getElem?_replicate]; split <;> rfl
  have e2 : (List.replicate (wordsN n).toNat (0 : Int)).getD (j / 64) 0 = 0 := by rw [List.getD_eq_getElem?_getD, List.getElem?_replicate]; split <;> rfl
  rw [e1, e2]; simp
structure BitOp (f : Int → Int → Int) (g : Bool → Bool → Bool) : Prop where
  rng : ∀ a b : Int, 0 ≤ a → a < 18446744073709551616 → 0 ≤ b → b < 18446744073709551616 → 0 ≤ f a b ∧ f a b < 18446744073709551616
  bit : ∀ (a b : Int) (i : Nat), 0 ≤ a → a < 18446744073709551616 → 0 ≤ b → b < 18446744073709551616 → i < 64 → (f a b).toNat.testBit i = g (a.toNat.testBit i) (b.toNat.testBit i)
  zer : g false false = false
end Go.AM

/- Relations as tables of truths. -/
namespace Go.AM
def rowB (b : List Bool) : List AV := [.int .i64 b.length, .rsl 1 (words (setW b b.length))]
structure Sq (n : Nat) (t : List (List Bool)) : Prop where
  len : t.length = n
  row : ∀ b ∈ t, b.length = n
def rowT (t : List (List Bool)) (i : Nat) : List Bool := t.getD i []
def atT (t : List (List Bool)) (i j : Nat) : Bool := (rowT t i).getD j false
theorem Sq.rowLen {n : Nat} {t : List (List Bool)} (h : Sq n t) {i : Nat} (hi : i < n) : (rowT t i).length = n := h.row _ (mem_getD (by rw [h.len]; exact hi) _)
theorem Sq.set {n : Nat} {t : List (List Bool)} (h : Sq n t) (i : Nat) {b : List Bool} (hb : b.length = n) : Sq n (t.set i b) :=
  ⟨by simp [h.len], fun c hc => by rcases List.mem_or_eq_of_mem_set hc with h1 | h1; exact h.row c h1; rw [h1, hb]⟩
theorem Sq.rep (n : Nat) : Sq n (List.replicate n (List.replicate n false)) := ⟨by simp, fun b hb => by rw [List.eq_of_mem_replicate hb]; simp⟩
section
variable (s : Store) (d : Nat) (m : Ref → Option Ref)
end
/-! ### Truths in rows, for the reference. -/
section
variable (s : Store) (d : Nat) (m : Ref → Option Ref)
end
end Go.AM

namespace Go.Proofs.M
open Go.AM
set_option maxRecDepth 100000
@[go_sem] theorem tyd1 : tyd Try.prog 1 = some (1, false) := by kernel_rfl
@[go_sem] theorem zeC1 : zeC Try.prog 1 = some [.any] := by kernel_rfl
@[go_sem] theorem byD1 : byD Try.prog 1 = some 8 := by kernel_rfl
@[go_sem] theorem tyd2 : tyd Try.prog 2 = some (1, false) := by kernel_rfl
@[go_sem] theorem zeC2 : zeC Try.prog 2 = some [.int .i64 0] := by kernel_rfl
@[go_sem] theorem byD2 : byD Try.prog 2 = some 8 := by kernel_rfl
@[go_sem] theorem inD2 : inD Try.prog 2 = some .i64 := by kernel_rfl
@[go_sem] theorem und2 : Try.prog.underlying 2 = some (.int .i64) := by kernel_rfl
@[go_sem] theorem valD2 : valD Try.prog 2 = some (some .i64) := by kernel_rfl
@[go_sem] theorem tyd3 : tyd Try.prog 3 = some (1, false) := by kernel_rfl
@[go_sem] theorem zeC3 : zeC Try.prog 3 = some [.int .i64 0] := by kernel_rfl
@[go_sem] theorem byD3 : byD Try.prog 3 = some 8 := by kernel_rfl
@[go_sem] theorem inD3 : inD Try.prog 3 = some .i64 := by kernel_rfl
@[go_sem] theorem und3 : Try.prog.underlying 3 = some (.int .i64) := by kernel_rfl
@[go_sem] theorem valD3 : valD Try.prog 3 = some (some .i64) := by kernel_rfl
@[go_sem] theorem tyd4 : tyd Try.prog 4 = some (1, false) := by kernel_rfl
@[go_sem] theorem zeC4 : zeC Try.prog 4 = some [.bool false] := by kernel_rfl
@[go_sem] theorem byD4 : byD Try.prog 4 = some 1 := by kernel_rfl
@[go_sem] theorem valD4 : valD Try.prog 4 = some none := by kernel_rfl
@[go_sem] theorem und4 : Try.prog.underlying 4 = some .bool := by kernel_rfl
@[go_sem] theorem tyd5 : tyd Try.prog 5 = some (1, false) := by kernel_rfl
@[go_sem] theorem zeC5 : zeC Try.prog 5 = some [.int .u8 0] := by kernel_rfl
@[go_sem] theorem byD5 : byD Try.prog 5 = some 1 := by kernel_rfl
@[go_sem] theorem inD5 : inD Try.prog 5 = some .u8 := by kernel_rfl
@[go_sem] theorem und5 : Try.prog.underlying 5 = some (.int .u8) := by kernel_rfl
@[go_sem] theorem valD5 : valD Try.prog 5 = some (some .u8) := by kernel_rfl
@[go_sem] theorem tyd6 : tyd Try.prog 6 = some (1, false) := by kernel_rfl
@[go_sem] theorem zeC6 : zeC Try.prog 6 = some [.int .u8 0] := by kernel_rfl
@[go_sem] theorem byD6 : byD Try.prog 6 = some 1 := by kernel_rfl
@[go_sem] theorem inD6 : inD Try.prog 6 = some .u8 := by kernel_rfl
@[go_sem] theorem und6 : Try.prog.underlying 6 = some (.int .u8) := by kernel_rfl
@[go_sem] theorem valD6 : valD Try.prog 6 = some (some .u8) := by kernel_rfl
@[go_sem] theorem tyd7 : tyd Try.prog 7 = some (4, true) := by kernel_rfl
@[go_sem] theorem flD7_0 : flD Try.prog 7 0 = some (2, 0, 1) := by kernel_rfl
@[go_sem] theorem flD7_1 : flD Try.prog 7 1 = some (3, 1, 1) := by kernel_rfl
@[go_sem] theorem flD7_2 : flD Try.prog 7 2 = some (4, 2, 1) := by kernel_rfl
@[go_sem] theorem flD7_3 : flD Try.prog 7 3 = some (6, 3, 1) := by kernel_rfl
@[go_sem] theorem stD7 : stD Try.prog 7 = some [(0, 1), (1, 1), (2, 1), (3, 1)] := by kernel_rfl
@[go_sem] theorem zeC7 : zeC Try.prog 7 = some [.int .i64 0, .int .i64 0, .bool false, .int .u8 0] := by kernel_rfl
@[go_sem] theorem byD7 : byD Try.prog 7 = some 24 := by kernel_rfl
@[go_sem] theorem tyd8 : tyd Try.prog 8 = some (4, true) := by kernel_rfl
@[go_sem] theorem flD8_0 : flD Try.prog 8 0 = some (2, 0, 1) := by kernel_rfl
@[go_sem] theorem flD8_1 : flD Try.prog 8 1 = some (3, 1, 1) := by kernel_rfl
@[go_sem] theorem flD8_2 : flD Try.prog 8 2 = some (4, 2, 1) := by kernel_rfl
@[go_sem] theorem flD8_3 : flD Try.prog 8 3 = some (6, 3, 1) := by kernel_rfl
@[go_sem] theorem stD8 : stD Try.prog 8 = some [(0, 1), (1, 1), (2, 1), (3, 1)] := by kernel_rfl
@[go_sem] theorem zeC8 : zeC Try.prog 8 = some [.int .i64 0, .int .i64 0, .bool false, .int .u8 0] := by kernel_rfl
@[go_sem] theorem byD8 : byD Try.prog 8 = some 24 := by kernel_rfl
@[go_sem] theorem tyd9 : tyd Try.prog 9 = some (1, false) := by kernel_rfl
@[go_sem] theorem zeC9 : zeC Try.prog 9 = some [.str ByteArray.empty] := by kernel_rfl
@[go_sem] theorem byD9 : byD Try.prog 9 = some 16 := by kernel_rfl
@[go_sem] theorem und9 : Try.prog.underlying 9 = some .string := by kernel_rfl
@[go_sem] theorem tyd10 : tyd Try.prog 10 = some (1, false) := by kernel_rfl
@[go_sem] theorem zeC10 : zeC Try.prog 10 = some [.str ByteArray.empty] := by kernel_rfl
@[go_sem] theorem byD10 : byD Try.prog 10 = some 16 := by kernel_rfl
@[go_sem] theorem und10 : Try.prog.underlying 10 = some .string := by kernel_rfl
@[go_sem] theorem tyd11 : tyd Try.prog 11 = some (1, false) := by kernel_rfl
@[go_sem] theorem zeC11 : zeC Try.prog 11 = some [.str ByteArray.empty] := by kernel_rfl
@[go_sem] theorem byD11 : byD Try.prog 11 = some 16 := by kernel_rfl
@[go_sem] theorem und11 : Try.prog.underlying 11 = some .string := by kernel_rfl
@[go_sem] theorem tyd12 : tyd Try.prog 12 = some (1, false) := by kernel_rfl
@[go_sem] theorem zeC12 : zeC Try.prog 12 = some [.int .u64 0] := by kernel_rfl
@[go_sem] theorem byD12 : byD Try.prog 12 = some 8 := by kernel_rfl
@[go_sem] theorem inD12 : inD Try.prog 12 = some .u64 := by kernel_rfl
@[go_sem] theorem und12 : Try.prog.underlying 12 = some (.int .u64) := by kernel_rfl
@[go_sem] theorem valD12 : valD Try.prog 12 = some (some .u64) := by kernel_rfl
@[go_sem] theorem tyd13 : tyd Try.prog 13 = some (2, true) := by kernel_rfl
@[go_sem] theorem flD13_0 : flD Try.prog 13 0 = some (9, 0, 1) := by kernel_rfl
@[go_sem] theorem flD13_1 : flD Try.prog 13 1 = some (12, 1, 1) := by kernel_rfl
@[go_sem] theorem stD13 : stD Try.prog 13 = some [(0, 1), (1, 1)] := by kernel_rfl
@[go_sem] theorem zeC13 : zeC Try.prog 13 = some [.str ByteArray.empty, .int .u64 0] := by kernel_rfl
@[go_sem] theorem byD13 : byD Try.prog 13 = some 24 := by kernel_rfl
@[go_sem] theorem tyd14 : tyd Try.prog 14 = some (2, true) := by kernel_rfl
@[go_sem] theorem flD14_0 : flD Try.prog 14 0 = some (9, 0, 1) := by kernel_rfl
@[go_sem] theorem flD14_1 : flD Try.prog 14 1 = some (12, 1, 1) := by kernel_rfl
@[go_sem] theorem stD14 : stD Try.prog 14 = some [(0, 1), (1, 1)] := by kernel_rfl
@[go_sem] theorem zeC14 : zeC Try.prog 14 = some [.str ByteArray.empty, .int .u64 0] := by kernel_rfl
@[go_sem] theorem byD14 : byD Try.prog 14 = some 24 := by kernel_rfl
@[go_sem] theorem tyd15 : tyd Try.prog 15 = some (1, false) := by kernel_rfl
@[go_sem] theorem zeC15 : zeC Try.prog 15 = some [.nilp] := by kernel_rfl
@[go_sem] theorem byD15 : byD Try.prog 15 = some 8 := by kernel_rfl
@[go_sem] theorem tyd16 : tyd Try.prog 16 = some (1, false) := by kernel_rfl
@[go_sem] theorem zeC16 : zeC Try.prog 16 = some [.nilp] := by kernel_rfl
@[go_sem] theorem byD16 : byD Try.prog 16 = some 8 := by kernel_rfl
@[go_sem] theorem tyd17 : tyd Try.prog 17 = some (1, false) := by kernel_rfl
@[go_sem] theorem zeC17 : zeC Try.prog 17 = some [.nilp] := by kernel_rfl
@[go_sem] theorem byD17 : byD Try.prog 17 = some 8 := by kernel_rfl
@[go_sem] theorem tyd18 : tyd Try.prog 18 = some (1, true) := by kernel_rfl
@[go_sem] theorem flD18_0 : flD Try.prog 18 0 = some (17, 0, 1) := by kernel_rfl
@[go_sem] theorem stD18 : stD Try.prog 18 = some [(0, 1)] := by kernel_rfl
@[go_sem] theorem zeC18 : zeC Try.prog 18 = some [.nilp] := by kernel_rfl
@[go_sem] theorem byD18 : byD Try.prog 18 = some 8 := by kernel_rfl
@[go_sem] theorem tyd19 : tyd Try.prog 19 = some (1, true) := by kernel_rfl
@[go_sem] theorem flD19_0 : flD Try.prog 19 0 = some (17, 0, 1) := by kernel_rfl
@[go_sem] theorem stD19 : stD Try.prog 19 = some [(0, 1)] := by kernel_rfl
@[go_sem] theorem zeC19 : zeC Try.prog 19 = some [.nilp] := by kernel_rfl
@[go_sem] theorem byD19 : byD Try.prog 19 = some 8 := by kernel_rfl
@[go_sem] theorem tyd21 : tyd Try.prog 21 = some (1, false) := by kernel_rfl
@[go_sem] theorem zeC21 : zeC Try.prog 21 = some [.int .i32 0] := by kernel_rfl
@[go_sem] theorem byD21 : byD Try.prog 21 = some 4 := by kernel_rfl
@[go_sem] theorem inD21 : inD Try.prog 21 = some .i32 := by kernel_rfl
@[go_sem] theorem und21 : Try.prog.underlying 21 = some (.int .i32) := by kernel_rfl
@[go_sem] theorem valD21 : valD Try.prog 21 = some (some .i32) := by kernel_rfl
@[go_sem] theorem tyd22 : tyd Try.prog 22 = some (1, false) := by kernel_rfl
@[go_sem] theorem slD22 : slD Try.prog 22 = some (51, 2) := by kernel_rfl
@[go_sem] theorem zeC22 : zeC Try.prog 22 = some [.nilsl] := by kernel_rfl
@[go_sem] theorem byD22 : byD Try.prog 22 = some 24 := by kernel_rfl
@[go_sem] theorem tyd23 : tyd Try.prog 23 = some (1, false) := by kernel_rfl
@[go_sem] theorem zeC23 : zeC Try.prog 23 = some [.any] := by kernel_rfl
@[go_sem] theorem byD23 : byD Try.prog 23 = some 8 := by kernel_rfl
@[go_sem] theorem tyd24 : tyd Try.prog 24 = some (1, false) := by kernel_rfl
@[go_sem] theorem zeC24 : zeC Try.prog 24 = some [.any] := by kernel_rfl
@[go_sem] theorem byD24 : byD Try.prog 24 = some 8 := by kernel_rfl
@[go_sem] theorem tyd25 : tyd Try.prog 25 = some (1, false) := by kernel_rfl
@[go_sem] theorem zeC25 : zeC Try.prog 25 = some [.int .i64 0] := by kernel_rfl
@[go_sem] theorem byD25 : byD Try.prog 25 = some 8 := by kernel_rfl
@[go_sem] theorem inD25 : inD Try.prog 25 = some .i64 := by kernel_rfl
@[go_sem] theorem und25 : Try.prog.underlying 25 = some (.int .i64) := by kernel_rfl
@[go_sem] theorem valD25 : valD Try.prog 25 = some (some .i64) := by kernel_rfl
@[go_sem] theorem tyd27 : tyd Try.prog 27 = some (1, false) := by kernel_rfl
@[go_sem] theorem zeC27 : zeC Try.prog 27 = some [.any] := by kernel_rfl
@[go_sem] theorem byD27 : byD Try.prog 27 = some 8 := by kernel_rfl
@[go_sem] theorem tyd28 : tyd Try.prog 28 = some (1, false) := by kernel_rfl
@[go_sem] theorem slD28 : slD Try.prog 28 = some (61, 1) := by kernel_rfl
@[go_sem] theorem zeC28 : zeC Try.prog 28 = some [.nilsl] := by kernel_rfl
@[go_sem] theorem byD28 : byD Try.prog 28 = some 24 := by kernel_rfl
@[go_sem] theorem tyd29 : tyd Try.prog 29 = some (2, true) := by kernel_rfl
@[go_sem] theorem flD29_0 : flD Try.prog 29 0 = some (3, 0, 1) := by kernel_rfl
@[go_sem] theorem flD29_1 : flD Try.prog 29 1 = some (28, 1, 1) := by kernel_rfl
@[go_sem] theorem stD29 : stD Try.prog 29 = some [(0, 1), (1, 1)] := by kernel_rfl
@[go_sem] theorem zeC29 : zeC Try.prog 29 = some [.int .i64 0, .nilsl] := by kernel_rfl
@[go_sem] theorem byD29 : byD Try.prog 29 = some 32 := by kernel_rfl
@[go_sem] theorem tyd30 : tyd Try.prog 30 = some (2, true) := by kernel_rfl
@[go_sem] theorem flD30_0 : flD Try.prog 30 0 = some (3, 0, 1) := by kernel_rfl
@[go_sem] theorem flD30_1 : flD Try.prog 30 1 = some (28, 1, 1) := by kernel_rfl
@[go_sem] theorem stD30 : stD Try.prog 30 = some [(0, 1), (1, 1)] := by kernel_rfl
@[go_sem] theorem zeC30 : zeC Try.prog 30 = some [.int .i64 0, .nilsl] := by kernel_rfl
@[go_sem] theorem byD30 : byD Try.prog 30 = some 32 := by kernel_rfl
@[go_sem] theorem tyd32 : tyd Try.prog 32 = some (1, false) := by kernel_rfl
@[go_sem] theorem zeC32 : zeC Try.prog 32 = some [.any] := by kernel_rfl
@[go_sem] theorem byD32 : byD Try.prog 32 = some 8 := by kernel_rfl
@[go_sem] theorem tyd33 : tyd Try.prog 33 = some (1, false) := by kernel_rfl
@[go_sem] theorem zeC33 : zeC Try.prog 33 = some [.any] := by kernel_rfl
@[go_sem] theorem byD33 : byD Try.prog 33 = some 8 := by kernel_rfl
@[go_sem] theorem tyd35 : tyd Try.prog 35 = some (1, false) := by kernel_rfl
@[go_sem] theorem zeC35 : zeC Try.prog 35 = some [.any] := by kernel_rfl
@[go_sem] theorem byD35 : byD Try.prog 35 = some 8 := by kernel_rfl
@[go_sem] theorem tyd36 : tyd Try.prog 36 = some (1, false) := by kernel_rfl
@[go_sem] theorem zeC36 : zeC Try.prog 36 = some [.any] := by kernel_rfl
@[go_sem] theorem byD36 : byD Try.prog 36 = some 8 := by kernel_rfl
@[go_sem] theorem tyd37 : tyd Try.prog 37 = some (1, false) := by kernel_rfl
@[go_sem] theorem zeC37 : zeC Try.prog 37 = some [.any] := by kernel_rfl
@[go_sem] theorem byD37 : byD Try.prog 37 = some 8 := by kernel_rfl
@[go_sem] theorem tyd38 : tyd Try.prog 38 = some (1, false) := by kernel_rfl
@[go_sem] theorem zeC38 : zeC Try.prog 38 = some [.any] := by kernel_rfl
@[go_sem] theorem byD38 : byD Try.prog 38 = some 8 := by kernel_rfl
@[go_sem] theorem tyd40 : tyd Try.prog 40 = some (1, false) := by kernel_rfl
@[go_sem] theorem zeC40 : zeC Try.prog 40 = some [.any] := by kernel_rfl
@[go_sem] theorem byD40 : byD Try.prog 40 = some 8 := by kernel_rfl
@[go_sem] theorem tyd41 : tyd Try.prog 41 = some (1, false) := by kernel_rfl
@[go_sem] theorem zeC41 : zeC Try.prog 41 = some [.any] := by kernel_rfl
@[go_sem] theorem byD41 : byD Try.prog 41 = some 8 := by kernel_rfl
@[go_sem] theorem tyd42 : tyd Try.prog 42 = some (1, false) := by kernel_rfl
@[go_sem] theorem slD42 : slD Try.prog 42 = some (4, 1) := by kernel_rfl
@[go_sem] theorem zeC42 : zeC Try.prog 42 = some [.nilsl] := by kernel_rfl
@[go_sem] theorem byD42 : byD Try.prog 42 = some 24 := by kernel_rfl
@[go_sem] theorem tyd43 : tyd Try.prog 43 = some (1, false) := by kernel_rfl
@[go_sem] theorem zeC43 : zeC Try.prog 43 = some [.any] := by kernel_rfl
@[go_sem] theorem byD43 : byD Try.prog 43 = some 8 := by kernel_rfl
@[go_sem] theorem tyd44 : tyd Try.prog 44 = some (1, false) := by kernel_rfl
@[go_sem] theorem zeC44 : zeC Try.prog 44 = some [.any] := by kernel_rfl
@[go_sem] theorem byD44 : byD Try.prog 44 = some 8 := by kernel_rfl
@[go_sem] theorem tyd45 : tyd Try.prog 45 = some (1, false) := by kernel_rfl
@[go_sem] theorem zeC45 : zeC Try.prog 45 = some [.any] := by kernel_rfl
@[go_sem] theorem byD45 : byD Try.prog 45 = some 8 := by kernel_rfl
@[go_sem] theorem tyd46 : tyd Try.prog 46 = some (1, false) := by kernel_rfl
@[go_sem] theorem zeC46 : zeC Try.prog 46 = some [.any] := by kernel_rfl
@[go_sem] theorem byD46 : byD Try.prog 46 = some 8 := by kernel_rfl
@[go_sem] theorem tyd47 : tyd Try.prog 47 = some (1, false) := by kernel_rfl
@[go_sem] theorem zeC47 : zeC Try.prog 47 = some [.any] := by kernel_rfl
@[go_sem] theorem byD47 : byD Try.prog 47 = some 8 := by kernel_rfl
@[go_sem] theorem tyd49 : tyd Try.prog 49 = some (1, false) := by kernel_rfl
@[go_sem] theorem zeC49 : zeC Try.prog 49 = some [.any] := by kernel_rfl
@[go_sem] theorem byD49 : byD Try.prog 49 = some 8 := by kernel_rfl
@[go_sem] theorem tyd50 : tyd Try.prog 50 = some (1, false) := by kernel_rfl
@[go_sem] theorem zeC50 : zeC Try.prog 50 = some [.any] := by kernel_rfl
@[go_sem] theorem byD50 : byD Try.prog 50 = some 8 := by kernel_rfl
@[go_sem] theorem tyd51 : tyd Try.prog 51 = some (2, true) := by kernel_rfl
@[go_sem] theorem gdD51 : gdD Try.prog 51 = false := by kernel_rfl
@[go_sem] theorem arD51 : arD Try.prog 51 = some (2, 3, 1) := by kernel_rfl
@[go_sem] theorem stD51 : stD Try.prog 51 = none := by kernel_rfl
@[go_sem] theorem zeC51 : zeC Try.prog 51 = some [.int .i64 0, .int .i64 0] := by kernel_rfl
@[go_sem] theorem byD51 : byD Try.prog 51 = some 16 := by kernel_rfl
@[go_sem] theorem tyd52 : tyd Try.prog 52 = some (1, false) := by kernel_rfl
@[go_sem] theorem zeC52 : zeC Try.prog 52 = some [.nilp] := by kernel_rfl
@[go_sem] theorem byD52 : byD Try.prog 52 = some 8 := by kernel_rfl
@[go_sem] theorem tyd53 : tyd Try.prog 53 = some (1, false) := by kernel_rfl
@[go_sem] theorem zeC53 : zeC Try.prog 53 = some [.any] := by kernel_rfl
@[go_sem] theorem byD53 : byD Try.prog 53 = some 8 := by kernel_rfl
@[go_sem] theorem tyd54 : tyd Try.prog 54 = some (1, false) := by kernel_rfl
@[go_sem] theorem zeC54 : zeC Try.prog 54 = some [.any] := by kernel_rfl
@[go_sem] theorem byD54 : byD Try.prog 54 = some 8 := by kernel_rfl
@[go_sem] theorem tyd55 : tyd Try.prog 55 = some (1, false) := by kernel_rfl
@[go_sem] theorem slD55 : slD Try.prog 55 = some (3, 1) := by kernel_rfl
@[go_sem] theorem zeC55 : zeC Try.prog 55 = some [.nilsl] := by kernel_rfl
@[go_sem] theorem byD55 : byD Try.prog 55 = some 24 := by kernel_rfl
@[go_sem] theorem tyd57 : tyd Try.prog 57 = some (1, false) := by kernel_rfl
@[go_sem] theorem zeC57 : zeC Try.prog 57 = some [.any] := by kernel_rfl
@[go_sem] theorem byD57 : byD Try.prog 57 = some 8 := by kernel_rfl
@[go_sem] theorem tyd58 : tyd Try.prog 58 = some (1, false) := by kernel_rfl
@[go_sem] theorem zeC58 : zeC Try.prog 58 = some [.any] := by kernel_rfl
@[go_sem] theorem byD58 : byD Try.prog 58 = some 8 := by kernel_rfl
@[go_sem] theorem tyd59 : tyd Try.prog 59 = some (1, false) := by kernel_rfl
@[go_sem] theorem zeC59 : zeC Try.prog 59 = some [.any] := by kernel_rfl
@[go_sem] theorem byD59 : byD Try.prog 59 = some 8 := by kernel_rfl
@[go_sem] theorem tyd60 : tyd Try.prog 60 = some (1, false) := by kernel_rfl
@[go_sem] theorem zeC60 : zeC Try.prog 60 = some [.any] := by kernel_rfl
@[go_sem] theorem byD60 : byD Try.prog 60 = some 8 := by kernel_rfl
@[go_sem] theorem und60 : Try.prog.underlying 60 = some (.map 51 4) := by kernel_rfl
@[go_sem] theorem tyd61 : tyd Try.prog 61 = some (1, false) := by kernel_rfl
@[go_sem] theorem zeC61 : zeC Try.prog 61 = some [.int .u64 0] := by kernel_rfl
@[go_sem] theorem byD61 : byD Try.prog 61 = some 8 := by kernel_rfl
@[go_sem] theorem inD61 : inD Try.prog 61 = some .u64 := by kernel_rfl
@[go_sem] theorem und61 : Try.prog.underlying 61 = some (.int .u64) := by kernel_rfl
@[go_sem] theorem valD61 : valD Try.prog 61 = some (some .u64) := by kernel_rfl
@[go_sem] theorem tyd62 : tyd Try.prog 62 = some (1, false) := by kernel_rfl
@[go_sem] theorem zeC62 : zeC Try.prog 62 = some [.any] := by kernel_rfl
@[go_sem] theorem byD62 : byD Try.prog 62 = some 8 := by kernel_rfl
@[go_sem] theorem tyd63 : tyd Try.prog 63 = some (1, false) := by kernel_rfl
@[go_sem] theorem zeC63 : zeC Try.prog 63 = some [.any] := by kernel_rfl
@[go_sem] theorem byD63 : byD Try.prog 63 = some 8 := by kernel_rfl
@[go_sem] theorem tyd64 : tyd Try.prog 64 = some (1, false) := by kernel_rfl
@[go_sem] theorem zeC64 : zeC Try.prog 64 = some [.any] := by kernel_rfl
@[go_sem] theorem byD64 : byD Try.prog 64 = some 8 := by kernel_rfl
@[go_sem] theorem tyd66 : tyd Try.prog 66 = some (1, false) := by kernel_rfl
@[go_sem] theorem zeC66 : zeC Try.prog 66 = some [.any] := by kernel_rfl
@[go_sem] theorem byD66 : byD Try.prog 66 = some 8 := by kernel_rfl
@[go_sem] theorem tyd67 : tyd Try.prog 67 = some (1, false) := by kernel_rfl
@[go_sem] theorem zeC67 : zeC Try.prog 67 = some [.any] := by kernel_rfl
@[go_sem] theorem byD67 : byD Try.prog 67 = some 8 := by kernel_rfl
@[go_sem] theorem tyd68 : tyd Try.prog 68 = some (1, false) := by kernel_rfl
@[go_sem] theorem zeC68 : zeC Try.prog 68 = some [.any] := by kernel_rfl
@[go_sem] theorem byD68 : byD Try.prog 68 = some 8 := by kernel_rfl
@[go_sem] theorem tyd69 : tyd Try.prog 69 = some (1, false) := by kernel_rfl
@[go_sem] theorem zeC69 : zeC Try.prog 69 = some [.any] := by kernel_rfl
@[go_sem] theorem byD69 : byD Try.prog 69 = some 8 := by kernel_rfl
@[go_sem] theorem tyd70 : tyd Try.prog 70 = some (1, false) := by kernel_rfl
@[go_sem] theorem slD70 : slD Try.prog 70 = some (55, 1) := by kernel_rfl
@[go_sem] theorem zeC70 : zeC Try.prog 70 = some [.nilsl] := by kernel_rfl
@[go_sem] theorem byD70 : byD Try.prog 70 = some 24 := by kernel_rfl
@[go_sem] theorem tyd71 : tyd Try.prog 71 = some (3, true) := by kernel_rfl
@[go_sem] theorem flD71_0 : flD Try.prog 71 0 = some (70, 0, 1) := by kernel_rfl
@[go_sem] theorem flD71_1 : flD Try.prog 71 1 = some (55, 1, 1) := by kernel_rfl
@[go_sem] theorem flD71_2 : flD Try.prog 71 2 = some (55, 2, 1) := by kernel_rfl
@[go_sem] theorem stD71 : stD Try.prog 71 = some [(0, 1), (1, 1), (2, 1)] := by kernel_rfl
@[go_sem] theorem zeC71 : zeC Try.prog 71 = some [.nilsl, .nilsl, .nilsl] := by kernel_rfl
@[go_sem] theorem byD71 : byD Try.prog 71 = some 72 := by kernel_rfl
@[go_sem] theorem tyd72 : tyd Try.prog 72 = some (3, true) := by kernel_rfl
@[go_sem] theorem flD72_0 : flD Try.prog 72 0 = some (70, 0, 1) := by kernel_rfl
@[go_sem] theorem flD72_1 : flD Try.prog 72 1 = some (55, 1, 1) := by kernel_rfl
@[go_sem] theorem flD72_2 : flD Try.prog 72 2 = some (55, 2, 1) := by kernel_rfl
@[go_sem] theorem stD72 : stD Try.prog 72 = some [(0, 1), (1, 1), (2, 1)] := by kernel_rfl
@[go_sem] theorem zeC72 : zeC Try.prog 72 = some [.nilsl, .nilsl, .nilsl] := by kernel_rfl
@[go_sem] theorem byD72 : byD Try.prog 72 = some 72 := by kernel_rfl
@[go_sem] theorem tyd73 : tyd Try.prog 73 = some (1, false) := by kernel_rfl
@[go_sem] theorem zeC73 : zeC Try.prog 73 = some [.any] := by kernel_rfl
@[go_sem] theorem byD73 : byD Try.prog 73 = some 8 := by kernel_rfl
@[go_sem] theorem tyd74 : tyd Try.prog 74 = some (1, false) := by kernel_rfl
@[go_sem] theorem zeC74 : zeC Try.prog 74 = some [.any] := by kernel_rfl
@[go_sem] theorem byD74 : byD Try.prog 74 = some 8 := by kernel_rfl
@[go_sem] theorem tyd75 : tyd Try.prog 75 = some (1, false) := by kernel_rfl
@[go_sem] theorem zeC75 : zeC Try.prog 75 = some [.any] := by kernel_rfl
@[go_sem] theorem byD75 : byD Try.prog 75 = some 8 := by kernel_rfl
@[go_sem] theorem tyd76 : tyd Try.prog 76 = some (1, false) := by kernel_rfl
@[go_sem] theorem zeC76 : zeC Try.prog 76 = some [.any] := by kernel_rfl
@[go_sem] theorem byD76 : byD Try.prog 76 = some 8 := by kernel_rfl
@[go_sem] theorem tyd77 : tyd Try.prog 77 = some (1, false) := by kernel_rfl
@[go_sem] theorem zeC77 : zeC Try.prog 77 = some [.any] := by kernel_rfl
@[go_sem] theorem byD77 : byD Try.prog 77 = some 8 := by kernel_rfl
@[go_sem] theorem tyd78 : tyd Try.prog 78 = some (1, false) := by kernel_rfl
@[go_sem] theorem zeC78 : zeC Try.prog 78 = some [.any] := by kernel_rfl
@[go_sem] theorem byD78 : byD Try.prog 78 = some 8 := by kernel_rfl
@[go_sem] theorem tyd79 : tyd Try.prog 79 = some (1, false) := by kernel_rfl
@[go_sem] theorem zeC79 : zeC Try.prog 79 = some [.any] := by kernel_rfl
@[go_sem] theorem byD79 : byD Try.prog 79 = some 8 := by kernel_rfl
@[go_sem] theorem tyd80 : tyd Try.prog 80 = some (1, false) := by kernel_rfl
@[go_sem] theorem zeC80 : zeC Try.prog 80 = some [.any] := by kernel_rfl
@[go_sem] theorem byD80 : byD Try.prog 80 = some 8 := by kernel_rfl
@[go_sem] theorem tyd81 : tyd Try.prog 81 = some (1, false) := by kernel_rfl
@[go_sem] theorem zeC81 : zeC Try.prog 81 = some [.any] := by kernel_rfl
@[go_sem] theorem byD81 : byD Try.prog 81 = some 8 := by kernel_rfl
@[go_sem] theorem tyd82 : tyd Try.prog 82 = some (1, false) := by kernel_rfl
@[go_sem] theorem zeC82 : zeC Try.prog 82 = some [.int .u64 0] := by kernel_rfl
@[go_sem] theorem byD82 : byD Try.prog 82 = some 8 := by kernel_rfl
@[go_sem] theorem inD82 : inD Try.prog 82 = some .u64 := by kernel_rfl
@[go_sem] theorem und82 : Try.prog.underlying 82 = some (.int .u64) := by kernel_rfl
@[go_sem] theorem valD82 : valD Try.prog 82 = some (some .u64) := by kernel_rfl
@[go_sem] theorem tyd83 : tyd Try.prog 83 = some (1, false) := by kernel_rfl
@[go_sem] theorem zeC83 : zeC Try.prog 83 = some [.any] := by kernel_rfl
@[go_sem] theorem byD83 : byD Try.prog 83 = some 8 := by kernel_rfl
@[go_sem] theorem tyd84 : tyd Try.prog 84 = some (1, false) := by kernel_rfl
@[go_sem] theorem zeC84 : zeC Try.prog 84 = some [.any] := by kernel_rfl
@[go_sem] theorem byD84 : byD Try.prog 84 = some 8 := by kernel_rfl
@[go_sem] theorem tyd85 : tyd Try.prog 85 = some (1, false) := by kernel_rfl
@[go_sem] theorem zeC85 : zeC Try.prog 85 = some [.any] := by kernel_rfl
@[go_sem] theorem byD85 : byD Try.prog 85 = some 8 := by kernel_rfl
@[go_sem] theorem tyd86 : tyd Try.prog 86 = some (1, false) := by kernel_rfl
@[go_sem] theorem zeC86 : zeC Try.prog 86 = some [.int .i64 0] := by kernel_rfl
@[go_sem] theorem byD86 : byD Try.prog 86 = some 8 := by kernel_rfl
@[go_sem] theorem inD86 : inD Try.prog 86 = some .i64 := by kernel_rfl
@[go_sem] theorem und86 : Try.prog.underlying 86 = some (.int .i64) := by kernel_rfl
@[go_sem] theorem valD86 : valD Try.prog 86 = some (some .i64) := by kernel_rfl
@[go_sem] theorem tyd88 : tyd Try.prog 88 = some (1, false) := by kernel_rfl
@[go_sem] theorem zeC88 : zeC Try.prog 88 = some [.any] := by kernel_rfl
@[go_sem] theorem byD88 : byD Try.prog 88 = some 8 := by kernel_rfl
@[go_sem] theorem tyd89 : tyd Try.prog 89 = some (1, false) := by kernel_rfl
@[go_sem] theorem zeC89 : zeC Try.prog 89 = some [.any] := by kernel_rfl
@[go_sem] theorem byD89 : byD Try.prog 89 = some 8 := by kernel_rfl
@[go_sem] theorem tyd90 : tyd Try.prog 90 = some (1, false) := by kernel_rfl
@[go_sem] theorem zeC90 : zeC Try.prog 90 = some [.any] := by kernel_rfl
@[go_sem] theorem byD90 : byD Try.prog 90 = some 8 := by kernel_rfl
@[go_sem] theorem tyd92 : tyd Try.prog 92 = some (1, false) := by kernel_rfl
@[go_sem] theorem zeC92 : zeC Try.prog 92 = some [.any] := by kernel_rfl
@[go_sem] theorem byD92 : byD Try.prog 92 = some 8 := by kernel_rfl
@[go_sem] theorem tyd93 : tyd Try.prog 93 = some (1, false) := by kernel_rfl
@[go_sem] theorem zeC93 : zeC Try.prog 93 = some [.any] := by kernel_rfl
@[go_sem] theorem byD93 : byD Try.prog 93 = some 8 := by kernel_rfl
@[go_sem] theorem tyd94 : tyd Try.prog 94 = some (1, false) := by kernel_rfl
@[go_sem] theorem zeC94 : zeC Try.prog 94 = some [.int .u32 0] := by kernel_rfl
@[go_sem] theorem byD94 : byD Try.prog 94 = some 4 := by kernel_rfl
@[go_sem] theorem inD94 : inD Try.prog 94 = some .u32 := by kernel_rfl
@[go_sem] theorem und94 : Try.prog.underlying 94 = some (.int .u32) := by kernel_rfl
@[go_sem] theorem valD94 : valD Try.prog 94 = some (some .u32) := by kernel_rfl
@[go_sem] theorem tyd95 : tyd Try.prog 95 = some (1, false) := by kernel_rfl
@[go_sem] theorem zeC95 : zeC Try.prog 95 = some [.any] := by kernel_rfl
@[go_sem] theorem byD95 : byD Try.prog 95 = some 8 := by kernel_rfl
@[go_sem] theorem tyd96 : tyd Try.prog 96 = some (1, false) := by kernel_rfl
@[go_sem] theorem zeC96 : zeC Try.prog 96 = some [.int .u64 0] := by kernel_rfl
@[go_sem] theorem byD96 : byD Try.prog 96 = some 8 := by kernel_rfl
@[go_sem] theorem inD96 : inD Try.prog 96 = some .u64 := by kernel_rfl
@[go_sem] theorem und96 : Try.prog.underlying 96 = some (.int .u64) := by kernel_rfl
@[go_sem] theorem valD96 : valD Try.prog 96 = some (some .u64) := by kernel_rfl
@[go_sem] theorem tyd97 : tyd Try.prog 97 = some (1, false) := by kernel_rfl
@[go_sem] theorem zeC97 : zeC Try.prog 97 = some [.any] := by kernel_rfl
@[go_sem] theorem byD97 : byD Try.prog 97 = some 8 := by kernel_rfl
@[go_sem] theorem tyd98 : tyd Try.prog 98 = some (1, false) := by kernel_rfl
@[go_sem] theorem zeC98 : zeC Try.prog 98 = some [.any] := by kernel_rfl
@[go_sem] theorem byD98 : byD Try.prog 98 = some 8 := by kernel_rfl
@[go_sem] theorem tyd99 : tyd Try.prog 99 = some (1, false) := by kernel_rfl
@[go_sem] theorem zeC99 : zeC Try.prog 99 = some [.any] := by kernel_rfl
@[go_sem] theorem byD99 : byD Try.prog 99 = some 8 := by kernel_rfl
@[go_sem] theorem tyd100 : tyd Try.prog 100 = some (1, false) := by kernel_rfl
@[go_sem] theorem zeC100 : zeC Try.prog 100 = some [.nilp] := by kernel_rfl
@[go_sem] theorem byD100 : byD Try.prog 100 = some 8 := by kernel_rfl
@[go_sem] theorem tyd101 : tyd Try.prog 101 = some (1, false) := by kernel_rfl
@[go_sem] theorem zeC101 : zeC Try.prog 101 = some [.any] := by kernel_rfl
@[go_sem] theorem byD101 : byD Try.prog 101 = some 8 := by kernel_rfl
@[go_sem] theorem tyd103 : tyd Try.prog 103 = some (1, false) := by kernel_rfl
@[go_sem] theorem zeC103 : zeC Try.prog 103 = some [.any] := by kernel_rfl
@[go_sem] theorem byD103 : byD Try.prog 103 = some 8 := by kernel_rfl
@[go_sem] theorem tyd104 : tyd Try.prog 104 = some (1, false) := by kernel_rfl
@[go_sem] theorem zeC104 : zeC Try.prog 104 = some [.nilp] := by kernel_rfl
@[go_sem] theorem byD104 : byD Try.prog 104 = some 8 := by kernel_rfl
@[go_sem] theorem tyd106 : tyd Try.prog 106 = some (1, false) := by kernel_rfl
@[go_sem] theorem zeC106 : zeC Try.prog 106 = some [.any] := by kernel_rfl
@[go_sem] theorem byD106 : byD Try.prog 106 = some 8 := by kernel_rfl
@[go_sem] theorem tyd108 : tyd Try.prog 108 = some (1, false) := by kernel_rfl
@[go_sem] theorem zeC108 : zeC Try.prog 108 = some [.any] := by kernel_rfl
@[go_sem] theorem byD108 : byD Try.prog 108 = some 8 := by kernel_rfl
@[go_sem] theorem tyd110 : tyd Try.prog 110 = some (1, false) := by kernel_rfl
@[go_sem] theorem zeC110 : zeC Try.prog 110 = some [.any] := by kernel_rfl
@[go_sem] theorem byD110 : byD Try.prog 110 = some 8 := by kernel_rfl
@[go_sem] theorem tyd111 : tyd Try.prog 111 = some (1, false) := by kernel_rfl
@[go_sem] theorem zeC111 : zeC Try.prog 111 = some [.any] := by kernel_rfl
@[go_sem] theorem byD111 : byD Try.prog 111 = some 8 := by kernel_rfl
@[go_sem] theorem tyd112 : tyd Try.prog 112 = some (4, true) := by kernel_rfl
@[go_sem] theorem flD112_0 : flD Try.prog 112 0 = some (17, 0, 1) := by kernel_rfl
@[go_sem] theorem flD112_1 : flD Try.prog 112 1 = some (17, 1, 1) := by kernel_rfl
@[go_sem] theorem flD112_2 : flD Try.prog 112 2 = some (17, 2, 1) := by kernel_rfl
@[go_sem] theorem flD112_3 : flD Try.prog 112 3 = some (9, 3, 1) := by kernel_rfl
@[go_sem] theorem stD112 : stD Try.prog 112 = some [(0, 1), (1, 1), (2, 1), (3, 1)] := by kernel_rfl
@[go_sem] theorem zeC112 : zeC Try.prog 112 = some [.nilp, .nilp, .nilp, .str ByteArray.empty] := by kernel_rfl
@[go_sem] theorem byD112 : byD Try.prog 112 = some 40 := by kernel_rfl
@[go_sem] theorem tyd113 : tyd Try.prog 113 = some (4, true) := by kernel_rfl
@[go_sem] theorem flD113_0 : flD Try.prog 113 0 = some (17, 0, 1) := by kernel_rfl
@[go_sem] theorem flD113_1 : flD Try.prog 113 1 = some (17, 1, 1) := by kernel_rfl
@[go_sem] theorem flD113_2 : flD Try.prog 113 2 = some (17, 2, 1) := by kernel_rfl
@[go_sem] theorem flD113_3 : flD Try.prog 113 3 = some (9, 3, 1) := by kernel_rfl
@[go_sem] theorem stD113 : stD Try.prog 113 = some [(0, 1), (1, 1), (2, 1), (3, 1)] := by kernel_rfl
@[go_sem] theorem zeC113 : zeC Try.prog 113 = some [.nilp, .nilp, .nilp, .str ByteArray.empty] := by kernel_rfl
@[go_sem] theorem byD113 : byD Try.prog 113 = some 40 := by kernel_rfl
@[go_sem] theorem tyd114 : tyd Try.prog 114 = some (0, true) := by kernel_rfl
@[go_sem] theorem arD114 : arD Try.prog 114 = some (0, 16, 1) := by kernel_rfl
@[go_sem] theorem stD114 : stD Try.prog 114 = none := by kernel_rfl
@[go_sem] theorem byD114 : byD Try.prog 114 = some 0 := by kernel_rfl
@[go_sem] theorem tyd115 : tyd Try.prog 115 = some (0, true) := by kernel_rfl
@[go_sem] theorem flD115_0 : flD Try.prog 115 0 = some (114, 0, 0) := by kernel_rfl
@[go_sem] theorem stD115 : stD Try.prog 115 = some [(0, 0)] := by kernel_rfl
@[go_sem] theorem byD115 : byD Try.prog 115 = some 0 := by kernel_rfl
@[go_sem] theorem tyd116 : tyd Try.prog 116 = some (0, true) := by kernel_rfl
@[go_sem] theorem flD116_0 : flD Try.prog 116 0 = some (114, 0, 0) := by kernel_rfl
@[go_sem] theorem stD116 : stD Try.prog 116 = some [(0, 0)] := by kernel_rfl
@[go_sem] theorem byD116 : byD Try.prog 116 = some 0 := by kernel_rfl
@[go_sem] theorem tyd117 : tyd Try.prog 117 = some (1, false) := by kernel_rfl
@[go_sem] theorem zeC117 : zeC Try.prog 117 = some [.any] := by kernel_rfl
@[go_sem] theorem byD117 : byD Try.prog 117 = some 8 := by kernel_rfl
@[go_sem] theorem tyd118 : tyd Try.prog 118 = some (1, false) := by kernel_rfl
@[go_sem] theorem zeC118 : zeC Try.prog 118 = some [.int .u8 0] := by kernel_rfl
@[go_sem] theorem byD118 : byD Try.prog 118 = some 1 := by kernel_rfl
@[go_sem] theorem inD118 : inD Try.prog 118 = some .u8 := by kernel_rfl
@[go_sem] theorem und118 : Try.prog.underlying 118 = some (.int .u8) := by kernel_rfl
@[go_sem] theorem valD118 : valD Try.prog 118 = some (some .u8) := by kernel_rfl
@[go_sem] theorem tyd119 : tyd Try.prog 119 = some (1, false) := by kernel_rfl
@[go_sem] theorem zeC119 : zeC Try.prog 119 = some [.int .u8 0] := by kernel_rfl
@[go_sem] theorem byD119 : byD Try.prog 119 = some 1 := by kernel_rfl
@[go_sem] theorem inD119 : inD Try.prog 119 = some .u8 := by kernel_rfl
@[go_sem] theorem und119 : Try.prog.underlying 119 = some (.int .u8) := by kernel_rfl
@[go_sem] theorem valD119 : valD Try.prog 119 = some (some .u8) := by kernel_rfl
@[go_sem] theorem tyd120 : tyd Try.prog 120 = some (1, false) := by kernel_rfl
@[go_sem] theorem zeC120 : zeC Try.prog 120 = some [.any] := by kernel_rfl
@[go_sem] theorem byD120 : byD Try.prog 120 = some 8 := by kernel_rfl
@[go_sem] theorem tyd121 : tyd Try.prog 121 = some (1, false) := by kernel_rfl
@[go_sem] theorem zeC121 : zeC Try.prog 121 = some [.nilp] := by kernel_rfl
@[go_sem] theorem byD121 : byD Try.prog 121 = some 8 := by kernel_rfl
@[go_sem] theorem tyd122 : tyd Try.prog 122 = some (1, false) := by kernel_rfl
@[go_sem] theorem zeC122 : zeC Try.prog 122 = some [.int .i32 0] := by kernel_rfl
@[go_sem] theorem byD122 : byD Try.prog 122 = some 4 := by kernel_rfl
@[go_sem] theorem inD122 : inD Try.prog 122 = some .i32 := by kernel_rfl
@[go_sem] theorem und122 : Try.prog.underlying 122 = some (.int .i32) := by kernel_rfl
@[go_sem] theorem valD122 : valD Try.prog 122 = some (some .i32) := by kernel_rfl
@[go_sem] theorem tyd123 : tyd Try.prog 123 = some (1, false) := by kernel_rfl
@[go_sem] theorem zeC123 : zeC Try.prog 123 = some [.int .i32 0] := by kernel_rfl
@[go_sem] theorem byD123 : byD Try.prog 123 = some 4 := by kernel_rfl
@[go_sem] theorem inD123 : inD Try.prog 123 = some .i32 := by kernel_rfl
@[go_sem] theorem und123 : Try.prog.underlying 123 = some (.int .i32) := by kernel_rfl
@[go_sem] theorem valD123 : valD Try.prog 123 = some (some .i32) := by kernel_rfl
@[go_sem] theorem tyd124 : tyd Try.prog 124 = some (11, true) := by kernel_rfl
@[go_sem] theorem flD124_0 : flD Try.prog 124 0 = some (12, 0, 1) := by kernel_rfl
@[go_sem] theorem flD124_1 : flD Try.prog 124 1 = some (12, 1, 1) := by kernel_rfl
@[go_sem] theorem flD124_2 : flD Try.prog 124 2 = some (94, 2, 1) := by kernel_rfl
@[go_sem] theorem flD124_3 : flD Try.prog 124 3 = some (118, 3, 1) := by kernel_rfl
@[go_sem] theorem flD124_4 : flD Try.prog 124 4 = some (5, 4, 1) := by kernel_rfl
@[go_sem] theorem flD124_5 : flD Try.prog 124 5 = some (5, 5, 1) := by kernel_rfl
@[go_sem] theorem flD124_6 : flD Try.prog 124 6 = some (119, 6, 1) := by kernel_rfl
@[go_sem] theorem flD124_7 : flD Try.prog 124 7 = some (120, 7, 1) := by kernel_rfl
@[go_sem] theorem flD124_8 : flD Try.prog 124 8 = some (121, 8, 1) := by kernel_rfl
@[go_sem] theorem flD124_9 : flD Try.prog 124 9 = some (122, 9, 1) := by kernel_rfl
@[go_sem] theorem flD124_10 : flD Try.prog 124 10 = some (123, 10, 1) := by kernel_rfl
@[go_sem] theorem stD124 : stD Try.prog 124 = some [(0, 1), (1, 1), (2, 1), (3, 1), (4, 1), (5, 1), (6, 1), (7, 1), (8, 1), (9, 1), (10, 1)] := by kernel_rfl
@[go_sem] theorem zeC124 : zeC Try.prog 124 = some [.int .u64 0, .int .u64 0, .int .u32 0, .int .u8 0, .int .u8 0, .int .u8 0, .int .u8 0, .any, .nilp, .int .i32 0, .int .i32 0] := by kernel_rfl
@[go_sem] theorem byD124 : byD Try.prog 124 = some 48 := by kernel_rfl
@[go_sem] theorem tyd125 : tyd Try.prog 125 = some (11, true) := by kernel_rfl
@[go_sem] theorem flD125_0 : flD Try.prog 125 0 = some (12, 0, 1) := by kernel_rfl
@[go_sem] theorem flD125_1 : flD Try.prog 125 1 = some (12, 1, 1) := by kernel_rfl
@[go_sem] theorem flD125_2 : flD Try.prog 125 2 = some (94, 2, 1) := by kernel_rfl
@[go_sem] theorem flD125_3 : flD Try.prog 125 3 = some (118, 3, 1) := by kernel_rfl
@[go_sem] theorem flD125_4 : flD Try.prog 125 4 = some (5, 4, 1) := by kernel_rfl
@[go_sem] theorem flD125_5 : flD Try.prog 125 5 = some (5, 5, 1) := by kernel_rfl
@[go_sem] theorem flD125_6 : flD Try.prog 125 6 = some (119, 6, 1) := by kernel_rfl
@[go_sem] theorem flD125_7 : flD Try.prog 125 7 = some (120, 7, 1) := by kernel_rfl
@[go_sem] theorem flD125_8 : flD Try.prog 125 8 = some (121, 8, 1) := by kernel_rfl
@[go_sem] theorem flD125_9 : flD Try.prog 125 9 = some (122, 9, 1) := by kernel_rfl
@[go_sem] theorem flD125_10 : flD Try.prog 125 10 = some (123, 10, 1) := by kernel_rfl
@[go_sem] theorem stD125 : stD Try.prog 125 = some [(0, 1), (1, 1), (2, 1), (3, 1), (4, 1), (5, 1), (6, 1), (7, 1), (8, 1), (9, 1), (10, 1)] := by kernel_rfl
@[go_sem] theorem zeC125 : zeC Try.prog 125 = some [.int .u64 0, .int .u64 0, .int .u32 0, .int .u8 0, .int .u8 0, .int .u8 0, .int .u8 0, .any, .nilp, .int .i32 0, .int .i32 0] := by kernel_rfl
@[go_sem] theorem byD125 : byD Try.prog 125 = some 48 := by kernel_rfl
@[go_sem] theorem ent2 : enters Try.prog 2 = true := by kernel_rfl
@[go_sem] theorem ent3 : enters Try.prog 3 = true := by kernel_rfl
@[go_sem] theorem ent4 : enters Try.prog 4 = true := by kernel_rfl
@[go_sem] theorem ent5 : enters Try.prog 5 = true := by kernel_rfl
@[go_sem] theorem ent6 : enters Try.prog 6 = true := by kernel_rfl
@[go_sem] theorem ent7 : enters Try.prog 7 = true := by kernel_rfl
@[go_sem] theorem ent8 : enters Try.prog 8 = true := by kernel_rfl
@[go_sem] theorem ent9 : enters Try.prog 9 = true := by kernel_rfl
@[go_sem] theorem ent10 : enters Try.prog 10 = true := by kernel_rfl
@[go_sem] theorem ent11 : enters Try.prog 11 = true := by kernel_rfl
@[go_sem] theorem ent12 : enters Try.prog 12 = true := by kernel_rfl
@[go_sem] theorem ent13 : enters Try.prog 13 = true := by kernel_rfl
@[go_sem] theorem ent14 : enters Try.prog 14 = true := by kernel_rfl
@[go_sem] theorem ent15 : enters Try.prog 15 = true := by kernel_rfl
@[go_sem] theorem ent16 : enters Try.prog 16 = true := by kernel_rfl
@[go_sem] theorem ent17 : enters Try.prog 17 = true := by kernel_rfl
@[go_sem] theorem ent18 : enters Try.prog 18 = true := by kernel_rfl
@[go_sem] theorem ent19 : enters Try.prog 19 = true := by kernel_rfl
@[go_sem] theorem ent20 : enters Try.prog 20 = true := by kernel_rfl
@[go_sem] theorem ent21 : enters Try.prog 21 = true := by kernel_rfl
@[go_sem] theorem ent22 : enters Try.prog 22 = true := by kernel_rfl
@[go_sem] theorem ent23 : enters Try.prog 23 = true := by kernel_rfl
@[go_sem] theorem ent24 : enters Try.prog 24 = true := by kernel_rfl
@[go_sem] theorem ent25 : enters Try.prog 25 = true := by kernel_rfl
@[go_sem] theorem ent26 : enters Try.prog 26 = true := by kernel_rfl
@[go_sem] theorem ent27 : enters Try.prog 27 = true := by kernel_rfl
@[go_sem] theorem ent28 : enters Try.prog 28 = true := by kernel_rfl
@[go_sem] theorem ent29 : enters Try.prog 29 = true := by kernel_rfl
@[go_sem] theorem ent30 : enters Try.prog 30 = true := by kernel_rfl
@[go_sem] theorem ent31 : enters Try.prog 31 = true := by kernel_rfl
@[go_sem] theorem ent32 : enters Try.prog 32 = true := by kernel_rfl
@[go_sem] theorem ent33 : enters Try.prog 33 = true := by kernel_rfl
@[go_sem] theorem ent34 : enters Try.prog 34 = true := by kernel_rfl
@[go_sem] theorem ent35 : enters Try.prog 35 = true := by kernel_rfl
@[go_sem] theorem ent36 : enters Try.prog 36 = true := by kernel_rfl
@[go_sem] theorem ent37 : enters Try.prog 37 = true := by kernel_rfl
@[go_sem] theorem ent38 : enters Try.prog 38 = true := by kernel_rfl
@[go_sem] theorem ent39 : enters Try.prog 39 = true := by kernel_rfl
@[go_sem] theorem ent40 : enters Try.prog 40 = true := by kernel_rfl
@[go_sem] theorem ent41 : enters Try.prog 41 = true := by kernel_rfl
@[go_sem] theorem ent42 : enters Try.prog 42 = true := by kernel_rfl
@[go_sem] theorem ent43 : enters Try.prog 43 = true := by kernel_rfl
@[go_sem] theorem ent44 : enters Try.prog 44 = true := by kernel_rfl
@[go_sem] theorem ent45 : enters Try.prog 45 = true := by kernel_rfl
@[go_sem] theorem ent46 : enters Try.prog 46 = true := by kernel_rfl
@[go_sem] theorem ent47 : enters Try.prog 47 = true := by kernel_rfl
@[go_sem] theorem ent48 : enters Try.prog 48 = true := by kernel_rfl
@[go_sem] theorem ent49 : enters Try.prog 49 = true := by kernel_rfl
@[go_sem] theorem ent50 : enters Try.prog 50 = true := by kernel_rfl
@[go_sem] theorem ent51 : enters Try.prog 51 = true := by kernel_rfl
@[go_sem] theorem ent52 : enters Try.prog 52 = true := by kernel_rfl
@[go_sem] theorem ent53 : enters Try.prog 53 = true := by kernel_rfl
@[go_sem] theorem ent54 : enters Try.prog 54 = true := by kernel_rfl
@[go_sem] theorem ent55 : enters Try.prog 55 = true := by kernel_rfl
@[go_sem] theorem ent56 : enters Try.prog 56 = true := by kernel_rfl
@[go_sem] theorem ent57 : enters Try.prog 57 = true := by kernel_rfl
@[go_sem] theorem ent58 : enters Try.prog 58 = true := by kernel_rfl
@[go_sem] theorem ent59 : enters Try.prog 59 = true := by kernel_rfl
@[go_sem] theorem ent60 : enters Try.prog 60 = true := by kernel_rfl
@[go_sem] theorem ent61 : enters Try.prog 61 = true := by kernel_rfl
@[go_sem] theorem ent62 : enters Try.prog 62 = true := by kernel_rfl
@[go_sem] theorem ent63 : enters Try.prog 63 = true := by kernel_rfl
@[go_sem] theorem ent64 : enters Try.prog 64 = true := by kernel_rfl
@[go_sem] theorem ent65 : enters Try.prog 65 = true := by kernel_rfl
@[go_sem] theorem ent66 : enters Try.prog 66 = true := by kernel_rfl
@[go_sem] theorem ent67 : enters Try.prog 67 = true := by kernel_rfl
@[go_sem] theorem ent68 : enters Try.prog 68 = true := by kernel_rfl
@[go_sem] theorem ent69 : enters Try.prog 69 = true := by kernel_rfl
@[go_sem] theorem ent70 : enters Try.prog 70 = true := by kernel_rfl
@[go_sem] theorem ent71 : enters Try.prog 71 = true := by kernel_rfl
@[go_sem] theorem ent72 : enters Try.prog 72 = true := by kernel_rfl
@[go_sem] theorem ent73 : enters Try.prog 73 = true := by kernel_rfl
@[go_sem] theorem ent74 : enters Try.prog 74 = true := by kernel_rfl
@[go_sem] theorem ent75 : enters Try.prog 75 = true := by kernel_rfl
@[go_sem] theorem ent76 : enters Try.prog 76 = true := by kernel_rfl
@[go_sem] theorem ent77 : enters Try.prog 77 = true := by kernel_rfl
@[go_sem] theorem ent78 : enters Try.prog 78 = true := by kernel_rfl
@[go_sem] theorem ent79 : enters Try.prog 79 = true := by kernel_rfl
@[go_sem] theorem ent80 : enters Try.prog 80 = true := by kernel_rfl
@[go_sem] theorem ent81 : enters Try.prog 81 = true := by kernel_rfl
@[go_sem] theorem ent82 : enters Try.prog 82 = true := by kernel_rfl
@[go_sem] theorem ent83 : enters Try.prog 83 = true := by kernel_rfl
end Go.Proofs.M

/- Matchings: the search for an alternating path, as a function of lists. -/
namespace Go.AM

abbrev MSt := List Bool × List Int × List Int
def mstep (f : Int → List Bool → List Int → List Int → Bool × MSt) (r : Int) (s : List Bool) (L R : List Int) : Bool × MSt :=
  if R.getD r.toNat 0 < 0 then (true, s.set r.toNat true, L, R) else f (R.getD r.toNat 0) (s.set r.toNat true) L R
def mgo (f : Int → List Bool → List Int → List Int → Bool × MSt) (l : Int) : List Int → List Bool → List Int → List Int → Bool × MSt
  | [], s, L, R => (false, s, L, R)
  | r :: rs, s, L, R => if s.getD r.toNat false = true then mgo f l rs s L R
    else match mstep f r s L R with
      | (true, s2, L2, R2) => (true, s2, L2.set l.toNat r, R2.set r.toNat l)
      | (false, s2, L2, R2) => mgo f l rs s2 L2 R2
def mtry (nb : List (List Int)) : Nat → Int → List Bool → List Int → List Int → Bool × MSt
  | 0, _, s, L, R => (false, s, L, R)
  | n + 1, l, s, L, R => mgo (mtry nb n) l (nb.getD l.toNat []) s L R

/-- How many are not seen. -/
def uns (s : List Bool) : Nat := s.countP (!·)

/-- The rows name right nodes, the partners are left nodes. -/
structure MOk (n m : Nat) (nb : List (List Int)) (s : List Bool) (L R : List Int) : Prop where
  hnb : nb.length = n ∧ ∀ row ∈ nb, ∀ r ∈ row, 0 ≤ r ∧ r < (m : Int)
  hs : s.length = m
  hL : L.length = n ∧ ∀ x ∈ L, x < (m : Int)
  hR : R.length = m ∧ ∀ x ∈ R, x < (n : Int)

theorem uns_set {s : List Bool} {i : Nat} (hi : i < s.length) (h : s.getD i false = false) : uns (s.set i true) + 1 = uns s := by
  unfold uns
  induction s generalizing i with
  | nil => simp at hi
  | cons a s ih =>
    cases i with
    | zero =>
      simp only [List.getD_cons_zero] at h
      subst h
      simp
    | succ i =>
      simp only [List.getD_cons_succ] at h
      simp only [List.length_cons] at hi
      have := ih (by omega) h
      simp only [List.set_cons_succ, List.countP_cons]
      omega
theorem uns_replicate (m : Nat) : uns (List.replicate m false) = m := by
  unfold uns; induction m with
  | zero => rfl
  | succ m ih => rw [List.replicate_succ, List.countP_cons, ih]; simp

theorem mem_set_or {α : Type} {l : List α} {i : Nat} {a x : α} (h : x ∈ l.set i a) : x ∈ l ∨ x = a := List.mem_or_eq_of_mem_set h

theorem MOk.seen {n m : Nat} {nb : List (List Int)} {s : List Bool} {L R : List Int} (h : MOk n m nb s L R) (i : Nat) : MOk n m nb (s.set i true) L R :=
  ⟨h.hnb, by simp [h.hs], h.hL, h.hR⟩
theorem MOk.join {n m : Nat} {nb : List (List Int)} {s : List Bool} {L R : List Int} (h : MOk n m nb s L R) {l r : Int} (hl : l < (n : Int)) (hr : r < (m : Int)) : MOk n m nb s (L.set l.toNat r) (R.set r.toNat l) :=
  ⟨h.hnb, h.hs, ⟨by simp [h.hL.1], fun x hx => by rcases mem_set_or hx with h1 | h1; exact h.hL.2 x h1; omega⟩, ⟨by simp [h.hR.1], fun x hx => by rcases mem_set_or hx with h1 | h1; exact h.hR.2 x h1; omega⟩⟩

/-- What the search keeps. -/
def MKeep (n m : Nat) (nb : List (List Int)) (s : List Bool) (x : Bool × MSt) : Prop := MOk n m nb x.2.1 x.2.2.1 x.2.2.2 ∧ uns x.2.1 ≤ uns s

theorem mstep_keep {n m : Nat} {nb : List (List Int)} {f : Int → List Bool → List Int → List Int → Bool × MSt} (hf : ∀ l s L R, l < (n : Int) → MOk n m nb s L R → MKeep n m nb s (f l s L R)) {r : Int} {s : List Bool} {L R : List Int}
    (hr : 0 ≤ r ∧ r < (m : Int)) (h : MOk n m nb s L R) (hs : s.getD r.toNat false = false) : MOk n m nb (mstep f r s L R).2.1 (mstep f r s L R).2.2.1 (mstep f r s L R).2.2.2 ∧ uns (mstep f r s L R).2.1 + 1 ≤ uns s := by
  have hu := uns_set (s := s) (i := r.toNat) (by rw [h.hs]; omega) hs
  unfold mstep
  split
  · exact ⟨h.seen _, by show uns (s.set r.toNat true) + 1 ≤ _; omega⟩
  · have hRl : R.getD r.toNat 0 < (n : Int) := by
      have : r.toNat < R.length := by rw [h.hR.1]; omega
      rw [List.getD_eq_getElem?_getD, List.getElem?_eq_getElem this]
      exact h.hR.2 _ (List.getElem_mem this)
    have hk := hf (R.getD r.toNat 0) (s.set r.toNat true) L R hRl (h.seen _)
    exact ⟨hk.1, by have := hk.2; omega⟩
theorem mgo_keep {n m : Nat} {nb : List (List Int)} {f : Int → List Bool → List Int → List Int → Bool × MSt} (hf : ∀ l s L R, l < (n : Int) → MOk n m nb s L R → MKeep n m nb s (f l s L R)) {l : Int} (hl : l < (n : Int)) :
    ∀ (rs : List Int) (s : List Bool) (L R : List Int), (∀ r ∈ rs, 0 ≤ r ∧ r < (m : Int)) → MOk n m nb s L R → MKeep n m nb s (mgo f l rs s L R)
  | [], s, L, R, _, h => ⟨h, Nat.le_refl _⟩
  | r :: rs, s, L, R, hr, h => by
    have h1 := hr r (by simp)
    have h2 : ∀ r ∈ rs, 0 ≤ r ∧ r < (m : Int) := fun x hx => hr x (by simp [hx])
    unfold mgo
    split
    · exact mgo_keep hf hl rs s L R h2 h
    · rename_i hs
      have hk := mstep_keep hf h1 h (by simpa using hs)
      split
      · rename_i s2 L2 R2 e
        rw [e] at hk
        exact ⟨hk.1.join hl h1.2, by have := hk.2; simp only at this ⊢; omega⟩
      · rename_i s2 L2 R2 e
        rw [e] at hk
        have h3 := mgo_keep hf hl rs s2 L2 R2 h2 hk.1
        exact ⟨h3.1, by have := hk.2; have h4 := h3.2; simp only at this; omega⟩
theorem mtry_keep {n m : Nat} {nb : List (List Int)} : ∀ (k : Nat) (l : Int) (s : List Bool) (L R : List Int), l < (n : Int) → MOk n m nb s L R → MKeep n m nb s (mtry nb k l s L R)
  | 0, _, s, L, R, _, h => ⟨h, Nat.le_refl _⟩
  | k + 1, l, s, L, R, hl, h => by
    unfold mtry
    refine mgo_keep (fun l s L R => mtry_keep k l s L R) hl _ s L R (fun r hr => ?_) h
    by_cases hi : l.toNat < nb.length
    · rw [List.getD_eq_getElem?_getD, List.getElem?_eq_getElem hi] at hr
      exact h.hnb.2 _ (List.getElem_mem hi) r hr
    · rw [List.getD_eq_getElem?_getD, List.getElem?_eq_none (by omega)] at hr
      cases hr

end Go.AM

/- The matching seat. -/
namespace Go.Proofs.M
open Go.AM Go
theorem mixed : Try.prog.follows .mixedOrders = true := by kernel_rfl
end Go.Proofs.M

namespace Go.Proofs.M
open Go.AM Go
set_option maxRecDepth 100000
set_option maxHeartbeats 1000000
theorem bwords_r (n : Int) (h0 : 0 ≤ n) (h1 : n ≤ 1000000) : Reads Try.prog 50 false [.int .i64 n] (.int .i64 (wordsN n)) := by
  have hd : 0 ≤ (n + 64 - 1).tdiv 64 ∧ (n + 64 - 1).tdiv 64 ≤ 1000064 := by rw [Int.tdiv_eq_ediv_of_nonneg (by omega)]; omega
  refine Reads.body (rs := [.tmp 2]) Try.func50 rfl Try.ntmps50 rfl (by simp) ?_
  generalize hQr : retQ _ _ _ = Qr
  refine AW.seq fun K1 hK1 => ?_
  -- region 0
  refine AW.regionK 0 (fun _ => none) [0] [] ?_
  simp only [go_sem, reduceIte, reduceCtorEq, Nat.reduceAdd, Nat.reduceMul, Nat.reduceEqDiff, Nat.reduceLT, Nat.reduceLeDiff, Nat.reduceSub, Nat.reducePow, Nat.reduceBEq, Int.reduceToNat, List.reduceReplicate]
  repeat with_reducible refine cj ?_ ?_
  all_goals try first | omega
  refine hK1 _ _ _ ?_; clear hK1
  refine AW.seq fun K2 hK2 => ?_
  -- region 1
  refine AW.regionK 0 (fun _ => none) [2] [] ?_
  simp only [go_sem, reduceIte, reduceCtorEq, Nat.reduceAdd, Nat.reduceMul, Nat.reduceEqDiff, Nat.reduceLT, Nat.reduceLeDiff, Nat.reduceSub, Nat.reducePow, Nat.reduceBEq, Int.reduceToNat, List.reduceReplicate]
  repeat with_reducible refine cj ?_ ?_
  all_goals try first | omega
  refine hK2 _ _ _ ?_; clear hK2
  refine AW.ret ?_
  rw [← hQr]
  simp only [go_sem, reduceIte, reduceCtorEq, Nat.reduceAdd, Nat.reduceMul, Nat.reduceEqDiff, Nat.reduceLT, Nat.reduceLeDiff, Nat.reduceSub, Nat.reducePow, Nat.reduceBEq, Int.reduceToNat, List.reduceReplicate]
  exact Wk.of_eq (by simp [wordsN])
end Go.Proofs.M

namespace Go.Proofs.M
open Go.AM Go
set_option maxRecDepth 100000
set_option maxHeartbeats 1000000
end Go.Proofs.M

namespace Go.Proofs.M
open Go.AM Go
set_option maxRecDepth 100000
set_option maxHeartbeats 1000000
theorem set_getD_self {α : Type} (l : List α) (i : Nat) (d : α) : l.set i (l.getD i d) = l := by
  refine List.ext_getElem? fun k => ?_
  rw [List.getElem?_set]
  split
  · rename_i h; subst h
    split
    · rename_i h2; simp [List.getD_eq_getElem?_getD, h2]
    · rename_i h2; rw [List.getElem?_eq_none (by omega)]
  · rfl
end Go.Proofs.M

namespace Go.Proofs.M
open Go.AM Go
set_option maxRecDepth 100000
set_option maxHeartbeats 1000000
theorem wrap_small {z : Int} (h0 : 0 ≤ z) (h1 : z < 18446744073709551616) : IntKind.u64.wrap z = z := by simp [IntKind.wrap, IntKind.signed, IntKind.bits]; omega
theorem mask32 {n : Nat} (h : n < 4294967296) : bAnd .u64 (n : Int) 4294967295 = n := by
  rw [show (4294967295 : Int) = ((4294967295 : Nat) : Int) from rfl, bAnd_nat (by omega) (by decide)]
  have := Nat.and_two_pow_sub_one_eq_mod n 32
  simp only [Nat.reducePow, Nat.reduceSub] at this
  rw [this, Nat.mod_eq_of_lt h]
theorem shr32 {n : Nat} (h : n < 4294967296) : bShr .u64 (n : Int) 32 = 0 := by
  rw [show (32 : Int) = ((32 : Nat) : Int) from rfl, bShr_nat (by decide), Nat.shiftRight_eq_div_pow, Nat.div_eq_of_lt (by simpa using h)]; rfl
def repC (a : Int) (n c : Nat) : List Int := List.replicate c a ++ List.replicate (n - c) 0
theorem repC_take (a : Int) {n c : Nat} (h : c ≤ n) : (repC a n c).take c = List.replicate c a := by
  unfold repC; rw [List.take_append_of_le_length (by simp)]; simp
theorem repC_step (a : Int) {n c : Nat} (h : c ≤ n) : ints ((repC a n c).take c) ++ ints (((repC a n c).take c).take (min ((repC a n c).take c).length (n - c))) ++ (ints (repC a n c)).drop (c + min ((repC a n c).take c).length (n - c)) = ints (repC a n (c + min (n - c) c)) := by
  rw [repC_take a h, List.length_replicate, List.take_replicate, ints_drop]
  have e : min (min c (n - c)) c = min (n - c) c := by omega
  have e2 : min c (n - c) = min (n - c) c := by omega
  rw [e, e2]
  generalize hm : min (n - c) c = m
  have hd : (repC a n c).drop (c + m) = List.replicate (n - (c + m)) 0 := by
    unfold repC
    rw [List.drop_append, List.length_replicate, List.drop_of_length_le (by simp), List.drop_replicate, show c + m - c = m by omega, show n - c - m = n - (c + m) by omega]; simp
  rw [hd]
  unfold repC
  simp only [ints, List.map_append, ← List.replicate_append_replicate, List.append_assoc]
end Go.Proofs.M

/- What the relation program computes, over tables. -/
namespace Go.AM
def iter {α : Type} (f : Nat → α → α) : Nat → α → α
  | 0, x => x
  | m + 1, x => f m (iter f m x)
theorem iter_inv {α : Type} {f : Nat → α → α} {p : α → Prop} {n : Nat} (hf : ∀ i x, i < n → p x → p (f i x)) : ∀ m x, m ≤ n → p x → p (iter f m x)
  | 0, _, _, h => h
  | m + 1, x, hm, h => hf m _ (by omega) (iter_inv hf m x (by omega) h)
def orRow (t : List (List Bool)) (i : Nat) (b : List Bool) : List (List Bool) := t.set i (List.zipWith (· || ·) (rowT t i) b)
theorem Sq.orRow {n : Nat} {t : List (List Bool)} (h : Sq n t) {i : Nat} (hi : i < n) {b : List Bool} (hb : b.length = n) : Sq n (orRow t i b) :=
  h.set i (by have := h.rowLen hi; simp; omega)
def zeroT (n : Nat) : List (List Bool) := List.replicate n (List.replicate n false)
def compI (a b : List (List Bool)) (i k : Nat) (t : List (List Bool)) : List (List Bool) := if atT a i k then orRow t i (rowT b k) else t
def compT (n : Nat) (a b : List (List Bool)) : List (List Bool) := iter (fun i t => iter (compI a b i) n t) n (zeroT n)
theorem Sq.compI {n : Nat} {a b t : List (List Bool)} (hb : Sq n b) (h : Sq n t) {i k : Nat} (hi : i < n) (hk : k < n) : Sq n (compI a b i k t) := by
  unfold AM.compI; split
  · exact h.orRow hi (hb.rowLen hk)
  · exact h
theorem Sq.compK {n : Nat} {a b t : List (List Bool)} (hb : Sq n b) (h : Sq n t) {i : Nat} (hi : i < n) {m : Nat} (hm : m ≤ n) : Sq n (iter (AM.compI a b i) m t) := iter_inv (p := Sq n) (n := n) (fun k x hk hx => Sq.compI hb hx hi hk) m t hm h
theorem Sq.comp' {n : Nat} {a b : List (List Bool)} (hb : Sq n b) {m : Nat} (hm : m ≤ n) : Sq n (iter (fun i t => iter (AM.compI a b i) n t) m (zeroT n)) := iter_inv (p := Sq n) (n := n) (fun i x hi hx => Sq.compK hb hx hi (Nat.le_refl _)) m _ hm (Sq.rep n)
theorem Sq.comp {n : Nat} {a b : List (List Bool)} (hb : Sq n b) : Sq n (compT n a b) := Sq.comp' hb (Nat.le_refl _)
theorem pairs_app (l : List (Int × Int)) (a b : Int) : l.map pairV ++ [[.int .i64 a, .int .i64 b]] = (l ++ [(a, b)]).map pairV := by simp [pairV]
end Go.AM

/- More on tables: what the reference computes. -/
namespace Go.AM
section
variable (s : Store) (d : Nat)
end
end Go.AM

/- The algebra of relations. -/
namespace Go.AM
end Go.AM

/- The transitive closure. -/
namespace Go.AM
end Go.AM

/- The program's cycle. -/
namespace Go.AM
abbrev CSt := List Int × List Int × Int
def cycI (t : List (List Bool)) (f at_ v : Int) (i : Nat) (st : CSt) : CSt :=
  if atT t i v.toNat then
    if (i : Int) ≠ f ∧ st.1.getD i 0 < 0 then (st.1.set i (at_ + 1), st.2.1 ++ [(i : Int)], if (i : Int) = f ∧ st.2.2 = 0 then at_ + 1 else st.2.2)
    else (st.1, st.2.1, if (i : Int) = f ∧ st.2.2 = 0 then at_ + 1 else st.2.2)
  else st
def cycAt (k : Nat) (st : CSt) : Int := if 0 < k then st.1.getD (st.2.1.getD k 0).toNat 0 else 0
def cycK (t : List (List Bool)) (n : Nat) (f : Int) (k : Nat) (st : CSt) : CSt := iter (cycI t f (cycAt k st) (st.2.1.getD k 0)) n st
def cyc0 (n : Nat) (f : Int) : CSt := (List.replicate n (-1), [f], 0)
structure WfC (n : Nat) (f : Int) (st : CSt) : Prop where
  len : st.1.length = n
  rng : ∀ v ∈ st.2.1, 0 ≤ v ∧ v < n
  cnt : st.1.count (-1) + st.2.1.length ≤ n + 1
  vals : ∀ i, -1 ≤ st.1.getD i 0 ∧ st.1.getD i 0 ≤ st.2.1.length + 1
  ln : 0 ≤ st.2.2 ∧ st.2.2 ≤ st.2.1.length + 2
theorem count_setI {l : List Int} {i : Nat} {k : Int} (h : l.getD i 0 = -1) (hk : k ≠ -1) : (l.set i k).count (-1) + 1 = l.count (-1) := by
  have hi : i < l.length := by
    rcases Nat.lt_or_ge i l.length with h1 | h1
    · exact h1
    · rw [Go.AM.getD_out h1] at h; omega
  rw [List.count_set hi]
  have e1 : l[i] = -1 := by simpa [List.getD_eq_getElem?_getD, hi] using h
  have e2 : (k == -1) = false := by simpa using hk
  have hpos : 0 < l.count (-1) := List.count_pos_iff.2 (e1 ▸ List.getElem_mem hi)
  simp only [e1, beq_self_eq_true, if_true, e2, Bool.false_eq_true, if_false]
  omega
end Go.AM
namespace Go.AM
theorem WfC.start {n : Nat} {f : Int} (h0 : 0 ≤ f) (h1 : f < n) : WfC n f (cyc0 n f) := by
  refine ⟨by simp [cyc0], fun v hv => ?_, by simp [cyc0], fun i => ?_, by simp [cyc0]⟩
  · simp [cyc0] at hv; subst hv; exact ⟨h0, h1⟩
  · simp only [cyc0]
    rw [List.getD_eq_getElem?_getD, List.getElem?_replicate]; split <;> simp
theorem WfC.i {n : Nat} {f : Int} {st : CSt} (h : WfC n f st) (t : List (List Bool)) {at_ : Int} (v : Int) {i : Nat} (hi : i < n) (ha0 : -1 ≤ at_) (ha1 : at_ ≤ st.2.1.length + 1) : WfC n f (cycI t f at_ v i st) ∧ st.2.1.length ≤ (cycI t f at_ v i st).2.1.length ∧ ∀ (j : Nat) (x : Int), st.2.1[j]? = some x → (cycI t f at_ v i st).2.1[j]? = some x := by
  unfold cycI
  split
  · split
    · rename_i _ hc
      have hv := h.vals i
      have hm : st.1.getD i 0 = -1 := by omega
      have hcs := count_setI hm (k := at_ + 1) (by omega)
      have hln := h.ln
      refine ⟨⟨by simp [h.len], fun x hx => ?_, ?_, fun j => ?_, ?_⟩, by simp, fun j x hj => ?_⟩
      · rcases List.mem_append.1 hx with hx | hx
        · exact h.rng x hx
        · simp at hx; subst hx; omega
      · have := h.cnt
        simp only [List.length_append, List.length_singleton]; omega
      · have := h.vals j
        simp only [List.length_append, List.length_singleton]
        by_cases e : i = j
        · subst e
          by_cases h2 : i < st.1.length
          · rw [Go.AM.getD_set_eq h2]; omega
          · rw [List.set_eq_of_length_le (by omega)]; omega
        · rw [Go.AM.getD_set_ne e]; omega
      · simp only [List.length_append, List.length_singleton]
        split <;> omega
      · rw [List.getElem?_append_left (List.getElem?_eq_some_iff.1 hj).1]; exact hj
    · have hln := h.ln
      refine ⟨⟨h.len, h.rng, h.cnt, h.vals, ?_⟩, Nat.le_refl _, fun j x hj => hj⟩
      simp only
      split <;> omega
  · exact ⟨h, Nat.le_refl _, fun j x hj => hj⟩
theorem WfC.k' {n : Nat} {f : Int} {st : CSt} (h : WfC n f st) (t : List (List Bool)) {at_ : Int} (v : Int) (ha0 : -1 ≤ at_) (ha1 : at_ ≤ st.2.1.length + 1) : ∀ m, m ≤ n → WfC n f (iter (cycI t f at_ v) m st) ∧ st.2.1.length ≤ (iter (cycI t f at_ v) m st).2.1.length ∧ ∀ (j : Nat) (x : Int), st.2.1[j]? = some x → (iter (cycI t f at_ v) m st).2.1[j]? = some x
  | 0, _ => ⟨h, Nat.le_refl _, fun _ _ hj => hj⟩
  | m + 1, hm => by
    obtain ⟨h1, h2, h3⟩ := WfC.k' h t v ha0 ha1 m (by omega)
    obtain ⟨g1, g2, g3⟩ := h1.i t v (i := m) (by omega) ha0 (by omega)
    exact ⟨g1, Nat.le_trans h2 g2, fun j x hj => g3 j x (h3 j x hj)⟩
theorem WfC.at {n : Nat} {f : Int} {st : CSt} (h : WfC n f st) (k : Nat) : -1 ≤ cycAt k st ∧ cycAt k st ≤ st.2.1.length + 1 := by
  unfold cycAt; split
  · exact h.vals _
  · omega
theorem WfC.k {n : Nat} {f : Int} {st : CSt} (h : WfC n f st) (t : List (List Bool)) (k : Nat) : WfC n f (cycK t n f k st) ∧ st.2.1.length ≤ (cycK t n f k st).2.1.length ∧ ∀ (j : Nat) (x : Int), st.2.1[j]? = some x → (cycK t n f k st).2.1[j]? = some x :=
  WfC.k' h t _ (h.at k).1 (h.at k).2 n (Nat.le_refl _)
end Go.AM

/- The least topological order. -/
namespace Go.AM
def freeO (n : Nat) (t : List (List Bool)) (out : List Nat) (i : Nat) : Bool := !out.contains i && (List.range n).all fun k => !atT t k i || out.contains k
theorem freeO_iff {n : Nat} {t : List (List Bool)} {out : List Nat} {i : Nat} : freeO n t out i = true ↔ i ∉ out ∧ ∀ k, k < n → atT t k i = true → k ∈ out := by
  simp only [freeO, Bool.and_eq_true, Bool.not_eq_true', List.all_eq_true, List.mem_range, Bool.or_eq_true]
  constructor
  · rintro ⟨h1, h2⟩
    refine ⟨fun h => (by simp [h] at h1), fun k hk ha => ?_⟩
    rcases h2 k hk with h | h
    · rw [ha] at h; cases h
    · simpa using h
  · rintro ⟨h1, h2⟩
    refine ⟨by simpa using h1, fun k hk => ?_⟩
    cases ha : atT t k i with
    | false => exact .inl rfl
    | true => exact .inr (by simpa using h2 k hk ha)
structure OrdI (n : Nat) (t : List (List Bool)) (out : List Nat) : Prop where
  nd : out.Nodup
  rng : ∀ i ∈ out, i < n
  top : ∀ (q i k : Nat), out[q]? = some i → k < n → atT t k i = true → ∃ p : Nat, p < q ∧ out[p]? = some k
theorem OrdI.closed {n : Nat} {t : List (List Bool)} {out : List Nat} (h : OrdI n t out) {i k : Nat} (hi : i ∈ out) (hk : k < n) (ha : atT t k i = true) : k ∈ out := by
  obtain ⟨q, hq, rfl⟩ := List.mem_iff_getElem.1 hi
  obtain ⟨p, _, hp⟩ := h.top q _ k (List.getElem?_eq_getElem hq) hk ha
  exact List.mem_of_getElem? hp
theorem OrdI.snoc {n : Nat} {t : List (List Bool)} {out : List Nat} (h : OrdI n t out) {i : Nat} (hi : i < n) (hf : freeO n t out i = true) : OrdI n t (out ++ [i]) := by
  obtain ⟨h1, h2⟩ := freeO_iff.1 hf
  refine ⟨?_, fun j hj => ?_, fun q j k hq hk ha => ?_⟩
  · rw [List.nodup_append]
    exact ⟨h.nd, by simp, fun a ha b hb => by simp at hb; subst hb; rintro rfl; exact h1 ha⟩
  · rcases List.mem_append.1 hj with hj | hj
    · exact h.rng j hj
    · simp at hj; omega
  · by_cases hql : q < out.length
    · rw [List.getElem?_append_left hql] at hq
      obtain ⟨p, hp1, hp2⟩ := h.top q j k hq hk ha
      exact ⟨p, hp1, by rw [List.getElem?_append_left (by omega)]; exact hp2⟩
    · have hq2 := (List.getElem?_eq_some_iff.1 hq).1
      simp at hq2
      have : q = out.length := by omega
      subst this
      simp at hq; subst hq
      obtain ⟨p, hp, hpk⟩ := List.mem_iff_getElem.1 (h2 k hk ha)
      exact ⟨p, hp, by rw [List.getElem?_append_left hp, List.getElem?_eq_getElem hp, hpk]⟩
theorem OrdI.nil (n : Nat) (t : List (List Bool)) : OrdI n t [] := ⟨by simp, by simp, by simp⟩
end Go.AM

namespace Go.Proofs.M
open Go.AM Go
set_option maxRecDepth 100000
set_option maxHeartbeats 2000000
theorem index_r (l : List Int) (x : Int) (hl : l.length ≤ 9223372036854775807) : Reads Try.prog 49 false [.rsl 1 (ints l), .int .i64 x] (.int .i64 (ixf (fun y => decide (x = y)) l)) := by
  refine Reads.body (rs := [.tmp 4]) Try.func49 rfl Try.ntmps49 rfl (by simp) ?_
  generalize hQr : retQ _ _ _ = Qr
  refine AW.seq fun K1 hK1 => ?_
  -- region 0
  refine AW.regionK 0 (fun _ => none) [0, 1] [] ?_
  simp only [go_sem, reduceIte, reduceCtorEq, Nat.reduceAdd, Nat.reduceMul, Nat.reduceEqDiff, Nat.reduceLT, Nat.reduceLeDiff, Nat.reduceSub, Nat.reducePow, Nat.reduceBEq, Int.reduceToNat, List.reduceReplicate]
  repeat with_reducible refine cj ?_ ?_
  all_goals try first | omega
  refine hK1 _ _ _ ?_; clear hK1
  refine AW.seq fun K2 hK2 => ?_
  refine AW.seq fun K3 hK3 => ?_
  -- region 1
  refine AW.regionK 0 (fun _ => none) [0, 1, 7, 8] [] ?_
  simp only [go_sem, reduceIte, reduceCtorEq, Nat.reduceAdd, Nat.reduceMul, Nat.reduceEqDiff, Nat.reduceLT, Nat.reduceLeDiff, Nat.reduceSub, Nat.reducePow, Nat.reduceBEq, Int.reduceToNat, List.reduceReplicate]
  repeat with_reducible refine cj ?_ ?_
  all_goals try first | omega
  refine hK3 _ _ _ ?_; clear hK3
  refine AW.block ?_
  -- loop 1
  refine AW.loopE (fun mm ee ss kk => ∃ (j : Nat), l.length - j = mm ∧ ee = [(0, .rsl 1 (ints l)), (1, .int .i64 x), (7, .int .i64 l.length), (8, .int .i64 (j : Nat))] ∧ ss = [] ∧ (j ≤ l.length ∧ (l.take j).any (fun y => decide (x = y)) = false)) ?_ ?_
  · refine ⟨_, 0, rfl, ?henv, ?hstore, ?hst⟩
    case henv =>
      repeat' (first | rfl | refine env_cons ?_ ?_ | refine st_cons ?_ ?_ ?_ ?_ | refine int_eq ?_ | refine bool_eq ?_ | refine rsl_eq ?_ | refine osl_eq ?_ | refine sl_eq ?_ ?_ ?_ | refine ptr_eq ?_ ?_ ?_ | refine agg_eq ?_ | refine es_cons ?_ ?_ | refine row_cons ?_ ?_)
      all_goals (first | (simp; done) | omega | (simp; omega))
    case hstore =>
      repeat' (first | rfl | refine env_cons ?_ ?_ | refine st_cons ?_ ?_ ?_ ?_ | refine int_eq ?_ | refine bool_eq ?_ | refine rsl_eq ?_ | refine osl_eq ?_ | refine sl_eq ?_ ?_ ?_ | refine ptr_eq ?_ ?_ ?_ | refine agg_eq ?_ | refine es_cons ?_ ?_ | refine row_cons ?_ ?_)
      all_goals (first | (simp; done) | omega | (simp; omega))
    case hst =>
      first | trivial | omega | (simp; done) | (simp; omega)
  rintro mm ee ss kk ⟨j, rfl, rfl, rfl, hI⟩
  generalize hQl1 : thenQ _ _ = Ql1
  obtain ⟨hj, hall⟩ := hI
  refine AW.seq fun K4 hK4 => ?_
  -- region 2
  refine AW.regionK 0 (fun _ => none) [0, 1, 7, 8, 9] [] ?_
  simp only [go_sem, reduceIte, reduceCtorEq, Nat.reduceAdd, Nat.reduceMul, Nat.reduceEqDiff, Nat.reduceLT, Nat.reduceLeDiff, Nat.reduceSub, Nat.reducePow, Nat.reduceBEq, Int.reduceToNat, List.reduceReplicate]
  repeat with_reducible refine cj ?_ ?_
  all_goals try first | omega
  refine hK4 _ _ _ ?_; clear hK4
  refine AW.seq fun K5 hK5 => ?_
  -- cond 1
  refine AW.cond rfl (by simp only [go_sem, reduceIte, reduceCtorEq, Nat.reduceAdd, Nat.reduceMul, Nat.reduceEqDiff, Nat.reduceLT, Nat.reduceLeDiff, Nat.reduceSub, Nat.reducePow, Nat.reduceBEq, Int.reduceToNat, List.reduceReplicate]) ?_ ?_
  · intro hb
    try simp only [hB, decide_eq_true_eq, decide_eq_false_iff_not] at hb
    obtain ⟨y, hy⟩ := getI (l := l) (j := j) (by omega)
    have hgy := ints_get hy
    have hats := any_take_succ (p := fun y => decide (x = y)) hy
    refine AW.skip ?_
    refine hK5 _ _ _ ?_; clear hK5
    refine AW.seq fun K6 hK6 => ?_
    refine AW.block ?_
    refine AW.seq fun K7 hK7 => ?_
    -- region 3
    refine AW.regionK 0 (fun _ => none) [0, 1, 5, 7, 8] [] ?_
    simp only [go_sem, reduceIte, reduceCtorEq, Nat.reduceAdd, Nat.reduceMul, Nat.reduceEqDiff, Nat.reduceLT, Nat.reduceLeDiff, Nat.reduceSub, Nat.reducePow, Nat.reduceBEq, Int.reduceToNat, List.reduceReplicate]
    repeat with_reducible refine cj ?_ ?_
    all_goals try first | omega
    refine hK7 _ _ _ ?_; clear hK7
    refine AW.seq fun K8 hK8 => ?_
    -- region 4
    refine AW.regionK 0 (fun _ => none) [0, 1, 5, 7, 8, 16] [] ?_
    simp only [go_sem, reduceIte, reduceCtorEq, Nat.reduceAdd, Nat.reduceMul, Nat.reduceEqDiff, Nat.reduceLT, Nat.reduceLeDiff, Nat.reduceSub, Nat.reducePow, Nat.reduceBEq, Int.reduceToNat, List.reduceReplicate, hgy]
    repeat with_reducible refine cj ?_ ?_
    all_goals try first | omega
    refine hK8 _ _ _ ?_; clear hK8
    -- cond 2
    refine AW.cond rfl (by simp only [go_sem, reduceIte, reduceCtorEq, Nat.reduceAdd, Nat.reduceMul, Nat.reduceEqDiff, Nat.reduceLT, Nat.reduceLeDiff, Nat.reduceSub, Nat.reducePow, Nat.reduceBEq, Int.reduceToNat, List.reduceReplicate]) ?_ ?_
    · intro hb
      try simp only [hB, decide_eq_true_eq, decide_eq_false_iff_not] at hb
      refine AW.seq fun K9 hK9 => ?_
      -- region 5
      refine AW.regionK 0 (fun _ => none) [4] [] ?_
      simp only [go_sem, reduceIte, reduceCtorEq, Nat.reduceAdd, Nat.reduceMul, Nat.reduceEqDiff, Nat.reduceLT, Nat.reduceLeDiff, Nat.reduceSub, Nat.reducePow, Nat.reduceBEq, Int.reduceToNat, List.reduceReplicate]
      repeat with_reducible refine cj ?_ ?_
      all_goals try first | omega
      refine hK9 _ _ _ ?_; clear hK9
      refine AW.ret ?_
      rw [← hQl1]
      rw [← hQr]
      simp only [go_sem, reduceIte, reduceCtorEq, Nat.reduceAdd, Nat.reduceMul, Nat.reduceEqDiff, Nat.reduceLT, Nat.reduceLeDiff, Nat.reduceSub, Nat.reducePow, Nat.reduceBEq, Int.reduceToNat, List.reduceReplicate]
      exact Wk.of_eq (by rw [ixf_at hy (decide_eq_true hb) hall])
    · intro hb
      try simp only [hB, decide_eq_true_eq, decide_eq_false_iff_not] at hb
      refine AW.skip ?_
      refine hK6 _ _ _ ?_; clear hK6
      -- region 6
      refine AW.regionK 0 (fun _ => none) [0, 1, 7, 8] [] ?_
      simp only [go_sem, reduceIte, reduceCtorEq, Nat.reduceAdd, Nat.reduceMul, Nat.reduceEqDiff, Nat.reduceLT, Nat.reduceLeDiff, Nat.reduceSub, Nat.reducePow, Nat.reduceBEq, Int.reduceToNat, List.reduceReplicate]
      repeat with_reducible refine cj ?_ ?_
      all_goals try first | omega
      rw [← hQl1]
      change Exists _
      refine ⟨_, ?hm, j + 1, rfl, ?henv, ?hstore, ?hst⟩
      case henv =>
        repeat' (first | rfl | refine env_cons ?_ ?_ | refine st_cons ?_ ?_ ?_ ?_ | refine int_eq ?_ | refine bool_eq ?_ | refine rsl_eq ?_ | refine osl_eq ?_ | refine sl_eq ?_ ?_ ?_ | refine ptr_eq ?_ ?_ ?_ | refine agg_eq ?_ | refine es_cons ?_ ?_ | refine row_cons ?_ ?_)
        all_goals (first | (simp; done) | omega | (simp; omega))
      case hstore =>
        repeat' (first | rfl | refine env_cons ?_ ?_ | refine st_cons ?_ ?_ ?_ ?_ | refine int_eq ?_ | refine bool_eq ?_ | refine rsl_eq ?_ | refine osl_eq ?_ | refine sl_eq ?_ ?_ ?_ | refine ptr_eq ?_ ?_ ?_ | refine agg_eq ?_ | refine es_cons ?_ ?_ | refine row_cons ?_ ?_)
        all_goals (first | (simp; done) | omega | (simp; omega))
      case hst =>
        exact ⟨by omega, by rw [hats, hall, decide_eq_false hb]; rfl⟩
      case hm => omega
  · intro hb
    try simp only [hB, decide_eq_true_eq, decide_eq_false_iff_not] at hb
    refine AW.keep [] [] ?_
    try simp only [go_sem, reduceIte, reduceCtorEq, Nat.reduceAdd, Nat.reduceMul, Nat.reduceEqDiff, Nat.reduceLT, Nat.reduceLeDiff, Nat.reduceSub, Nat.reducePow, Nat.reduceBEq, Int.reduceToNat, List.reduceReplicate]
    refine AW.exit ?_
    rw [← hQl1]
    refine hK2 _ _ _ ?_; clear hK2
    refine AW.seq fun K10 hK10 => ?_
    -- region 7
    refine AW.regionK 0 (fun _ => none) [4] [] ?_
    simp only [go_sem, reduceIte, reduceCtorEq, Nat.reduceAdd, Nat.reduceMul, Nat.reduceEqDiff, Nat.reduceLT, Nat.reduceLeDiff, Nat.reduceSub, Nat.reducePow, Nat.reduceBEq, Int.reduceToNat, List.reduceReplicate]
    repeat with_reducible refine cj ?_ ?_
    all_goals try first | omega
    refine hK10 _ _ _ ?_; clear hK10
    refine AW.ret ?_
    rw [← hQr]
    simp only [go_sem, reduceIte, reduceCtorEq, Nat.reduceAdd, Nat.reduceMul, Nat.reduceEqDiff, Nat.reduceLT, Nat.reduceLeDiff, Nat.reduceSub, Nat.reducePow, Nat.reduceBEq, Int.reduceToNat, List.reduceReplicate]
    exact Wk.of_eq (by rw [List.take_of_length_le (by omega)] at hall; rw [ixf_none hall])
end Go.Proofs.M

/- Counting the bits of a word, and finding the lowest one. -/
namespace Go.AM
def g1 (r : Nat) : Nat := (r >>> 1 &&& 0x55) + (r &&& 0x55)
def g2 (r : Nat) : Nat := (r >>> 2 &&& 0x33) + (r &&& 0x33)
def g3 (r : Nat) : Nat := (r >>> 4 + r) &&& 0x0f
def f1 (M x : Nat) : Nat := (x >>> 1 &&& M) + (x &&& M)
def f2 (M x : Nat) : Nat := (x >>> 2 &&& M) + (x &&& M)
def f3 (M x : Nat) : Nat := (x >>> 4 + x) &&& M
theorem b1 : ∀ r, r < 256 → ∀ c, c < 2 → (r >>> 1 + 128 * c) &&& 0x55 = r >>> 1 &&& 0x55 := by decide +kernel
theorem b2 : ∀ r, r < 256 → ∀ c, c < 4 → (r >>> 2 + 64 * c) &&& 0x33 = r >>> 2 &&& 0x33 := by decide +kernel
theorem b3 : ∀ r, r < 69 → ∀ c, c < 5 → r >>> 4 ≤ 4 → (r >>> 4 + 16 * c + r) &&& 0x0f = (r >>> 4 + r) &&& 0x0f ∧ r >>> 4 + 16 * c + r < 256 := by decide +kernel
end Go.AM

/- The lowest bit of a word, and the bits one after another. -/
namespace Go.AM
end Go.AM

/- The machine's steps of counting. -/
namespace Go.AM
end Go.AM

namespace Go.Proofs.M
open Go.AM Go
set_option maxRecDepth 100000
set_option maxHeartbeats 2000000
end Go.Proofs.M

/- The members of a set, word by word. -/
namespace Go.AM
end Go.AM

namespace Go.Proofs.M
open Go.AM Go
set_option maxRecDepth 100000
set_option maxHeartbeats 2000000
end Go.Proofs.M

namespace Go.Proofs.M
open Go.AM Go
set_option maxRecDepth 100000
set_option maxHeartbeats 2000000
end Go.Proofs.M

namespace Go.Proofs.M
open Go.AM Go
set_option maxRecDepth 100000
set_option maxHeartbeats 2000000
end Go.Proofs.M

namespace Go.Proofs.M
open Go.AM Go
set_option maxRecDepth 100000
set_option maxHeartbeats 2000000
end Go.Proofs.M

namespace Go.Proofs.M
open Go.AM Go
set_option maxRecDepth 100000
set_option maxHeartbeats 2000000
end Go.Proofs.M

namespace Go.Proofs.M
open Go.AM Go
set_option maxRecDepth 100000
set_option maxHeartbeats 2000000
theorem setB_len {b : List Bool} (h : b.length ≤ 512) : (setW b b.length).length ≤ 1000 := by
  rw [setW_len']; have := wordsN_rng (n := (b.length : Int)) (by omega); omega
end Go.Proofs.M

/- Strict orders as tables of truths. -/
namespace Go.AM
/-! ### Members of a row. -/
def memB (b : List Bool) : List Nat := (List.range b.length).filter fun i => b.getD i false
theorem memB_mem {b : List Bool} {i : Nat} : i ∈ memB b ↔ i < b.length ∧ b.getD i false = true := by
  unfold memB; simp [List.mem_filter]
/-! ### Orders. -/
structure IsPo (n : Nat) (t : List (List Bool)) : Prop where
  irr : ∀ i, i < n → atT t i i = false
  trans : ∀ i j k, i < n → j < n → k < n → atT t i j = true → atT t j k = true → atT t i k = true
/-! ### Covers. -/
/-! ### Sets of elements. -/
def setR (n : Nat) (f : Nat → Bool) : List Bool := (List.range n).map f
theorem setR_len (n : Nat) (f : Nat → Bool) : (setR n f).length = n := by simp [setR]
theorem setR_get {n : Nat} {f : Nat → Bool} {i : Nat} (h : i < n) : (setR n f).getD i false = f i := by
  unfold setR; simp [List.getD_eq_getElem?_getD, h]
end Go.AM

namespace Go.Proofs.M
open Go.AM Go
set_option maxRecDepth 100000
set_option maxHeartbeats 2000000
end Go.Proofs.M

namespace Go.Proofs.M
open Go.AM Go
set_option maxRecDepth 100000
set_option maxHeartbeats 2000000
theorem inside_r (N : Int) (W : List (List AV)) (i : Int) : Reads Try.prog 51 false [.agg [.int .i64 N, .rsl 1 W], .int .i64 i] (.bool (decide (0 ≤ i) && decide (i < N))) := by
  refine Reads.body (rs := [.tmp 4]) Try.func51 rfl Try.ntmps51 rfl (by simp) ?_
  generalize hQr : retQ _ _ _ = Qr
  refine AW.seq fun K1 hK1 => ?_
  -- region 0
  refine AW.regionK 0 (fun _ => none) [1, 2] [2] ?_
  simp only [go_sem, reduceIte, reduceCtorEq, Nat.reduceAdd, Nat.reduceMul, Nat.reduceEqDiff, Nat.reduceLT, Nat.reduceLeDiff, Nat.reduceSub, Nat.reducePow, Nat.reduceBEq, Int.reduceToNat, List.reduceReplicate]
  repeat with_reducible refine cj ?_ ?_
  all_goals try first | omega
  refine hK1 _ _ _ ?_; clear hK1
  refine AW.seq fun K2 hK2 => ?_
  -- region 1
  refine AW.regionK 0 (fun _ => none) [4] [] ?_
  simp only [go_sem, reduceIte, reduceCtorEq, Nat.reduceAdd, Nat.reduceMul, Nat.reduceEqDiff, Nat.reduceLT, Nat.reduceLeDiff, Nat.reduceSub, Nat.reducePow, Nat.reduceBEq, Int.reduceToNat, List.reduceReplicate]
  repeat with_reducible refine cj ?_ ?_
  all_goals try first | omega | (intros; (repeat' apply And.intro) <;> first | assumption | omega | decide) | (intro hgd; exact absurd hgd (by decide)) | rfl | (simp only [go_sem, reduceIte, reduceCtorEq, Nat.reduceAdd, Nat.reduceMul, Nat.reduceEqDiff, Nat.reduceLT, Nat.reduceLeDiff, Nat.reduceSub, Nat.reducePow, Nat.reduceBEq, Int.reduceToNat, List.reduceReplicate]; done) | (intro _hgd; simp_all [go_sem]; done)
  refine hK2 _ _ _ ?_; clear hK2
  refine AW.ret ?_
  rw [← hQr]
  simp only [go_sem, reduceIte, reduceCtorEq, Nat.reduceAdd, Nat.reduceMul, Nat.reduceEqDiff, Nat.reduceLT, Nat.reduceLeDiff, Nat.reduceSub, Nat.reducePow, Nat.reduceBEq, Int.reduceToNat, List.reduceReplicate]
  exact Wk.refl _
end Go.Proofs.M

namespace Go.Proofs.M
open Go.AM Go
set_option maxRecDepth 100000
set_option maxHeartbeats 2000000
theorem of_r (n : Int) (l : List Int) (h0 : 0 ≤ n) (h1 : n ≤ 512) (hl : l.length ≤ 9223372036854775807) (hr : ∀ i ∈ l, 0 ≤ i ∧ i < n) :
    Reads Try.prog 35 true [.int .i64 n, .rsl 1 (ints l)] (.tup [.agg [.int .i64 n, .rsl 1 (words (ofW n l))], .int .i64 0]) := by
  have hwr := bwords_r n h0 (by omega)
  have hwn := wordsN_rng h0
  refine Reads.bodyF (rs := [.cell 4 30, .tmp 5]) Try.func35 rfl Try.ntmps35 rfl (by simp) ?_
  generalize hQr : retQ _ _ _ = Qr
  refine AW.seq fun K1 hK1 => ?_
  -- region 0
  refine AW.regionK 0 (fun _ => none) [0, 1, 4] [4] ?_
  simp only [go_sem, reduceIte, reduceCtorEq, Nat.reduceAdd, Nat.reduceMul, Nat.reduceEqDiff, Nat.reduceLT, Nat.reduceLeDiff, Nat.reduceSub, Nat.reducePow, Nat.reduceBEq, Int.reduceToNat, List.reduceReplicate]
  repeat with_reducible refine cj ?_ ?_
  all_goals try first | omega
  refine hK1 _ _ _ ?_; clear hK1
  refine AW.seq fun K2 hK2 => ?_
  refine AW.seq fun K3 hK3 => ?_
  -- region 1
  refine AW.regionK 0 (fun _ => none) [0, 1, 4, 14] [4] ?_
  simp only [go_sem, reduceIte, reduceCtorEq, Nat.reduceAdd, Nat.reduceMul, Nat.reduceEqDiff, Nat.reduceLT, Nat.reduceLeDiff, Nat.reduceSub, Nat.reducePow, Nat.reduceBEq, Int.reduceToNat, List.reduceReplicate]
  repeat with_reducible refine cj ?_ ?_
  all_goals try first | omega | (intros; (repeat' apply And.intro) <;> first | assumption | omega | decide) | (intro hgd; exact absurd hgd (by decide)) | rfl | (simp only [go_sem, reduceIte, reduceCtorEq, Nat.reduceAdd, Nat.reduceMul, Nat.reduceEqDiff, Nat.reduceLT, Nat.reduceLeDiff, Nat.reduceSub, Nat.reducePow, Nat.reduceBEq, Int.reduceToNat, List.reduceReplicate]; done) | (intro _hgd; simp_all [go_sem]; done)
  refine hK3 _ _ _ ?_; clear hK3
  -- cond 1
  refine AW.cond rfl (by simp only [go_sem, reduceIte, reduceCtorEq, Nat.reduceAdd, Nat.reduceMul, Nat.reduceEqDiff, Nat.reduceLT, Nat.reduceLeDiff, Nat.reduceSub, Nat.reducePow, Nat.reduceBEq, Int.reduceToNat, List.reduceReplicate]) ?_ ?_
  · intro hb
    try simp only [hB, decide_eq_true_eq, decide_eq_false_iff_not] at hb
    exfalso; omega
  · intro hb
    try simp only [hB, decide_eq_true_eq, decide_eq_false_iff_not] at hb
    refine AW.skip ?_
    refine hK2 _ _ _ ?_; clear hK2
    refine AW.seq fun K4 hK4 => ?_
    -- region 3
    refine AW.regionK 0 (fun ii => if ii = 2 then some (.reads false (.int .i64 (wordsN n))) else none) [1, 4, 6] [4, 6, 19] ?_
    simp only [go_sem, reduceIte, reduceCtorEq, Nat.reduceAdd, Nat.reduceMul, Nat.reduceEqDiff, Nat.reduceLT, Nat.reduceLeDiff, Nat.reduceSub, Nat.reducePow, Nat.reduceBEq, Int.reduceToNat, List.reduceReplicate]
    repeat with_reducible refine cj ?_ ?_
    all_goals try first | omega | exact ent (by kernel_rfl)
    refine hK4 _ _ _ ?_; clear hK4
    refine AW.seq fun K5 hK5 => ?_
    refine AW.seq fun K6 hK6 => ?_
    -- region 4
    refine AW.regionK 0 (fun _ => none) [4, 6, 21, 22, 23] [4, 6, 19] ?_
    simp only [go_sem, reduceIte, reduceCtorEq, Nat.reduceAdd, Nat.reduceMul, Nat.reduceEqDiff, Nat.reduceLT, Nat.reduceLeDiff, Nat.reduceSub, Nat.reducePow, Nat.reduceBEq, Int.reduceToNat, List.reduceReplicate]
    repeat with_reducible refine cj ?_ ?_
    all_goals try first | omega
    refine hK6 _ _ _ ?_; clear hK6
    refine AW.block ?_
    -- loop 1
    refine AW.loopE (fun mm ee ss kk => ∃ (j g4 v4 g v gw vw : Nat) (c4 : List AV), l.length - j = mm ∧ ee = [(4, .ptr ⟨4, g4, none⟩ 0 0), (6, .ptr ⟨6, g, none⟩ 0 0), (21, .rsl 1 (ints l)), (22, .int .i64 l.length), (23, .int .i64 (j : Nat))] ∧ ss = [(4, some ⟨g4, v4, 2, [[.int .i64 0, .nilsl]]⟩), (6, some ⟨g, v, 2, [[.int .i64 n, .sl ⟨19, gw, none⟩ 0 (wordsN n).toNat none]]⟩), (19, some ⟨gw, vw, 1, words (ofW n (l.take j))⟩)] ∧ (j ≤ l.length)) ?_ ?_
    · refine ⟨_, 0, ?_, ?_, ?_, ?_, ?_, ?_, [], rfl, ?henv, ?hstore, ?hst⟩
      case henv =>
        repeat' (first | rfl | refine env_cons ?_ ?_ | refine st_cons ?_ ?_ ?_ ?_ | refine int_eq ?_ | refine bool_eq ?_ | refine rsl_eq ?_ | refine osl_eq ?_ | refine sl_eq ?_ ?_ ?_ | refine ptr_eq ?_ ?_ ?_ | refine agg_eq ?_ | refine es_cons ?_ ?_ | refine row_cons ?_ ?_)
        all_goals (first | (simp; done) | omega | (simp; omega))
      case hstore =>
        repeat' (first | rfl | refine env_cons ?_ ?_ | refine st_cons ?_ ?_ ?_ ?_ | refine int_eq ?_ | refine bool_eq ?_ | refine rsl_eq ?_ | refine osl_eq ?_ | refine sl_eq ?_ ?_ ?_ | refine ptr_eq ?_ ?_ ?_ | refine agg_eq ?_ | refine es_cons ?_ ?_ | refine row_cons ?_ ?_)
        all_goals simp [ofW, words]
      case hst =>
        first | trivial | omega | (simp; done) | (simp; omega)
    rintro mm ee ss kk ⟨j, g4, v4, g, v, gw, vw, c4, rfl, rfl, rfl, hI⟩
    generalize hQl1 : thenQ _ _ = Ql1
    refine AW.seq fun K7 hK7 => ?_
    -- region 5
    refine AW.regionK 0 (fun _ => none) [4, 6, 21, 22, 23, 24] [4, 6, 19] ?_
    simp only [go_sem, reduceIte, reduceCtorEq, Nat.reduceAdd, Nat.reduceMul, Nat.reduceEqDiff, Nat.reduceLT, Nat.reduceLeDiff, Nat.reduceSub, Nat.reducePow, Nat.reduceBEq, Int.reduceToNat, List.reduceReplicate]
    repeat with_reducible refine cj ?_ ?_
    all_goals try first | omega
    refine hK7 _ _ _ ?_; clear hK7
    refine AW.seq fun K8 hK8 => ?_
    -- cond 2
    refine AW.cond rfl (by simp only [go_sem, reduceIte, reduceCtorEq, Nat.reduceAdd, Nat.reduceMul, Nat.reduceEqDiff, Nat.reduceLT, Nat.reduceLeDiff, Nat.reduceSub, Nat.reducePow, Nat.reduceBEq, Int.reduceToNat, List.reduceReplicate]) ?_ ?_
    · intro hb
      try simp only [hB, decide_eq_true_eq, decide_eq_false_iff_not] at hb
      obtain ⟨x, hx⟩ := getI (l := l) (j := j) (by omega)
      have hgx := ints_get hx
      have hxr := hr x (List.mem_of_getElem? hx)
      have hwl := ofW_len n (l.take j)
      have hd := div64_rng hxr.1 hxr.2
      have hgw := words_getD (l := ofW n (l.take j)) (i := (x.tdiv 64).toNat) (by omega)
      have hsu := ofW_succ (n := n) hx
      have hin := inside_r n (words (ofW n (l.take j))) x
      have hwt : (words (ofW n (l.take j))).take (wordsN n).toNat = words (ofW n (l.take j)) := by rw [words_take, List.take_of_length_le (by omega)]
      refine AW.skip ?_
      refine hK8 _ _ _ ?_; clear hK8
      refine AW.seq fun K9 hK9 => ?_
      refine AW.block ?_
      refine AW.seq fun K10 hK10 => ?_
      -- region 6
      refine AW.regionK 0 (fun _ => none) [4, 6, 8, 21, 22, 23] [4, 6, 19] ?_
      simp only [go_sem, reduceIte, reduceCtorEq, Nat.reduceAdd, Nat.reduceMul, Nat.reduceEqDiff, Nat.reduceLT, Nat.reduceLeDiff, Nat.reduceSub, Nat.reducePow, Nat.reduceBEq, Int.reduceToNat, List.reduceReplicate, hgx]
      repeat with_reducible refine cj ?_ ?_
      all_goals try first | omega
      refine hK10 _ _ _ ?_; clear hK10
      refine AW.seq fun K11 hK11 => ?_
      refine AW.seq fun K12 hK12 => ?_
      -- region 7
      refine AW.regionK 0 (fun ii => if ii = 2 then some (.reads true (.bool (decide (0 ≤ x) && decide (x < n)))) else none) [4, 6, 8, 21, 22, 23, 30] [4, 6, 19] ?_
      simp only [go_sem, reduceIte, reduceCtorEq, Nat.reduceAdd, Nat.reduceMul, Nat.reduceEqDiff, Nat.reduceLT, Nat.reduceLeDiff, Nat.reduceSub, Nat.reducePow, Nat.reduceBEq, Int.reduceToNat, List.reduceReplicate, hwt]
      repeat with_reducible refine cj ?_ ?_
      all_goals try first | (exact Reads.flat hin rfl) | omega | exact ent (by kernel_rfl)
      refine hK12 _ _ _ ?_; clear hK12
      -- cond 3
      refine AW.cond rfl (by simp only [go_sem, reduceIte, reduceCtorEq, Nat.reduceAdd, Nat.reduceMul, Nat.reduceEqDiff, Nat.reduceLT, Nat.reduceLeDiff, Nat.reduceSub, Nat.reducePow, Nat.reduceBEq, Int.reduceToNat, List.reduceReplicate]) ?_ ?_
      · intro hb
        try simp only [hB, decide_eq_true_eq, decide_eq_false_iff_not] at hb
        exfalso; omega
      · intro hb
        try simp only [hB, decide_eq_true_eq, decide_eq_false_iff_not] at hb
        refine AW.skip ?_
        refine hK11 _ _ _ ?_; clear hK11
        -- region 9
        refine AW.regionD mixed 0 (fun _ => none) [4, 6, 21, 22, 23] [4, 6, 19] ?_
        simp only [go_sem, reduceIte, reduceCtorEq, Nat.reduceAdd, Nat.reduceMul, Nat.reduceEqDiff, Nat.reduceLT, Nat.reduceLeDiff, Nat.reduceSub, Nat.reducePow, Nat.reduceBEq, Int.reduceToNat, List.reduceReplicate, hgw, hwl]
        repeat with_reducible refine cj ?_ ?_
        all_goals try first | omega | exact chk (by kernel_rfl)
        refine hK9 _ _ _ ?_; clear hK9
        -- region 10
        refine AW.regionK 0 (fun _ => none) [4, 6, 21, 22, 23] [4, 6, 19] ?_
        simp only [go_sem, reduceIte, reduceCtorEq, Nat.reduceAdd, Nat.reduceMul, Nat.reduceEqDiff, Nat.reduceLT, Nat.reduceLeDiff, Nat.reduceSub, Nat.reducePow, Nat.reduceBEq, Int.reduceToNat, List.reduceReplicate]
        repeat with_reducible refine cj ?_ ?_
        all_goals try first | omega
        rw [← hQl1]
        change Exists _
        refine ⟨_, ?hm, j + 1, ?_, ?_, ?_, ?_, ?_, ?_, [], rfl, ?henv, ?hstore, ?hst⟩
        case henv =>
          repeat' (first | rfl | refine env_cons ?_ ?_ | refine st_cons ?_ ?_ ?_ ?_ | refine int_eq ?_ | refine bool_eq ?_ | refine rsl_eq ?_ | refine osl_eq ?_ | refine sl_eq ?_ ?_ ?_ | refine ptr_eq ?_ ?_ ?_ | refine agg_eq ?_ | refine es_cons ?_ ?_ | refine row_cons ?_ ?_)
          all_goals (first | (simp; done) | omega | (simp; omega))
        case hstore =>
          repeat' (first | rfl | refine env_cons ?_ ?_ | refine st_cons ?_ ?_ ?_ ?_ | refine int_eq ?_ | refine bool_eq ?_ | refine rsl_eq ?_ | refine osl_eq ?_ | refine sl_eq ?_ ?_ ?_ | refine ptr_eq ?_ ?_ ?_ | refine agg_eq ?_ | refine es_cons ?_ ?_ | refine row_cons ?_ ?_)
          all_goals (rw [hsu]; simp [setBit])
        case hst =>
          first | trivial | omega | (simp; done) | (simp; omega)
        case hm => omega
    · intro hb
      try simp only [hB, decide_eq_true_eq, decide_eq_false_iff_not] at hb
      refine AW.keep [4, 6] [4, 6, 19] ?_
      try simp only [go_sem, reduceIte, reduceCtorEq, Nat.reduceAdd, Nat.reduceMul, Nat.reduceEqDiff, Nat.reduceLT, Nat.reduceLeDiff, Nat.reduceSub, Nat.reducePow, Nat.reduceBEq, Int.reduceToNat, List.reduceReplicate]
      refine AW.exit ?_
      rw [← hQl1]
      refine hK5 _ _ _ ?_; clear hK5
      refine AW.seq fun K13 hK13 => ?_
      -- region 11
      refine AW.regionK 0 (fun _ => none) [4, 5] [4, 19] ?_
      simp only [go_sem, reduceIte, reduceCtorEq, Nat.reduceAdd, Nat.reduceMul, Nat.reduceEqDiff, Nat.reduceLT, Nat.reduceLeDiff, Nat.reduceSub, Nat.reducePow, Nat.reduceBEq, Int.reduceToNat, List.reduceReplicate]
      repeat with_reducible refine cj ?_ ?_
      all_goals try first | omega
      refine hK13 _ _ _ ?_; clear hK13
      refine AW.ret ?_
      rw [← hQr]
      simp only [go_sem, reduceIte, reduceCtorEq, Nat.reduceAdd, Nat.reduceMul, Nat.reduceEqDiff, Nat.reduceLT, Nat.reduceLeDiff, Nat.reduceSub, Nat.reducePow, Nat.reduceBEq, Int.reduceToNat, List.reduceReplicate]
      rw [List.take_of_length_le (by rw [ofW_len]; exact Nat.le_refl _), List.take_of_length_le (l := l) (by omega)]
      exact Wk.refl _
end Go.Proofs.M

/- A map of pairs as a set; valid graphs. -/
namespace Go.AM
def keyA (e : Int × Int) : AV := .agg [.int .i64 e.1, .int .i64 e.2]
def kvM (e : Int × Int) : List AV := [keyA e, .bool true]
theorem keyEq_pair (a b : Int × Int) : keyEq (keyA a) (keyA b) = decide (a = b) := by
  obtain ⟨a1, a2⟩ := a
  obtain ⟨b1, b2⟩ := b
  simp only [keyA, keyEq, Prod.mk.injEq, Bool.decide_and]
theorem mapFind_kv (e : Int × Int) : ∀ (l : List (Int × Int)) (i : Nat), (e ∉ l → mapFind (l.map kvM) (keyA e) i = none) ∧ (e ∈ l → ∃ j, mapFind (l.map kvM) (keyA e) i = some (j, .bool true))
  | [], i => ⟨fun _ => rfl, fun h => by cases h⟩
  | a :: l, i => by
    obtain ⟨h1, h2⟩ := mapFind_kv e l (i + 1)
    simp only [List.map_cons, mapFind]
    have hk : (kvM a).getD 0 .any = keyA a := rfl
    have hv : (kvM a).getD 1 .any = .bool true := rfl
    rw [hk, hv, keyEq_pair]
    by_cases he : e = a
    · subst he
      exact ⟨fun h => absurd (by simp) h, fun _ => ⟨i, by simp⟩⟩
    · simp only [he, decide_false, Bool.false_eq_true, if_false, List.mem_cons, false_or]
      exact ⟨h1, h2⟩
theorem mapB_kv (l : List (Int × Int)) (e : Int × Int) : mapB (l.map kvM) (keyA e) = decide (e ∈ l) := by
  obtain ⟨h1, h2⟩ := mapFind_kv e l 0
  by_cases he : e ∈ l
  · obtain ⟨j, hj⟩ := h2 he
    simp [mapB, mapAt, hj, he]
  · simp [mapB, mapAt, h1 he, he]
theorem mapPut_kv {l : List (Int × Int)} {e : Int × Int} (he : e ∉ l) : mapPut (l.map kvM) (keyA e) (.bool true) = (l ++ [e]).map kvM := by
  rw [mapPut_find, (mapFind_kv e l 0).1 he]
  simp [kvM]
theorem mapWf_kv {P : Program} {kt : TypeId} (h : ∀ e, keyOk P kt (keyA e) = true) (l : List (Int × Int)) : mapWf P kt none (l.map kvM) := fun row hr => by
  obtain ⟨e, _, rfl⟩ := List.mem_map.1 hr
  exact ⟨_, _, rfl, h e, rfl⟩
theorem keysWf_kv {P : Program} {kt : TypeId} (h : ∀ e, keyOk P kt (keyA e) = true) (l : List (Int × Int)) : keysWf P kt (l.map kvM) := fun row hr => by
  obtain ⟨e, _, rfl⟩ := List.mem_map.1 hr
  exact ⟨_, _, rfl, h e⟩

def edgeIn (n m : Int) (e : Int × Int) : Bool := decide (0 ≤ e.1) && decide (e.1 < n) && decide (0 ≤ e.2) && decide (e.2 < m)
def sizesM (n m : Int) (E : List (Int × Int)) : Bool := decide (0 ≤ n) && decide (n ≤ 512) && decide (0 ≤ m) && decide (m ≤ 512) && decide (E.length ≤ 2000)
def goodUpto (n m : Int) (E : List (Int × Int)) (j : Nat) : Prop := ∀ i e, i < j → E[i]? = some e → edgeIn n m e = true ∧ e ∉ E.take i
def validM (n m : Int) (E : List (Int × Int)) : Bool := sizesM n m E && (E.all (edgeIn n m) && decide E.Nodup)

theorem goodUpto_all {n m : Int} {E : List (Int × Int)} (h : goodUpto n m E E.length) : E.all (edgeIn n m) = true ∧ E.Nodup := by
  constructor
  · rw [List.all_eq_true]
    intro e he
    obtain ⟨i, hi, rfl⟩ := List.getElem_of_mem he
    exact (h i _ hi (List.getElem?_eq_getElem hi)).1
  · refine List.pairwise_iff_getElem.2 fun i j hi hj hij e => ?_
    have h1 := (h j E[j] hj (List.getElem?_eq_getElem hj)).2
    apply h1
    rw [List.mem_take_iff_getElem]
    exact ⟨i, by omega, e⟩
theorem good_bad {n m : Int} {E : List (Int × Int)} {j : Nat} {e : Int × Int} (he : E[j]? = some e) (hb : edgeIn n m e = false ∨ e ∈ E.take j) : validM n m E = false := by
  have hj := (List.getElem?_eq_some_iff.1 he).1
  have hm : e ∈ E := List.mem_of_getElem? he
  unfold validM
  rcases hb with h1 | h1
  · have : E.all (edgeIn n m) = false := by
      rw [List.all_eq_false]
      exact ⟨e, hm, by simp [h1]⟩
    simp [this]
  · have : ¬ E.Nodup := fun hn => by
      rw [List.mem_take_iff_getElem] at h1
      obtain ⟨i, hi, e1⟩ := h1
      refine List.pairwise_iff_getElem.1 hn i j (by omega) hj (by omega) ?_
      rw [e1]
      exact ((List.getElem?_eq_some_iff.1 he).2).symm
    simp [this]
theorem goodUpto_succ {n m : Int} {E : List (Int × Int)} {j : Nat} {e : Int × Int} (h : goodUpto n m E j) (he : E[j]? = some e) (h1 : edgeIn n m e = true) (h2 : e ∉ E.take j) : goodUpto n m E (j + 1) := fun i x hi hx => by
  by_cases hij : i = j
  · subst hij
    rw [he] at hx
    obtain rfl := Option.some.inj hx
    exact ⟨h1, h2⟩
  · exact h i x (by omega) hx
theorem edgeIn_iff {n m : Int} {e : Int × Int} : edgeIn n m e = true ↔ 0 ≤ e.1 ∧ e.1 < n ∧ 0 ≤ e.2 ∧ e.2 < m := by
  simp [edgeIn, and_assoc]
theorem edgeIn_false {n m : Int} {e : Int × Int} (h : e.1 < 0 ∨ n ≤ e.1 ∨ e.2 < 0 ∨ m ≤ e.2) : edgeIn n m e = false := by
  cases hh : edgeIn n m e
  · rfl
  · have := edgeIn_iff.1 hh; omega

def nbAdd (nb : List (List Int)) (e : Int × Int) : List (List Int) := nb.set e.1.toNat (nb.getD e.1.toNat [] ++ [e.2])
def nbOf (n : Nat) (E : List (Int × Int)) : List (List Int) := E.foldl nbAdd (List.replicate n [])
theorem nbOf_succ {n : Nat} {E : List (Int × Int)} {j : Nat} {e : Int × Int} (h : E[j]? = some e) : nbOf n (E.take (j + 1)) = nbAdd (nbOf n (E.take j)) e := by
  unfold nbOf
  rw [List.take_add_one, h, List.foldl_append]; rfl
theorem foldl_nb_len (E : List (Int × Int)) : ∀ nb : List (List Int), (E.foldl nbAdd nb).length = nb.length := by
  induction E with
  | nil => intro nb; rfl
  | cons e E ih => intro nb; rw [List.foldl_cons, ih]; simp [nbAdd]
theorem nbOf_len (n : Nat) (E : List (Int × Int)) : (nbOf n E).length = n := by unfold nbOf; rw [foldl_nb_len]; simp
theorem foldl_nb_row (E : List (Int × Int)) : ∀ (nb : List (List Int)) (c : Nat), (∀ row ∈ nb, row.length ≤ c) → ∀ row ∈ E.foldl nbAdd nb, row.length ≤ c + E.length := by
  induction E with
  | nil => intro nb c h; simpa using h
  | cons e E ih =>
    intro nb c h row hr
    rw [List.foldl_cons] at hr
    have := ih (nbAdd nb e) (c + 1) (fun row hr => by
      rcases List.mem_or_eq_of_mem_set hr with h1 | rfl
      · have := h row h1; omega
      · rw [List.length_append]
        by_cases hi : e.1.toNat < nb.length
        · have := h _ (mem_getD hi []); simp only [List.length_cons, List.length_nil]; omega
        · rw [getD_out (by omega)]; simp) row hr
    simp only [List.length_cons]; omega
theorem nbOf_row (n : Nat) (E : List (Int × Int)) : ∀ row ∈ nbOf n E, row.length ≤ E.length := fun row hr => by
  have := foldl_nb_row E (List.replicate n []) 0 (fun row hr => by rw [List.eq_of_mem_replicate hr]; simp) row hr
  omega
theorem foldl_nb_rng (m : Int) (E : List (Int × Int)) (hE : ∀ e ∈ E, 0 ≤ e.2 ∧ e.2 < m) : ∀ (nb : List (List Int)), (∀ row ∈ nb, ∀ r ∈ row, 0 ≤ r ∧ r < m) → ∀ row ∈ E.foldl nbAdd nb, ∀ r ∈ row, 0 ≤ r ∧ r < m := by
  induction E with
  | nil => intro nb h; simpa using h
  | cons e E ih =>
    intro nb h
    rw [List.foldl_cons]
    refine ih (fun e' he' => hE e' (by simp [he'])) _ fun row hr r hrr => ?_
    rcases List.mem_or_eq_of_mem_set hr with h1 | rfl
    · exact h row h1 r hrr
    · rcases List.mem_append.1 hrr with h2 | h2
      · by_cases hi : e.1.toNat < nb.length
        · exact h _ (mem_getD hi []) r h2
        · rw [getD_out (by omega)] at h2; cases h2
      · simp only [List.mem_singleton] at h2
        subst h2
        exact hE e (by simp)
theorem nbOf_rng {n : Nat} {m : Int} {E : List (Int × Int)} (hE : ∀ e ∈ E, 0 ≤ e.2 ∧ e.2 < m) : ∀ row ∈ nbOf n E, ∀ r ∈ row, 0 ≤ r ∧ r < m :=
  foldl_nb_rng m E hE _ fun row hr r h => by rw [List.eq_of_mem_replicate hr] at h; cases h

/-- The matching after the first j left nodes. -/
def maxLR (nb : List (List Int)) (n m : Nat) : Nat → List Int × List Int
  | 0 => (List.replicate n (-1), List.replicate m (-1))
  | j + 1 => (mtry nb (m + 1) j (List.replicate m false) (maxLR nb n m j).1 (maxLR nb n m j).2).2.2
theorem mok_start {n m : Nat} {nb : List (List Int)} (h1 : nb.length = n) (h2 : ∀ row ∈ nb, ∀ r ∈ row, 0 ≤ r ∧ r < (m : Int)) : MOk n m nb (List.replicate m false) (List.replicate n (-1)) (List.replicate m (-1)) :=
  ⟨⟨h1, h2⟩, by simp, ⟨by simp, fun x hx => by rw [List.eq_of_mem_replicate hx]; omega⟩, ⟨by simp, fun x hx => by rw [List.eq_of_mem_replicate hx]; omega⟩⟩
theorem MOk.unseen {n m : Nat} {nb : List (List Int)} {s : List Bool} {L R : List Int} (h : MOk n m nb s L R) : MOk n m nb (List.replicate m false) L R := ⟨h.hnb, by simp, h.hL, h.hR⟩
theorem maxLR_ok {n m : Nat} {nb : List (List Int)} (h1 : nb.length = n) (h2 : ∀ row ∈ nb, ∀ r ∈ row, 0 ≤ r ∧ r < (m : Int)) : ∀ j, j ≤ n → MOk n m nb (List.replicate m false) (maxLR nb n m j).1 (maxLR nb n m j).2
  | 0, _ => mok_start h1 h2
  | j + 1, hj => (mtry_keep (m + 1) (j : Int) _ _ _ (by omega) (maxLR_ok h1 h2 j (by omega))).1.unseen

/-- The pairs of a matching, by its left side. -/
def prsL (L : List Int) (j : Nat) : List (Int × Int) := ((List.range j).filter fun i => decide (0 ≤ L.getD i 0)).map fun (i : Nat) => ((i : Int), L.getD i 0)
theorem prsL_succ (L : List Int) (j : Nat) : prsL L (j + 1) = if 0 ≤ L.getD j 0 then prsL L j ++ [((j : Int), L.getD j 0)] else prsL L j := by
  unfold prsL
  rw [List.range_succ, List.filter_append, List.map_append]
  by_cases h : 0 ≤ L.getD j 0
  · rw [if_pos h]; simp only [List.filter_cons, h, decide_true, if_true, List.filter_nil, List.map_cons, List.map_nil]
  · rw [if_neg h]; simp only [List.filter_cons, h, decide_false, Bool.false_eq_true, if_false, List.filter_nil, List.map_nil, List.append_nil]
theorem prsL_le (L : List Int) (j : Nat) : (prsL L j).length ≤ j := by
  unfold prsL
  rw [List.length_map]
  have := List.length_filter_le (fun i => decide (0 ≤ L.getD i 0)) (List.range j)
  simpa using this

def flagM (f : Int × Int → Int) (n : Nat) (l : List (Int × Int)) : List Bool := (List.range n).map fun (i : Nat) => l.any fun p => decide (f p = (i : Int))
theorem flagM_len (f : Int × Int → Int) (n : Nat) (l : List (Int × Int)) : (flagM f n l).length = n := by simp [flagM]
theorem flagM_get (f : Int × Int → Int) {n : Nat} {l : List (Int × Int)} {i : Int} (h : 0 ≤ i ∧ i < (n : Int)) : (flagM f n l).getD i.toNat false = l.any fun p => decide (f p = i) := by
  have : i.toNat < n := by omega
  unfold flagM
  rw [List.getD_eq_getElem?_getD, List.getElem?_map, List.getElem?_range this]
  simp only [Option.map_some, Option.getD_some]
  congr 1; funext p
  rw [Int.toNat_of_nonneg h.1]
theorem flagM_nil (f : Int × Int → Int) (n : Nat) : flagM f n [] = List.replicate n false := by
  unfold flagM
  refine List.ext_getElem (by simp) fun i h1 h2 => by simp
theorem flagM_snoc (f : Int × Int → Int) {n : Nat} {l : List (Int × Int)} {p : Int × Int} (h : 0 ≤ f p ∧ f p < (n : Int)) : (flagM f n l).set (f p).toNat true = flagM f n (l ++ [p]) := by
  refine List.ext_getElem (by simp [flagM]) fun i h1 h2 => ?_
  simp only [flagM, List.length_set, List.length_map, List.length_range] at h1
  simp only [List.getElem_set, flagM, List.getElem_map, List.getElem_range, List.any_append, List.any_cons, List.any_nil, Bool.or_false]
  by_cases e : (f p).toNat = i
  · rw [if_pos e]
    have : f p = (i : Int) := by omega
    simp [this]
  · rw [if_neg e]
    have : ¬ f p = (i : Int) := by omega
    simp [this]
def isMat (E P : List (Int × Int)) : Bool := (P.all fun p => decide (p ∈ E)) && (decide (P.map (·.1)).Nodup && decide (P.map (·.2)).Nodup)
theorem map_nodup_snoc {f : Int × Int → Int} {l : List (Int × Int)} {p : Int × Int} (h : (l.map f).Nodup) (hp : (l.any fun q => decide (f q = f p)) = false) : ((l ++ [p]).map f).Nodup := by
  rw [List.map_append]
  refine List.nodup_append.2 ⟨h, by simp, ?_⟩
  intro a ha b hb e
  simp only [List.map_cons, List.map_nil, List.mem_singleton] at hb
  subst hb; subst e
  obtain ⟨q, hq, hfq⟩ := List.mem_map.1 ha
  rw [List.any_eq_false] at hp
  exact hp q hq (by simp [hfq])
theorem map_not_nodup {f : Int × Int → Int} {P : List (Int × Int)} {j : Nat} {p : Int × Int} (hp : P[j]? = some p) (h : ((P.take j).any fun q => decide (f q = f p)) = true) : ¬ (P.map f).Nodup := fun hn => by
  rw [List.any_eq_true] at h
  obtain ⟨q, hq, hfq⟩ := h
  rw [decide_eq_true_eq] at hfq
  rw [List.mem_take_iff_getElem] at hq
  obtain ⟨i, hi, e1⟩ := hq
  have hj := (List.getElem?_eq_some_iff.1 hp).1
  refine List.pairwise_iff_getElem.1 hn i j (by simp; omega) (by simpa using hj) (by omega) ?_
  simp only [List.getElem_map]
  rw [e1, (List.getElem?_eq_some_iff.1 hp).2, hfq]
end Go.AM

namespace Go.Proofs.M
open Go.AM Go
set_option maxRecDepth 100000
set_option maxHeartbeats 2000000
theorem keyOk51 (e : Int × Int) : keyOk Try.prog 51 (keyA e) = true := by
  simp only [keyA, keyOk, arD51, inD3, tyd3]; rfl
theorem mvalid_r (n m : Int) (E : List (Int × Int)) (hl : E.length ≤ 9223372036854775807) : Reads Try.prog 14 false [.int .i64 n, .int .i64 m, .rsl 2 (E.map pairV)] (.bool (validM n m E)) := by
  refine Reads.body (rs := [.tmp 6]) Try.func14 rfl Try.ntmps14 rfl (by simp) ?_
  generalize hQr : retQ _ _ _ = Qr
  refine AW.seq fun K1 hK1 => ?_
  -- region 0
  refine AW.regionK 0 (fun _ => none) [0, 1, 2] [] ?_
  simp only [go_sem, reduceIte, reduceCtorEq, Nat.reduceAdd, Nat.reduceMul, Nat.reduceEqDiff, Nat.reduceLT, Nat.reduceLeDiff, Nat.reduceSub, Nat.reducePow, Nat.reduceBEq, Int.reduceToNat, List.reduceReplicate]
  repeat with_reducible refine cj ?_ ?_
  all_goals try first | omega
  refine hK1 _ _ _ ?_; clear hK1
  refine AW.seq fun K2 hK2 => ?_
  refine AW.seq fun K3 hK3 => ?_
  -- region 1
  refine AW.regionK 0 (fun _ => none) [0, 1, 2, 28] [] ?_
  simp only [go_sem, reduceIte, reduceCtorEq, Nat.reduceAdd, Nat.reduceMul, Nat.reduceEqDiff, Nat.reduceLT, Nat.reduceLeDiff, Nat.reduceSub, Nat.reducePow, Nat.reduceBEq, Int.reduceToNat, List.reduceReplicate]
  repeat with_reducible refine cj ?_ ?_
  all_goals try first | omega | (intros; (repeat' apply And.intro) <;> first | assumption | omega | decide) | (intro hgd; exact absurd hgd (by decide)) | rfl | (simp only [go_sem, reduceIte, reduceCtorEq, Nat.reduceAdd, Nat.reduceMul, Nat.reduceEqDiff, Nat.reduceLT, Nat.reduceLeDiff, Nat.reduceSub, Nat.reducePow, Nat.reduceBEq, Int.reduceToNat, List.reduceReplicate]; done) | (intro _hgd; simp_all [go_sem]; done)
  refine hK3 _ _ _ ?_; clear hK3
  -- cond 1
  refine AW.cond rfl (by simp only [go_sem, reduceIte, reduceCtorEq, Nat.reduceAdd, Nat.reduceMul, Nat.reduceEqDiff, Nat.reduceLT, Nat.reduceLeDiff, Nat.reduceSub, Nat.reducePow, Nat.reduceBEq, Int.reduceToNat, List.reduceReplicate]) ?_ ?_
  · intro hb
    try simp only [hB, decide_eq_true_eq, decide_eq_false_iff_not] at hb
    refine AW.seq fun K4 hK4 => ?_
    -- region 2
    refine AW.regionK 0 (fun _ => none) [6] [] ?_
    simp only [go_sem, reduceIte, reduceCtorEq, Nat.reduceAdd, Nat.reduceMul, Nat.reduceEqDiff, Nat.reduceLT, Nat.reduceLeDiff, Nat.reduceSub, Nat.reducePow, Nat.reduceBEq, Int.reduceToNat, List.reduceReplicate]
    repeat with_reducible refine cj ?_ ?_
    all_goals try first | omega
    refine hK4 _ _ _ ?_; clear hK4
    refine AW.ret ?_
    rw [← hQr]
    simp only [go_sem, reduceIte, reduceCtorEq, Nat.reduceAdd, Nat.reduceMul, Nat.reduceEqDiff, Nat.reduceLT, Nat.reduceLeDiff, Nat.reduceSub, Nat.reducePow, Nat.reduceBEq, Int.reduceToNat, List.reduceReplicate]
    have hsz : sizesM n m E = false := by simp only [sizesM, hB.2.2.2.2.1, decide_eq_false_iff_not]; omega
    exact Wk.of_eq (by rw [validM, hsz]; rfl)
  · intro hb
    try simp only [hB, decide_eq_true_eq, decide_eq_false_iff_not] at hb
    have hsz : sizesM n m E = true := by simp only [sizesM, hB.2.1, decide_eq_true_eq]; omega
    obtain ⟨⟨⟨⟨q1, q2⟩, q3⟩, q4⟩, q5⟩ := hb
    refine AW.skip ?_
    refine hK2 _ _ _ ?_; clear hK2
    refine AW.seq fun K5 hK5 => ?_
    -- region 3
    refine AW.regionK 0 (fun _ => none) [0, 1, 2, 7] [29] ?_
    simp only [go_sem, reduceIte, reduceCtorEq, Nat.reduceAdd, Nat.reduceMul, Nat.reduceEqDiff, Nat.reduceLT, Nat.reduceLeDiff, Nat.reduceSub, Nat.reducePow, Nat.reduceBEq, Int.reduceToNat, List.reduceReplicate]
    repeat with_reducible refine cj ?_ ?_
    all_goals try first | omega
    refine hK5 _ _ _ ?_; clear hK5
    refine AW.seq fun K6 hK6 => ?_
    refine AW.seq fun K7 hK7 => ?_
    -- region 4
    refine AW.regionK 0 (fun _ => none) [0, 1, 7, 30, 31, 32] [29] ?_
    simp only [go_sem, reduceIte, reduceCtorEq, Nat.reduceAdd, Nat.reduceMul, Nat.reduceEqDiff, Nat.reduceLT, Nat.reduceLeDiff, Nat.reduceSub, Nat.reducePow, Nat.reduceBEq, Int.reduceToNat, List.reduceReplicate]
    repeat with_reducible refine cj ?_ ?_
    all_goals try first | omega
    refine hK7 _ _ _ ?_; clear hK7
    refine AW.block ?_
    -- loop 1
    refine AW.loopE (fun mm ee ss kk => ∃ (j g v : Nat), E.length - j = mm ∧ ee = [(0, .int .i64 n), (1, .int .i64 m), (7, .mp ⟨29, g, none⟩), (30, .rsl 2 (E.map pairV)), (31, .int .i64 E.length), (32, .int .i64 (j : Nat))] ∧ ss = [(29, some ⟨g, v, mapSz, (E.take j).map kvM⟩)] ∧ (j ≤ E.length ∧ goodUpto n m E j)) ?_ ?_
    · refine ⟨_, 0, ?_, ?_, rfl, ?henv, ?hstore, ?hst⟩
      case henv =>
        repeat' (first | rfl | refine env_cons ?_ ?_ | refine st_cons ?_ ?_ ?_ ?_ | refine int_eq ?_ | refine bool_eq ?_ | refine rsl_eq ?_ | refine osl_eq ?_ | refine sl_eq ?_ ?_ ?_ | refine ptr_eq ?_ ?_ ?_ | refine agg_eq ?_ | refine es_cons ?_ ?_ | refine row_cons ?_ ?_)
        all_goals (first | (simp; done) | omega | (simp; omega))
      case hstore =>
        repeat' (first | rfl | refine env_cons ?_ ?_ | refine st_cons ?_ ?_ ?_ ?_ | refine int_eq ?_ | refine bool_eq ?_ | refine rsl_eq ?_ | refine osl_eq ?_ | refine sl_eq ?_ ?_ ?_ | refine ptr_eq ?_ ?_ ?_ | refine agg_eq ?_ | refine es_cons ?_ ?_ | refine row_cons ?_ ?_)
        all_goals (first | (simp; done) | omega | (simp; omega))
      case hst =>
        exact ⟨by simp, fun i e hi => by omega⟩
    rintro mm ee ss kk ⟨j, g, v, rfl, rfl, rfl, hI⟩
    generalize hQl1 : thenQ _ _ = Ql1
    obtain ⟨hj, hgu⟩ := hI
    refine AW.seq fun K8 hK8 => ?_
    -- region 5
    refine AW.regionK 0 (fun _ => none) [0, 1, 7, 30, 31, 32, 33] [29] ?_
    simp only [go_sem, reduceIte, reduceCtorEq, Nat.reduceAdd, Nat.reduceMul, Nat.reduceEqDiff, Nat.reduceLT, Nat.reduceLeDiff, Nat.reduceSub, Nat.reducePow, Nat.reduceBEq, Int.reduceToNat, List.reduceReplicate]
    repeat with_reducible refine cj ?_ ?_
    all_goals try first | omega
    refine hK8 _ _ _ ?_; clear hK8
    refine AW.seq fun K9 hK9 => ?_
    -- cond 2
    refine AW.cond rfl (by simp only [go_sem, reduceIte, reduceCtorEq, Nat.reduceAdd, Nat.reduceMul, Nat.reduceEqDiff, Nat.reduceLT, Nat.reduceLeDiff, Nat.reduceSub, Nat.reducePow, Nat.reduceBEq, Int.reduceToNat, List.reduceReplicate]) ?_ ?_
    · intro hb
      try simp only [hB, decide_eq_true_eq, decide_eq_false_iff_not] at hb
      obtain ⟨e, he⟩ := getI (l := E) (j := j) (by omega)
      have hge := getV (f := pairV) he
      have hmb := mapB_kv (E.take j) e
      have hwf := mapWf_kv (P := Try.prog) keyOk51 (E.take j)
      have hkf := keysWf_kv (P := Try.prog) keyOk51 (E.take j)
      have hts : E.take (j + 1) = E.take j ++ [e] := by rw [List.take_add_one, he]; rfl
      unfold keyA at hmb
      refine AW.skip ?_
      refine hK9 _ _ _ ?_; clear hK9
      refine AW.seq fun K10 hK10 => ?_
      refine AW.block ?_
      refine AW.seq fun K11 hK11 => ?_
      -- region 6
      refine AW.regionK 0 (fun _ => none) [0, 1, 7, 9, 30, 31, 32] [9, 29] ?_
      simp only [go_sem, reduceIte, reduceCtorEq, Nat.reduceAdd, Nat.reduceMul, Nat.reduceEqDiff, Nat.reduceLT, Nat.reduceLeDiff, Nat.reduceSub, Nat.reducePow, Nat.reduceBEq, Int.reduceToNat, List.reduceReplicate, hge, pairV]
      repeat with_reducible refine cj ?_ ?_
      all_goals try first | omega
      refine hK11 _ _ _ ?_; clear hK11
      refine AW.seq fun K12 hK12 => ?_
      refine AW.seq fun K13 hK13 => ?_
      -- region 7
      refine AW.regionK 0 (fun _ => none) [0, 1, 7, 9, 30, 31, 32, 60] [9, 29] ?_
      simp only [go_sem, reduceIte, reduceCtorEq, Nat.reduceAdd, Nat.reduceMul, Nat.reduceEqDiff, Nat.reduceLT, Nat.reduceLeDiff, Nat.reduceSub, Nat.reducePow, Nat.reduceBEq, Int.reduceToNat, List.reduceReplicate, hmb]
      repeat with_reducible refine cj ?_ ?_
      all_goals try first | ((intros; exact hwf)) | (intros; (repeat' apply And.intro) <;> first | assumption | ((intros; exact hwf))) | omega | (intro hgd; exact absurd hgd (by decide)) | rfl | (simp only [go_sem, reduceIte, reduceCtorEq, Nat.reduceAdd, Nat.reduceMul, Nat.reduceEqDiff, Nat.reduceLT, Nat.reduceLeDiff, Nat.reduceSub, Nat.reducePow, Nat.reduceBEq, Int.reduceToNat, List.reduceReplicate, hmb]; done) | (intro _hgd; simp_all [go_sem]; done)
      refine hK13 _ _ _ ?_; clear hK13
      -- cond 3
      refine AW.cond rfl (by simp only [go_sem, reduceIte, reduceCtorEq, Nat.reduceAdd, Nat.reduceMul, Nat.reduceEqDiff, Nat.reduceLT, Nat.reduceLeDiff, Nat.reduceSub, Nat.reducePow, Nat.reduceBEq, Int.reduceToNat, List.reduceReplicate]) ?_ ?_
      · intro hb
        try simp only [hB, decide_eq_true_eq, decide_eq_false_iff_not] at hb
        refine AW.seq fun K14 hK14 => ?_
        -- region 8
        refine AW.regionK 0 (fun _ => none) [6] [9, 29] ?_
        simp only [go_sem, reduceIte, reduceCtorEq, Nat.reduceAdd, Nat.reduceMul, Nat.reduceEqDiff, Nat.reduceLT, Nat.reduceLeDiff, Nat.reduceSub, Nat.reducePow, Nat.reduceBEq, Int.reduceToNat, List.reduceReplicate]
        repeat with_reducible refine cj ?_ ?_
        all_goals try first | omega
        refine hK14 _ _ _ ?_; clear hK14
        refine AW.ret ?_
        rw [← hQl1]
        rw [← hQr]
        simp only [go_sem, reduceIte, reduceCtorEq, Nat.reduceAdd, Nat.reduceMul, Nat.reduceEqDiff, Nat.reduceLT, Nat.reduceLeDiff, Nat.reduceSub, Nat.reducePow, Nat.reduceBEq, Int.reduceToNat, List.reduceReplicate]
        exact Wk.of_eq (by rw [good_bad he]; rcases hb with hb | hb; exact .inl (edgeIn_false (by omega)); exact .inr hb)
      · intro hb
        try simp only [hB, decide_eq_true_eq, decide_eq_false_iff_not] at hb
        obtain ⟨hb, hnm⟩ := hb
        have hgs := goodUpto_succ hgu he (edgeIn_iff.2 (by omega)) hnm
        have hmp := mapPut_kv hnm
        unfold keyA at hmp
        refine AW.skip ?_
        refine hK12 _ _ _ ?_; clear hK12
        -- region 9
        refine AW.regionK 0 (fun _ => none) [0, 1, 7, 30, 31, 32] [29] ?_
        simp only [go_sem, reduceIte, reduceCtorEq, Nat.reduceAdd, Nat.reduceMul, Nat.reduceEqDiff, Nat.reduceLT, Nat.reduceLeDiff, Nat.reduceSub, Nat.reducePow, Nat.reduceBEq, Int.reduceToNat, List.reduceReplicate, hmp, ← hts]
        repeat with_reducible refine cj ?_ ?_
        all_goals try first | (exact hkf) | omega
        refine hK10 _ _ _ ?_; clear hK10
        -- region 10
        refine AW.regionK 0 (fun _ => none) [0, 1, 7, 30, 31, 32] [29] ?_
        simp only [go_sem, reduceIte, reduceCtorEq, Nat.reduceAdd, Nat.reduceMul, Nat.reduceEqDiff, Nat.reduceLT, Nat.reduceLeDiff, Nat.reduceSub, Nat.reducePow, Nat.reduceBEq, Int.reduceToNat, List.reduceReplicate]
        repeat with_reducible refine cj ?_ ?_
        all_goals try first | omega
        rw [← hQl1]
        change Exists _
        refine ⟨_, ?hm, j + 1, ?_, ?_, rfl, ?henv, ?hstore, ?hst⟩
        case henv =>
          repeat' (first | rfl | refine env_cons ?_ ?_ | refine st_cons ?_ ?_ ?_ ?_ | refine int_eq ?_ | refine bool_eq ?_ | refine rsl_eq ?_ | refine osl_eq ?_ | refine sl_eq ?_ ?_ ?_ | refine ptr_eq ?_ ?_ ?_ | refine agg_eq ?_ | refine es_cons ?_ ?_ | refine row_cons ?_ ?_)
          all_goals (first | (simp; done) | omega | (simp; omega))
        case hstore =>
          repeat' (first | rfl | refine env_cons ?_ ?_ | refine st_cons ?_ ?_ ?_ ?_ | refine int_eq ?_ | refine bool_eq ?_ | refine rsl_eq ?_ | refine osl_eq ?_ | refine sl_eq ?_ ?_ ?_ | refine ptr_eq ?_ ?_ ?_ | refine agg_eq ?_ | refine es_cons ?_ ?_ | refine row_cons ?_ ?_)
          all_goals (first | (simp; done) | omega | (simp; omega))
        case hst =>
          exact ⟨by omega, hgs⟩
        case hm => omega
    · intro hb
      try simp only [hB, decide_eq_true_eq, decide_eq_false_iff_not] at hb
      have hj : j = E.length := by omega
      subst hj
      obtain ⟨ha, hn⟩ := goodUpto_all hgu
      refine AW.keep [] [] ?_
      try simp only [go_sem, reduceIte, reduceCtorEq, Nat.reduceAdd, Nat.reduceMul, Nat.reduceEqDiff, Nat.reduceLT, Nat.reduceLeDiff, Nat.reduceSub, Nat.reducePow, Nat.reduceBEq, Int.reduceToNat, List.reduceReplicate]
      refine AW.exit ?_
      rw [← hQl1]
      refine hK6 _ _ _ ?_; clear hK6
      refine AW.seq fun K15 hK15 => ?_
      -- region 11
      refine AW.regionK 0 (fun _ => none) [6] [] ?_
      simp only [go_sem, reduceIte, reduceCtorEq, Nat.reduceAdd, Nat.reduceMul, Nat.reduceEqDiff, Nat.reduceLT, Nat.reduceLeDiff, Nat.reduceSub, Nat.reducePow, Nat.reduceBEq, Int.reduceToNat, List.reduceReplicate]
      repeat with_reducible refine cj ?_ ?_
      all_goals try first | omega
      refine hK15 _ _ _ ?_; clear hK15
      refine AW.ret ?_
      rw [← hQr]
      simp only [go_sem, reduceIte, reduceCtorEq, Nat.reduceAdd, Nat.reduceMul, Nat.reduceEqDiff, Nat.reduceLT, Nat.reduceLeDiff, Nat.reduceSub, Nat.reducePow, Nat.reduceBEq, Int.reduceToNat, List.reduceReplicate]
      exact Wk.of_eq (by rw [validM, hsz, ha]; simp [hn])
end Go.Proofs.M

namespace Go.Proofs.M
open Go.AM Go
set_option maxRecDepth 100000
set_option maxHeartbeats 1000000
theorem mul64_r (n : Nat) (hn : n < 4294967296) : Reads Try.prog 83 false [.int .u64 1, .int .u64 n] (.tup [.int .u64 0, .int .u64 n]) := by
  have h1 : bAnd .u64 1 4294967295 = 1 := mask32 (n := 1) (by decide)
  have h2 : bShr .u64 1 32 = 0 := shr32 (n := 1) (by decide)
  have h3 := mask32 hn
  have h4 := shr32 hn
  have h5 : bAnd .u64 0 4294967295 = 0 := mask32 (n := 0) (by decide)
  have h6 : bShr .u64 0 32 = 0 := shr32 (n := 0) (by decide)
  have h7 : IntKind.u64.wrap (n : Int) = n := wrap_small (by omega) (by omega)
  have h8 : IntKind.u64.wrap 0 = 0 := rfl
  refine Reads.body (rs := [.tmp 4, .tmp 5]) Try.func83 rfl Try.ntmps83 rfl (by simp) ?_
  generalize hQr : retQ _ _ _ = Qr
  refine AW.seq fun K1 hK1 => ?_
  -- region 0
  refine AW.regionK 0 (fun _ => none) [0, 1] [] ?_
  simp only [go_sem, reduceIte, reduceCtorEq, Nat.reduceAdd, Nat.reduceMul, Nat.reduceEqDiff, Nat.reduceLT, Nat.reduceLeDiff, Nat.reduceSub, Nat.reducePow, Nat.reduceBEq, Int.reduceToNat, List.reduceReplicate, h1, h2, h3, h4, h5, h6, h7, h8, Int.one_mul, Int.zero_mul, Int.mul_zero, Int.add_zero]
  repeat with_reducible refine cj ?_ ?_
  all_goals try first | omega
  refine hK1 _ _ _ ?_; clear hK1
  refine AW.seq fun K2 hK2 => ?_
  -- region 1
  refine AW.regionK 0 (fun _ => none) [0, 1, 6] [] ?_
  simp only [go_sem, reduceIte, reduceCtorEq, Nat.reduceAdd, Nat.reduceMul, Nat.reduceEqDiff, Nat.reduceLT, Nat.reduceLeDiff, Nat.reduceSub, Nat.reducePow, Nat.reduceBEq, Int.reduceToNat, List.reduceReplicate, h1, h2, h3, h4, h5, h6, h7, h8, Int.one_mul, Int.zero_mul, Int.mul_zero, Int.add_zero]
  repeat with_reducible refine cj ?_ ?_
  all_goals try first | omega
  refine hK2 _ _ _ ?_; clear hK2
  refine AW.seq fun K3 hK3 => ?_
  -- region 2
  refine AW.regionK 0 (fun _ => none) [0, 1, 6, 7] [] ?_
  simp only [go_sem, reduceIte, reduceCtorEq, Nat.reduceAdd, Nat.reduceMul, Nat.reduceEqDiff, Nat.reduceLT, Nat.reduceLeDiff, Nat.reduceSub, Nat.reducePow, Nat.reduceBEq, Int.reduceToNat, List.reduceReplicate, h1, h2, h3, h4, h5, h6, h7, h8, Int.one_mul, Int.zero_mul, Int.mul_zero, Int.add_zero]
  repeat with_reducible refine cj ?_ ?_
  all_goals try first | omega
  refine hK3 _ _ _ ?_; clear hK3
  refine AW.seq fun K4 hK4 => ?_
  -- region 3
  refine AW.regionK 0 (fun _ => none) [0, 1, 6, 7, 8] [] ?_
  simp only [go_sem, reduceIte, reduceCtorEq, Nat.reduceAdd, Nat.reduceMul, Nat.reduceEqDiff, Nat.reduceLT, Nat.reduceLeDiff, Nat.reduceSub, Nat.reducePow, Nat.reduceBEq, Int.reduceToNat, List.reduceReplicate, h1, h2, h3, h4, h5, h6, h7, h8, Int.one_mul, Int.zero_mul, Int.mul_zero, Int.add_zero]
  repeat with_reducible refine cj ?_ ?_
  all_goals try first | omega
  refine hK4 _ _ _ ?_; clear hK4
  refine AW.seq fun K5 hK5 => ?_
  -- region 4
  refine AW.regionK 0 (fun _ => none) [0, 1, 6, 7, 8, 9] [] ?_
  simp only [go_sem, reduceIte, reduceCtorEq, Nat.reduceAdd, Nat.reduceMul, Nat.reduceEqDiff, Nat.reduceLT, Nat.reduceLeDiff, Nat.reduceSub, Nat.reducePow, Nat.reduceBEq, Int.reduceToNat, List.reduceReplicate, h1, h2, h3, h4, h5, h6, h7, h8, Int.one_mul, Int.zero_mul, Int.mul_zero, Int.add_zero]
  repeat with_reducible refine cj ?_ ?_
  all_goals try first | omega
  refine hK5 _ _ _ ?_; clear hK5
  refine AW.seq fun K6 hK6 => ?_
  -- region 5
  refine AW.regionK 0 (fun _ => none) [0, 1, 6, 7, 8, 9, 10] [] ?_
  simp only [go_sem, reduceIte, reduceCtorEq, Nat.reduceAdd, Nat.reduceMul, Nat.reduceEqDiff, Nat.reduceLT, Nat.reduceLeDiff, Nat.reduceSub, Nat.reducePow, Nat.reduceBEq, Int.reduceToNat, List.reduceReplicate, h1, h2, h3, h4, h5, h6, h7, h8, Int.one_mul, Int.zero_mul, Int.mul_zero, Int.add_zero]
  repeat with_reducible refine cj ?_ ?_
  all_goals try first | omega
  refine hK6 _ _ _ ?_; clear hK6
  refine AW.seq fun K7 hK7 => ?_
  -- region 6
  refine AW.regionK 0 (fun _ => none) [0, 1, 6, 7, 9, 11] [] ?_
  simp only [go_sem, reduceIte, reduceCtorEq, Nat.reduceAdd, Nat.reduceMul, Nat.reduceEqDiff, Nat.reduceLT, Nat.reduceLeDiff, Nat.reduceSub, Nat.reducePow, Nat.reduceBEq, Int.reduceToNat, List.reduceReplicate, h1, h2, h3, h4, h5, h6, h7, h8, Int.one_mul, Int.zero_mul, Int.mul_zero, Int.add_zero]
  repeat with_reducible refine cj ?_ ?_
  all_goals try first | omega
  refine hK7 _ _ _ ?_; clear hK7
  refine AW.seq fun K8 hK8 => ?_
  -- region 7
  refine AW.regionK 0 (fun _ => none) [0, 1, 6, 7, 9, 11, 12] [] ?_
  simp only [go_sem, reduceIte, reduceCtorEq, Nat.reduceAdd, Nat.reduceMul, Nat.reduceEqDiff, Nat.reduceLT, Nat.reduceLeDiff, Nat.reduceSub, Nat.reducePow, Nat.reduceBEq, Int.reduceToNat, List.reduceReplicate, h1, h2, h3, h4, h5, h6, h7, h8, Int.one_mul, Int.zero_mul, Int.mul_zero, Int.add_zero]
  repeat with_reducible refine cj ?_ ?_
  all_goals try first | omega
  refine hK8 _ _ _ ?_; clear hK8
  refine AW.seq fun K9 hK9 => ?_
  -- region 8
  refine AW.regionK 0 (fun _ => none) [0, 1, 6, 7, 9, 12, 13] [] ?_
  simp only [go_sem, reduceIte, reduceCtorEq, Nat.reduceAdd, Nat.reduceMul, Nat.reduceEqDiff, Nat.reduceLT, Nat.reduceLeDiff, Nat.reduceSub, Nat.reducePow, Nat.reduceBEq, Int.reduceToNat, List.reduceReplicate, h1, h2, h3, h4, h5, h6, h7, h8, Int.one_mul, Int.zero_mul, Int.mul_zero, Int.add_zero]
  repeat with_reducible refine cj ?_ ?_
  all_goals try first | omega
  refine hK9 _ _ _ ?_; clear hK9
  refine AW.seq fun K10 hK10 => ?_
  -- region 9
  refine AW.regionK 0 (fun _ => none) [0, 1, 7, 9, 12, 13] [] ?_
  simp only [go_sem, reduceIte, reduceCtorEq, Nat.reduceAdd, Nat.reduceMul, Nat.reduceEqDiff, Nat.reduceLT, Nat.reduceLeDiff, Nat.reduceSub, Nat.reducePow, Nat.reduceBEq, Int.reduceToNat, List.reduceReplicate, h1, h2, h3, h4, h5, h6, h7, h8, Int.one_mul, Int.zero_mul, Int.mul_zero, Int.add_zero]
  repeat with_reducible refine cj ?_ ?_
  all_goals try first | omega
  refine hK10 _ _ _ ?_; clear hK10
  refine AW.seq fun K11 hK11 => ?_
  -- region 10
  refine AW.regionK 0 (fun _ => none) [0, 1, 4] [] ?_
  simp only [go_sem, reduceIte, reduceCtorEq, Nat.reduceAdd, Nat.reduceMul, Nat.reduceEqDiff, Nat.reduceLT, Nat.reduceLeDiff, Nat.reduceSub, Nat.reducePow, Nat.reduceBEq, Int.reduceToNat, List.reduceReplicate, h1, h2, h3, h4, h5, h6, h7, h8, Int.one_mul, Int.zero_mul, Int.mul_zero, Int.add_zero]
  repeat with_reducible refine cj ?_ ?_
  all_goals try first | omega
  refine hK11 _ _ _ ?_; clear hK11
  refine AW.seq fun K12 hK12 => ?_
  -- region 11
  refine AW.regionK 0 (fun _ => none) [4, 5] [] ?_
  simp only [go_sem, reduceIte, reduceCtorEq, Nat.reduceAdd, Nat.reduceMul, Nat.reduceEqDiff, Nat.reduceLT, Nat.reduceLeDiff, Nat.reduceSub, Nat.reducePow, Nat.reduceBEq, Int.reduceToNat, List.reduceReplicate, h1, h2, h3, h4, h5, h6, h7, h8, Int.one_mul, Int.zero_mul, Int.mul_zero, Int.add_zero]
  repeat with_reducible refine cj ?_ ?_
  all_goals try first | omega
  refine hK12 _ _ _ ?_; clear hK12
  refine AW.ret ?_
  rw [← hQr]
  simp only [go_sem, reduceIte, reduceCtorEq, Nat.reduceAdd, Nat.reduceMul, Nat.reduceEqDiff, Nat.reduceLT, Nat.reduceLeDiff, Nat.reduceSub, Nat.reducePow, Nat.reduceBEq, Int.reduceToNat, List.reduceReplicate, h1, h2, h3, h4, h5, h6, h7, h8, Int.one_mul, Int.zero_mul, Int.mul_zero, Int.add_zero]
  exact Wk.refl _
theorem mul_r (n : Nat) (hn : n < 4294967296) : Reads Try.prog 80 false [.int .u64 1, .int .u64 n] (.tup [.int .u64 0, .int .u64 n]) := by
  have h := mul64_r n hn
  refine Reads.body (rs := [.tmp 4, .tmp 5]) Try.func80 rfl Try.ntmps80 rfl (by simp) ?_
  generalize hQr : retQ _ _ _ = Qr
  refine AW.seq fun K1 hK1 => ?_
  -- region 0
  refine AW.regionK 0 (fun _ => none) [0, 1] [] ?_
  simp only [go_sem, reduceIte, reduceCtorEq, Nat.reduceAdd, Nat.reduceMul, Nat.reduceEqDiff, Nat.reduceLT, Nat.reduceLeDiff, Nat.reduceSub, Nat.reducePow, Nat.reduceBEq, Int.reduceToNat, List.reduceReplicate]
  repeat with_reducible refine cj ?_ ?_
  all_goals try first | omega
  refine hK1 _ _ _ ?_; clear hK1
  refine AW.seq fun K2 hK2 => ?_
  -- cond 1
  refine AW.cond rfl (by simp only [go_sem, reduceIte, reduceCtorEq, Nat.reduceAdd, Nat.reduceMul, Nat.reduceEqDiff, Nat.reduceLT, Nat.reduceLeDiff, Nat.reduceSub, Nat.reducePow, Nat.reduceBEq, Int.reduceToNat, List.reduceReplicate]) ?_ ?_
  · intro hb
    try simp only [hB, decide_eq_true_eq, decide_eq_false_iff_not] at hb
    simp at hb
  · intro hb
    try simp only [hB, decide_eq_true_eq, decide_eq_false_iff_not] at hb
    refine AW.skip ?_
    refine hK2 _ _ _ ?_; clear hK2
    refine AW.seq fun K3 hK3 => ?_
    -- region 3
    refine AW.regionK 0 (fun ii => if ii = 2 then some (.reads false (.tup [.int .u64 0, .int .u64 n])) else none) [8, 9] [] ?_
    simp only [go_sem, reduceIte, reduceCtorEq, Nat.reduceAdd, Nat.reduceMul, Nat.reduceEqDiff, Nat.reduceLT, Nat.reduceLeDiff, Nat.reduceSub, Nat.reducePow, Nat.reduceBEq, Int.reduceToNat, List.reduceReplicate]
    repeat with_reducible refine cj ?_ ?_
    all_goals try first | (exact h) | omega | exact ent (by kernel_rfl)
    refine hK3 _ _ _ ?_; clear hK3
    refine AW.seq fun K4 hK4 => ?_
    -- region 4
    refine AW.regionK 0 (fun _ => none) [4, 5] [] ?_
    simp only [go_sem, reduceIte, reduceCtorEq, Nat.reduceAdd, Nat.reduceMul, Nat.reduceEqDiff, Nat.reduceLT, Nat.reduceLeDiff, Nat.reduceSub, Nat.reducePow, Nat.reduceBEq, Int.reduceToNat, List.reduceReplicate]
    repeat with_reducible refine cj ?_ ?_
    all_goals try first | omega
    refine hK4 _ _ _ ?_; clear hK4
    refine AW.ret ?_
    rw [← hQr]
    simp only [go_sem, reduceIte, reduceCtorEq, Nat.reduceAdd, Nat.reduceMul, Nat.reduceEqDiff, Nat.reduceLT, Nat.reduceLeDiff, Nat.reduceSub, Nat.reducePow, Nat.reduceBEq, Int.reduceToNat, List.reduceReplicate]
    exact Wk.refl _
end Go.Proofs.M

namespace Go.Proofs.M
open Go.AM Go
set_option maxRecDepth 100000
set_option maxHeartbeats 2000000
theorem repeat_u (a : Int) (n : Nat) (hn : n ≤ 100000) (g0 v0 : Nat) : Upd Try.prog 74 [(0, some ⟨g0, v0, 1, ints [a]⟩)] [.sl ⟨0, g0, none⟩ 0 1 none, .int .i64 n] (fun k => .sl ⟨1, k, none⟩ 0 n none) (fun k => [(1, some ⟨k, k, 1, ints (List.replicate n a)⟩)]) := by
  have hm := mul_r n (by omega)
  have hw := wrap_small (z := (n : Int)) (by omega) (by omega)
  have hw1 : IntKind.u64.wrap 1 = 1 := rfl
  have hw2 : IntKind.i64.wrap (n : Int) = n := by simp [IntKind.wrap, IntKind.signed, IntKind.bits]; omega
  have hl1 : (ints [a]).length = 1 := rfl
  have hz : List.replicate n [AV.int .i64 0] = ints (List.replicate n 0) := by simp [ints]
  refine Upd.of_body (rs := [.tmp 4]) Try.func74 rfl Try.ntmps74 rfl (by simp) ?_
  intro k0 k hk0 hk1
  generalize hQr : retQ _ _ _ = Qr
  refine AW.seq fun K1 hK1 => ?_
  -- region 0
  refine AW.regionK 100 (fun _ => none) [0, 1] [0] ?_
  simp only [go_sem, reduceIte, reduceCtorEq, Nat.reduceAdd, Nat.reduceMul, Nat.reduceEqDiff, Nat.reduceLT, Nat.reduceLeDiff, Nat.reduceSub, Nat.reducePow, Nat.reduceBEq, Int.reduceToNat, List.reduceReplicate, hw, hw1, hw2, hl1]
  repeat with_reducible refine cj ?_ ?_
  all_goals try first | omega
  refine hK1 _ _ _ ?_; clear hK1
  refine AW.seq fun K2 hK2 => ?_
  refine AW.seq fun K3 hK3 => ?_
  -- region 1
  refine AW.regionK 100 (fun _ => none) [0, 1, 10] [0] ?_
  simp only [go_sem, reduceIte, reduceCtorEq, Nat.reduceAdd, Nat.reduceMul, Nat.reduceEqDiff, Nat.reduceLT, Nat.reduceLeDiff, Nat.reduceSub, Nat.reducePow, Nat.reduceBEq, Int.reduceToNat, List.reduceReplicate, hw, hw1, hw2, hl1]
  repeat with_reducible refine cj ?_ ?_
  all_goals try first | omega
  refine hK3 _ _ _ ?_; clear hK3
  -- cond 1
  refine AW.cond rfl (by simp only [go_sem, reduceIte, reduceCtorEq, Nat.reduceAdd, Nat.reduceMul, Nat.reduceEqDiff, Nat.reduceLT, Nat.reduceLeDiff, Nat.reduceSub, Nat.reducePow, Nat.reduceBEq, Int.reduceToNat, List.reduceReplicate]) ?_ ?_
  · intro hb
    try simp only [hB, decide_eq_true_eq, decide_eq_false_iff_not] at hb
    exfalso; omega
  · intro hb
    try simp only [hB, decide_eq_true_eq, decide_eq_false_iff_not] at hb
    refine AW.skip ?_
    refine hK2 _ _ _ ?_; clear hK2
    refine AW.seq fun K4 hK4 => ?_
    -- region 3
    refine AW.regionK 100 (fun ii => if ii = 5 then some (.reads false (.tup [.int .u64 0, .int .u64 n])) else none) [0, 5, 6] [0] ?_
    simp only [go_sem, reduceIte, reduceCtorEq, Nat.reduceAdd, Nat.reduceMul, Nat.reduceEqDiff, Nat.reduceLT, Nat.reduceLeDiff, Nat.reduceSub, Nat.reducePow, Nat.reduceBEq, Int.reduceToNat, List.reduceReplicate, hw, hw1, hw2, hl1]
    repeat with_reducible refine cj ?_ ?_
    all_goals try first | (exact hm) | omega | exact ent (by kernel_rfl)
    refine hK4 _ _ _ ?_; clear hK4
    refine AW.seq fun K5 hK5 => ?_
    refine AW.seq fun K6 hK6 => ?_
    -- region 4
    refine AW.regionK 100 (fun _ => none) [0, 6, 26] [0] ?_
    simp only [go_sem, reduceIte, reduceCtorEq, Nat.reduceAdd, Nat.reduceMul, Nat.reduceEqDiff, Nat.reduceLT, Nat.reduceLeDiff, Nat.reduceSub, Nat.reducePow, Nat.reduceBEq, Int.reduceToNat, List.reduceReplicate, hw, hw1, hw2, hl1]
    repeat with_reducible refine cj ?_ ?_
    all_goals try first | omega | (intros; (repeat' apply And.intro) <;> first | assumption | omega | decide) | (intro hgd; exact absurd hgd (by decide)) | rfl | (simp only [go_sem, reduceIte, reduceCtorEq, Nat.reduceAdd, Nat.reduceMul, Nat.reduceEqDiff, Nat.reduceLT, Nat.reduceLeDiff, Nat.reduceSub, Nat.reducePow, Nat.reduceBEq, Int.reduceToNat, List.reduceReplicate, hw, hw1, hw2, hl1]; done) | (intro _hgd; simp_all [go_sem]; done)
    refine hK6 _ _ _ ?_; clear hK6
    -- cond 2
    refine AW.cond rfl (by simp only [go_sem, reduceIte, reduceCtorEq, Nat.reduceAdd, Nat.reduceMul, Nat.reduceEqDiff, Nat.reduceLT, Nat.reduceLeDiff, Nat.reduceSub, Nat.reducePow, Nat.reduceBEq, Int.reduceToNat, List.reduceReplicate]) ?_ ?_
    · intro hb
      try simp only [hB, decide_eq_true_eq, decide_eq_false_iff_not] at hb
      exfalso; rcases hb with hb | hb <;> omega
    · intro hb
      try simp only [hB, decide_eq_true_eq, decide_eq_false_iff_not] at hb
      refine AW.skip ?_
      refine hK5 _ _ _ ?_; clear hK5
      refine AW.seq fun K7 hK7 => ?_
      -- region 6
      refine AW.regionK 100 (fun _ => none) [0, 7] [0, 130] ?_
      simp only [go_sem, reduceIte, reduceCtorEq, Nat.reduceAdd, Nat.reduceMul, Nat.reduceEqDiff, Nat.reduceLT, Nat.reduceLeDiff, Nat.reduceSub, Nat.reducePow, Nat.reduceBEq, Int.reduceToNat, List.reduceReplicate, hw, hw1, hw2, hl1]
      repeat with_reducible refine cj ?_ ?_
      all_goals try first | omega
      refine hK7 _ _ _ ?_; clear hK7
      refine AW.seq fun K8 hK8 => ?_
      -- region 7
      refine AW.regionK 100 (fun _ => none) [7, 8] [130] ?_
      simp only [go_sem, reduceIte, reduceCtorEq, Nat.reduceAdd, Nat.reduceMul, Nat.reduceEqDiff, Nat.reduceLT, Nat.reduceLeDiff, Nat.reduceSub, Nat.reducePow, Nat.reduceBEq, Int.reduceToNat, List.reduceReplicate, hw, hw1, hw2, hl1]
      repeat with_reducible refine cj ?_ ?_
      all_goals try first | omega | (simp [scP, scalar]; done) | exact scP_words _ | exact scP_ints _ | exact scP_bools _
      refine hK8 _ _ _ ?_; clear hK8
      refine AW.seq fun K9 hK9 => ?_
      refine AW.block ?_
      -- loop 1
      refine AW.loopE (fun mm ee ss kk => ∃ (c g v : Nat), n - c = mm ∧ ee = [(7, .sl ⟨130, g, none⟩ 0 n none), (8, .int .i64 (c : Nat))] ∧ ss = [(130, some ⟨g, v, 1, ints (repC a n c)⟩)] ∧ (c ≤ n ∧ (c = 0 → n = 0))) ?_ ?_
      · refine ⟨_, min 1 n, ?_, ?_, rfl, ?henv, ?hstore, ?hst⟩
        case henv =>
          repeat' (first | rfl | refine env_cons ?_ ?_ | refine st_cons ?_ ?_ ?_ ?_ | refine int_eq ?_ | refine bool_eq ?_ | refine rsl_eq ?_ | refine osl_eq ?_ | refine sl_eq ?_ ?_ ?_ | refine ptr_eq ?_ ?_ ?_ | refine agg_eq ?_ | refine es_cons ?_ ?_ | refine row_cons ?_ ?_)
          all_goals (first | (simp; done) | omega | (simp; omega))
        case hstore =>
          repeat' (first | rfl | refine env_cons ?_ ?_ | refine st_cons ?_ ?_ ?_ ?_ | refine int_eq ?_ | refine bool_eq ?_ | refine rsl_eq ?_ | refine osl_eq ?_ | refine sl_eq ?_ ?_ ?_ | refine ptr_eq ?_ ?_ ?_ | refine agg_eq ?_ | refine es_cons ?_ ?_ | refine row_cons ?_ ?_)
          all_goals (rw [hz]; unfold repC; by_cases h0 : n = 0; (subst h0; rfl); (rw [show min 1 n = 1 by omega]; simp [ints]))
        case hst =>
          first | trivial | omega | (simp; done) | (simp; omega)
      rintro mm ee ss kk ⟨c, g, v, rfl, rfl, rfl, hI⟩
      generalize hQl1 : thenQ _ _ = Ql1
      have hrl : (repC a n c).length = n := by simp [repC]; omega
      refine AW.seq fun K10 hK10 => ?_
      refine AW.seq fun K11 hK11 => ?_
      -- region 8
      refine AW.regionK 100 (fun _ => none) [7, 8, 37] [130] ?_
      simp only [go_sem, reduceIte, reduceCtorEq, Nat.reduceAdd, Nat.reduceMul, Nat.reduceEqDiff, Nat.reduceLT, Nat.reduceLeDiff, Nat.reduceSub, Nat.reducePow, Nat.reduceBEq, Int.reduceToNat, List.reduceReplicate, hw, hw1, hw2, hl1]
      repeat with_reducible refine cj ?_ ?_
      all_goals try first | omega
      refine hK11 _ _ _ ?_; clear hK11
      -- cond 3
      refine AW.cond rfl (by simp only [go_sem, reduceIte, reduceCtorEq, Nat.reduceAdd, Nat.reduceMul, Nat.reduceEqDiff, Nat.reduceLT, Nat.reduceLeDiff, Nat.reduceSub, Nat.reducePow, Nat.reduceBEq, Int.reduceToNat, List.reduceReplicate]) ?_ ?_
      · intro hb
        try simp only [hB, decide_eq_true_eq, decide_eq_false_iff_not] at hb
        refine AW.skip ?_
        refine hK10 _ _ _ ?_; clear hK10
        refine AW.block ?_
        -- region 9
        refine AW.regionD mixed 100 (fun _ => none) [7, 8] [130] ?_
        simp only [go_sem, reduceIte, reduceCtorEq, Nat.reduceAdd, Nat.reduceMul, Nat.reduceEqDiff, Nat.reduceLT, Nat.reduceLeDiff, Nat.reduceSub, Nat.reducePow, Nat.reduceBEq, Int.reduceToNat, List.reduceReplicate, hw, hw1, hw2, hl1]
        repeat with_reducible refine cj ?_ ?_
        all_goals try first | omega | exact chk (by kernel_rfl) | (simp [scP, scalar]; done) | exact scP_words _ | exact scP_ints _ | exact scP_bools _
        rw [← hQl1]
        change Exists _
        refine ⟨_, ?hm, c + min (n - c) c, ?_, ?_, rfl, ?henv, ?hstore, ?hst⟩
        case henv =>
          repeat' (first | rfl | refine env_cons ?_ ?_ | refine st_cons ?_ ?_ ?_ ?_ | refine int_eq ?_ | refine bool_eq ?_ | refine rsl_eq ?_ | refine osl_eq ?_ | refine sl_eq ?_ ?_ ?_ | refine ptr_eq ?_ ?_ ?_ | refine agg_eq ?_ | refine es_cons ?_ ?_ | refine row_cons ?_ ?_)
          all_goals (first | (simp; done) | omega | (simp; omega))
        case hstore =>
          repeat' (first | rfl | refine env_cons ?_ ?_ | refine st_cons ?_ ?_ ?_ ?_ | refine int_eq ?_ | refine bool_eq ?_ | refine rsl_eq ?_ | refine osl_eq ?_ | refine sl_eq ?_ ?_ ?_ | refine ptr_eq ?_ ?_ ?_ | refine agg_eq ?_ | refine es_cons ?_ ?_ | refine row_cons ?_ ?_)
          all_goals (rw [repC_step a hI.1])
        case hst =>
          first | trivial | omega | (simp; done) | (simp; omega)
        case hm => omega
      · intro hb
        try simp only [hB, decide_eq_true_eq, decide_eq_false_iff_not] at hb
        refine AW.keep [7] [130] ?_
        try simp only [go_sem, reduceIte, reduceCtorEq, Nat.reduceAdd, Nat.reduceMul, Nat.reduceEqDiff, Nat.reduceLT, Nat.reduceLeDiff, Nat.reduceSub, Nat.reducePow, Nat.reduceBEq, Int.reduceToNat, List.reduceReplicate]
        refine AW.exit ?_
        rw [← hQl1]
        refine hK9 _ _ _ ?_; clear hK9
        refine AW.seq fun K12 hK12 => ?_
        -- region 10
        refine AW.regionK 100 (fun _ => none) [4] [130] ?_
        simp only [go_sem, reduceIte, reduceCtorEq, Nat.reduceAdd, Nat.reduceMul, Nat.reduceEqDiff, Nat.reduceLT, Nat.reduceLeDiff, Nat.reduceSub, Nat.reducePow, Nat.reduceBEq, Int.reduceToNat, List.reduceReplicate, hw, hw1, hw2, hl1]
        repeat with_reducible refine cj ?_ ?_
        all_goals try first | omega
        refine hK12 _ _ _ ?_; clear hK12
        refine AW.ret ?_
        rw [← hQr]
        simp only [go_sem, reduceIte, reduceCtorEq, Nat.reduceAdd, Nat.reduceMul, Nat.reduceEqDiff, Nat.reduceLT, Nat.reduceLeDiff, Nat.reduceSub, Nat.reducePow, Nat.reduceBEq, Int.reduceToNat, List.reduceReplicate, hw, hw1, hw2, hl1]
        have hc : c = n := by omega
        subst hc
        have hrc : repC a c c = List.replicate c a := by simp [repC]
        refine ⟨[(130, 1, true)], ?_⟩
        simp only [go_sem, reduceIte, Nat.reduceEqDiff, renC_ints, hrc]
theorem free_u (n : Nat) (hn : n ≤ 100000) : Upd Try.prog 61 [] [.int .i64 n] (fun k => .sl ⟨0, k, none⟩ 0 n none) (fun k => [(0, some ⟨k, k, 1, ints (List.replicate n (-1))⟩)]) := by
  have hru := repeat_u (-1) n hn
  refine Upd.of_body (rs := [.tmp 2]) Try.func61 rfl Try.ntmps61 rfl (by simp) ?_
  intro k0 k hk0 hk1
  generalize hQr : retQ _ _ _ = Qr
  refine AW.seq fun K1 hK1 => ?_
  -- region 0
  refine AW.regionK 100 (fun _ => none) [0] [] ?_
  simp only [go_sem, reduceIte, reduceCtorEq, Nat.reduceAdd, Nat.reduceMul, Nat.reduceEqDiff, Nat.reduceLT, Nat.reduceLeDiff, Nat.reduceSub, Nat.reducePow, Nat.reduceBEq, Int.reduceToNat, List.reduceReplicate]
  repeat with_reducible refine cj ?_ ?_
  all_goals try first | omega
  refine hK1 _ _ _ ?_; clear hK1
  refine AW.seq fun K2 hK2 => ?_
  -- region 1
  refine AW.regionK 100 (fun ii => if ii = 2 then some (.upd [103] (fun k => [(1, some ⟨k, k, 1, ints (List.replicate n (-1))⟩)]) (fun k => .sl ⟨1, k, none⟩ 0 n none)) else none) [2] [105] ?_
  simp only [go_sem, reduceIte, reduceCtorEq, Nat.reduceAdd, Nat.reduceMul, Nat.reduceEqDiff, Nat.reduceLT, Nat.reduceLeDiff, Nat.reduceSub, Nat.reducePow, Nat.reduceBEq, Int.reduceToNat, List.reduceReplicate]
  repeat with_reducible refine cj ?_ ?_
  all_goals try first | (exact hru _ _) | omega | exact ent (by kernel_rfl)
  refine hK2 _ _ _ ?_; clear hK2
  refine AW.ret ?_
  rw [← hQr]
  simp only [go_sem, reduceIte, reduceCtorEq, Nat.reduceAdd, Nat.reduceMul, Nat.reduceEqDiff, Nat.reduceLT, Nat.reduceLeDiff, Nat.reduceSub, Nat.reducePow, Nat.reduceBEq, Int.reduceToNat, List.reduceReplicate]
  refine ⟨[(105, 0, true)], ?_⟩
  simp only [go_sem, reduceIte, Nat.reduceEqDiff, renC_ints]
end Go.Proofs.M

namespace Go.Proofs.M
open Go.AM Go
set_option maxRecDepth 100000
set_option maxHeartbeats 2000000
def nbV (nb : List (List Int)) : List (List AV) := nb.map fun row => [.osl 1 (ints row)]
theorem nbV_len (nb : List (List Int)) : (nbV nb).length = nb.length := by simp [nbV]
def nbR (nb : List (List Int)) : List (List AV) := nb.map fun row => [.rsl 1 (ints row)]
theorem nbR_len (nb : List (List Int)) : (nbR nb).length = nb.length := by simp [nbR]
theorem nbR_get {nb : List (List Int)} {i : Nat} {row : List Int} (h : nb[i]? = some row) : (nbR nb).getD i [] = [.rsl 1 (ints row)] := getV h
theorem join_u (n m : Nat) (X : List (List AV)) (L R : List Int) (hL : L.length = n) (hR : R.length = m) (hn : n ≤ 512) (hm : m ≤ 512) (l r : Int) (hl : 0 ≤ l ∧ l < n) (hr : 0 ≤ r ∧ r < m) (g0 v0 g2 v2 g3 v3 : Nat) :
    Upd Try.prog 55 [(0, some ⟨g0, v0, 3, [[.rsl 1 X, .sl ⟨1, g2, none⟩ 0 n none, .sl ⟨2, g3, none⟩ 0 m none]]⟩), (1, some ⟨g2, v2, 1, ints L⟩), (2, some ⟨g3, v3, 1, ints R⟩)]
      [.ptr ⟨0, g0, none⟩ 0 0, .int .i64 l, .int .i64 r] (fun _ => .tup [])
      (fun k => [(0, some ⟨g0, k, 3, [[.rsl 1 X, .sl ⟨1, g2, none⟩ 0 n none, .sl ⟨2, g3, none⟩ 0 m none]]⟩), (1, some ⟨g2, k, 1, ints (L.set l.toNat r)⟩), (2, some ⟨g3, k, 1, ints (R.set r.toNat l)⟩)]) := by
  have hul := ints_upd L l.toNat r
  have hur := ints_upd R r.toNat l
  refine Upd.of_body (rs := []) Try.func55 rfl Try.ntmps55 rfl (by simp) ?_
  intro k0 k hk0 hk1
  generalize hQr : retQ _ _ _ = Qr
  -- region 0
  refine AW.regionD mixed 100 (fun _ => none) [] [0, 1, 2] ?_
  simp only [go_sem, reduceIte, reduceCtorEq, Nat.reduceAdd, Nat.reduceMul, Nat.reduceEqDiff, Nat.reduceLT, Nat.reduceLeDiff, Nat.reduceSub, Nat.reducePow, Nat.reduceBEq, Int.reduceToNat, List.reduceReplicate, hul, hur, ints_len, hL, hR]
  repeat with_reducible refine cj ?_ ?_
  all_goals try first | omega | exact chk (by kernel_rfl)
  rw [← hQr]
  simp only [go_sem, reduceIte, reduceCtorEq, Nat.reduceAdd, Nat.reduceMul, Nat.reduceEqDiff, Nat.reduceLT, Nat.reduceLeDiff, Nat.reduceSub, Nat.reducePow, Nat.reduceBEq, Int.reduceToNat, List.reduceReplicate, hul, hur, ints_len, hL, hR]
  refine ⟨[(0, 0, false), (1, 1, false), (2, 2, false)], ?_⟩
  simp only [go_sem, reduceIte, Nat.reduceEqDiff, renC_ints]
  rfl
end Go.Proofs.M

namespace Go.Proofs.M
open Go.AM Go
set_option maxRecDepth 100000
set_option maxHeartbeats 2000000
def augS (n m : Nat) (nb : List (List Int)) (s : List Bool) (L R : List Int) (g0 v0 g1 v1 g2 v2 g3 v3 g4 v4 g5 v5 g6 v6 : Nat) : Store :=
  [(0, some ⟨g0, v0, 1, [[.ptr ⟨3, g3, none⟩ 0 0]]⟩), (1, some ⟨g1, v1, 1, [[.sl ⟨6, g6, none⟩ 0 m none]]⟩), (2, some ⟨g2, v2, 1, [[.fn 62 [.ptr ⟨0, g0, none⟩ 0 0, .ptr ⟨1, g1, none⟩ 0 0, .ptr ⟨2, g2, none⟩ 0 0]]]⟩),
   (3, some ⟨g3, v3, 3, [[.rsl 1 (nbR nb), .sl ⟨4, g4, none⟩ 0 n none, .sl ⟨5, g5, none⟩ 0 m none]]⟩), (4, some ⟨g4, v4, 1, ints L⟩), (5, some ⟨g5, v5, 1, ints R⟩), (6, some ⟨g6, v6, 1, bools s⟩)]
theorem try_u {n m : Nat} (hn : n ≤ 512) (hm : m ≤ 512) {nb : List (List Int)} (hrl : ∀ row ∈ nb, row.length ≤ 100000) : ∀ (fu : Nat) (l : Int) (s : List Bool) (L R : List Int) (b' : Bool) (s' : List Bool) (L' R' : List Int), uns s < fu → 0 ≤ l → l < (n : Int) → MOk n m nb s L R →
    mtry nb fu l s L R = (b', s', L', R') → ∀ (g0 v0 g1 v1 g2 v2 g3 v3 g4 v4 g5 v5 g6 v6 : Nat),
    Upd Try.prog 62 (augS n m nb s L R g0 v0 g1 v1 g2 v2 g3 v3 g4 v4 g5 v5 g6 v6) [.int .i64 l, .ptr ⟨0, g0, none⟩ 0 0, .ptr ⟨1, g1, none⟩ 0 0, .ptr ⟨2, g2, none⟩ 0 0]
      (fun _ => .bool b') (fun kk => augS n m nb s' L' R' g0 kk g1 kk g2 kk g3 kk g4 kk g5 kk g6 kk) := by
  intro fu
  induction fu with
  | zero => intro l s L R b' s' L' R' hu; omega
  | succ fu ih =>
  intro l s0 L0 R0 b' s' L' R' hu hl0 hl1 hok0 hres g0 v0 g1 v1 g2 v2 g3 v3 g4 v4 g5 v5 g6 v6
  unfold augS at *
  obtain ⟨row, hrow⟩ := getI (l := nb) (j := l.toNat) (by rw [hok0.hnb.1]; omega)
  have hgn := nbR_get hrow
  have hnl := nbR_len nb
  have hnn := hok0.hnb.1
  have hrm := hok0.hnb.2 row (List.mem_of_getElem? hrow)
  have hrw := hrl row (List.mem_of_getElem? hrow)
  have hrd : nb.getD l.toNat [] = row := by rw [List.getD_eq_getElem?_getD, hrow]; rfl
  unfold mtry at hres
  rw [hrd] at hres
  refine Upd.of_body (rs := [.tmp 5]) Try.func62 rfl Try.ntmps62 rfl (by simp) ?_
  intro k0 k hk0 hk1
  generalize hQr : retQ _ _ _ = Qr
  refine AW.seq fun K1 hK1 => ?_
  -- region 0
  refine AW.regionK 100 (fun _ => none) [0, 1, 2, 3] [0, 1, 2, 3, 4, 5, 6] ?_
  simp only [go_sem, reduceIte, reduceCtorEq, Nat.reduceAdd, Nat.reduceMul, Nat.reduceEqDiff, Nat.reduceLT, Nat.reduceLeDiff, Nat.reduceSub, Nat.reducePow, Nat.reduceBEq, Int.reduceToNat, List.reduceReplicate, hnl, hnn, ints_len, bools_len, augS]
  repeat with_reducible refine cj ?_ ?_
  all_goals try first | omega
  refine hK1 _ _ _ ?_; clear hK1
  refine AW.seq fun K2 hK2 => ?_
  refine AW.seq fun K3 hK3 => ?_
  -- region 1
  refine AW.regionK 100 (fun _ => none) [0, 1, 2, 3, 14, 15, 16] [0, 1, 2, 3, 4, 5, 6] ?_
  simp only [go_sem, reduceIte, reduceCtorEq, Nat.reduceAdd, Nat.reduceMul, Nat.reduceEqDiff, Nat.reduceLT, Nat.reduceLeDiff, Nat.reduceSub, Nat.reducePow, Nat.reduceBEq, Int.reduceToNat, List.reduceReplicate, hnl, hnn, ints_len, bools_len, augS, hgn]
  repeat with_reducible refine cj ?_ ?_
  all_goals try first | omega
  refine hK3 _ _ _ ?_; clear hK3
  refine AW.block ?_
  -- loop 1
  refine AW.loopE (fun mm ee ss kk => ∃ (j v0 v1 v2 v3 v4 v5 v6 : Nat) (s : List Bool) (L R : List Int), row.length - j = mm ∧ ee = [(0, .int .i64 l), (1, .ptr ⟨0, g0, none⟩ 0 0), (2, .ptr ⟨1, g1, none⟩ 0 0), (3, .ptr ⟨2, g2, none⟩ 0 0), (14, .rsl 1 (ints row)), (15, .int .i64 row.length), (16, .int .i64 (j : Nat))] ∧ ss = augS n m nb s L R g0 v0 g1 v1 g2 v2 g3 v3 g4 v4 g5 v5 g6 v6 ∧ (j ≤ row.length ∧ MOk n m nb s L R ∧ uns s < fu + 1 ∧ mgo (mtry nb fu) l (row.drop j) s L R = (b', s', L', R'))) ?_ ?_
  · refine ⟨_, 0, ?_, ?_, ?_, ?_, ?_, ?_, ?_, s0, L0, R0, rfl, ?henv, ?hstore, ?hst⟩
    case henv =>
      repeat' (first | rfl | refine env_cons ?_ ?_ | refine st_cons ?_ ?_ ?_ ?_ | refine int_eq ?_ | refine bool_eq ?_ | refine rsl_eq ?_ | refine osl_eq ?_ | refine sl_eq ?_ ?_ ?_ | refine ptr_eq ?_ ?_ ?_ | refine agg_eq ?_ | refine es_cons ?_ ?_ | refine row_cons ?_ ?_)
      all_goals (first | (simp; done) | omega | (simp; omega))
    case hstore =>
      repeat' (first | rfl | refine env_cons ?_ ?_ | refine st_cons ?_ ?_ ?_ ?_ | refine int_eq ?_ | refine bool_eq ?_ | refine rsl_eq ?_ | refine osl_eq ?_ | refine sl_eq ?_ ?_ ?_ | refine ptr_eq ?_ ?_ ?_ | refine agg_eq ?_ | refine es_cons ?_ ?_ | refine row_cons ?_ ?_)
      all_goals (first | (simp; done) | omega | (simp; omega))
    case hst =>
      exact ⟨by omega, hok0, hu, hres⟩
  rintro mm ee ss kk ⟨j, v0, v1, v2, v3, v4, v5, v6, s, L, R, rfl, rfl, rfl, hI⟩
  generalize hQl1 : thenQ _ _ = Ql1
  obtain ⟨hj, hok, hun, hgo⟩ := hI
  refine AW.seq fun K4 hK4 => ?_
  -- region 2
  refine AW.regionK 100 (fun _ => none) [0, 1, 2, 3, 14, 15, 16, 17] [0, 1, 2, 3, 4, 5, 6] ?_
  simp only [go_sem, reduceIte, reduceCtorEq, Nat.reduceAdd, Nat.reduceMul, Nat.reduceEqDiff, Nat.reduceLT, Nat.reduceLeDiff, Nat.reduceSub, Nat.reducePow, Nat.reduceBEq, Int.reduceToNat, List.reduceReplicate, hnl, hnn, ints_len, bools_len, augS]
  repeat with_reducible refine cj ?_ ?_
  all_goals try first | omega
  refine hK4 _ _ _ ?_; clear hK4
  refine AW.seq fun K5 hK5 => ?_
  -- cond 1
  refine AW.cond rfl (by simp only [go_sem, reduceIte, reduceCtorEq, Nat.reduceAdd, Nat.reduceMul, Nat.reduceEqDiff, Nat.reduceLT, Nat.reduceLeDiff, Nat.reduceSub, Nat.reducePow, Nat.reduceBEq, Int.reduceToNat, List.reduceReplicate]) ?_ ?_
  · intro hb
    try simp only [hB, decide_eq_true_eq, decide_eq_false_iff_not] at hb
    obtain ⟨r, hr⟩ := getI (l := row) (j := j) (by omega)
    have hgr := ints_get hr
    have hrr := hrm r (List.mem_of_getElem? hr)
    have hsl := hok.hs
    have hRl := hok.hR.1
    have hLl := hok.hL.1
    have hgs := bools_getD (l := s) (i := r.toNat) (by omega)
    have hgR := ints_getD (l := R) (i := r.toNat) (by omega)
    have hus := bools_upd s r.toNat true
    have hdr : row.drop j = r :: row.drop (j + 1) := by rw [List.drop_eq_getElem_cons (by omega)]; congr 1; exact (List.getElem?_eq_some_iff.1 hr).2
    rw [hdr] at hgo
    unfold mgo at hgo
    refine AW.skip ?_
    refine hK5 _ _ _ ?_; clear hK5
    refine AW.seq fun K6 hK6 => ?_
    refine AW.block ?_
    refine AW.seq fun K7 hK7 => ?_
    -- region 3
    refine AW.regionK 100 (fun _ => none) [0, 1, 2, 3, 7, 14, 15, 16] [0, 1, 2, 3, 4, 5, 6] ?_
    simp only [go_sem, reduceIte, reduceCtorEq, Nat.reduceAdd, Nat.reduceMul, Nat.reduceEqDiff, Nat.reduceLT, Nat.reduceLeDiff, Nat.reduceSub, Nat.reducePow, Nat.reduceBEq, Int.reduceToNat, List.reduceReplicate, hnl, hnn, ints_len, bools_len, augS, hgr]
    repeat with_reducible refine cj ?_ ?_
    all_goals try first | omega
    refine hK7 _ _ _ ?_; clear hK7
    refine AW.seq fun K8 hK8 => ?_
    refine AW.seq fun K9 hK9 => ?_
    -- region 4
    refine AW.regionK 100 (fun _ => none) [0, 1, 2, 3, 7, 14, 15, 16, 23] [0, 1, 2, 3, 4, 5, 6] ?_
    simp only [go_sem, reduceIte, reduceCtorEq, Nat.reduceAdd, Nat.reduceMul, Nat.reduceEqDiff, Nat.reduceLT, Nat.reduceLeDiff, Nat.reduceSub, Nat.reducePow, Nat.reduceBEq, Int.reduceToNat, List.reduceReplicate, hnl, hnn, ints_len, bools_len, augS, hsl, hgs]
    repeat with_reducible refine cj ?_ ?_
    all_goals try first | omega
    refine hK9 _ _ _ ?_; clear hK9
    -- cond 2
    refine AW.cond rfl (by simp only [go_sem, reduceIte, reduceCtorEq, Nat.reduceAdd, Nat.reduceMul, Nat.reduceEqDiff, Nat.reduceLT, Nat.reduceLeDiff, Nat.reduceSub, Nat.reducePow, Nat.reduceBEq, Int.reduceToNat, List.reduceReplicate]) ?_ ?_
    · intro hb
      try simp only [hB, decide_eq_true_eq, decide_eq_false_iff_not] at hb
      rw [if_pos hb] at hgo
      refine AW.keep [0, 1, 2, 3, 14, 15, 16] [0, 1, 2, 3, 4, 5, 6] ?_
      try simp only [go_sem, reduceIte, reduceCtorEq, Nat.reduceAdd, Nat.reduceMul, Nat.reduceEqDiff, Nat.reduceLT, Nat.reduceLeDiff, Nat.reduceSub, Nat.reducePow, Nat.reduceBEq, Int.reduceToNat, List.reduceReplicate]
      refine AW.exit ?_
      refine hK6 _ _ _ ?_; clear hK6
      -- region 9
      refine AW.regionK 100 (fun _ => none) [0, 1, 2, 3, 14, 15, 16] [0, 1, 2, 3, 4, 5, 6] ?_
      simp only [go_sem, reduceIte, reduceCtorEq, Nat.reduceAdd, Nat.reduceMul, Nat.reduceEqDiff, Nat.reduceLT, Nat.reduceLeDiff, Nat.reduceSub, Nat.reducePow, Nat.reduceBEq, Int.reduceToNat, List.reduceReplicate, hnl, hnn, ints_len, bools_len, augS]
      repeat with_reducible refine cj ?_ ?_
      all_goals try first | omega
      rw [← hQl1]
      change Exists _
      refine ⟨_, ?hm, j + 1, ?_, ?_, ?_, ?_, ?_, ?_, ?_, ?_, ?_, ?_, rfl, ?henv, ?hstore, ?hst⟩
      case henv =>
        repeat' (first | rfl | refine env_cons ?_ ?_ | refine st_cons ?_ ?_ ?_ ?_ | refine int_eq ?_ | refine bool_eq ?_ | refine rsl_eq ?_ | refine osl_eq ?_ | refine sl_eq ?_ ?_ ?_ | refine ptr_eq ?_ ?_ ?_ | refine agg_eq ?_ | refine es_cons ?_ ?_ | refine row_cons ?_ ?_)
        all_goals (first | (simp; done) | omega | (simp; omega))
      case hstore =>
        repeat' (first | rfl | refine env_cons ?_ ?_ | refine st_cons ?_ ?_ ?_ ?_ | refine int_eq ?_ | refine bool_eq ?_ | refine rsl_eq ?_ | refine osl_eq ?_ | refine sl_eq ?_ ?_ ?_ | refine ptr_eq ?_ ?_ ?_ | refine agg_eq ?_ | refine es_cons ?_ ?_ | refine row_cons ?_ ?_)
        all_goals (first | (simp; done) | omega | (simp; omega))
      case hst =>
        first | exact ⟨by omega, hok, hun, hgo⟩ | exact ⟨by omega, hmk.1, by omega, hgo⟩
      case hm => omega
    · intro hb
      try simp only [hB, decide_eq_true_eq, decide_eq_false_iff_not] at hb
      rw [if_neg (by rw [hb]; simp)] at hgo
      have hmk := mstep_keep (r := r) (s := s) (L := L) (R := R) (fun l s L R => mtry_keep fu l s L R) hrr hok hb
      generalize hms : mstep (mtry nb fu) r s L R = x at *
      obtain ⟨b2, s2, L2, R2⟩ := x
      simp only at hgo hmk
      refine AW.skip ?_
      refine hK8 _ _ _ ?_; clear hK8
      refine AW.seq fun K10 hK10 => ?_
      -- region 5
      refine AW.regionK 100 (fun _ => none) [0, 1, 2, 3, 7, 14, 15, 16] [0, 1, 2, 3, 4, 5, 6] ?_
      simp only [go_sem, reduceIte, reduceCtorEq, Nat.reduceAdd, Nat.reduceMul, Nat.reduceEqDiff, Nat.reduceLT, Nat.reduceLeDiff, Nat.reduceSub, Nat.reducePow, Nat.reduceBEq, Int.reduceToNat, List.reduceReplicate, hnl, hnn, ints_len, bools_len, augS, hsl, hus]
      repeat with_reducible refine cj ?_ ?_
      all_goals try first | omega
      refine hK10 _ _ _ ?_; clear hK10
      refine AW.seq fun K11 hK11 => ?_
      have hD6 : ∀ (w0 w1 w2 w3 w4 w5 w6 : Nat) (kk : Nat), K11 [(0, .int .i64 l), (1, .ptr ⟨0, g0, none⟩ 0 0), (2, .ptr ⟨1, g1, none⟩ 0 0), (3, .ptr ⟨2, g2, none⟩ 0 0), (7, .int .i64 r), (14, .rsl 1 (ints row)), (15, .int .i64 row.length), (16, .int .i64 (j : Nat)), (45, .bool b2)] (augS n m nb s2 L2 R2 g0 w0 g1 w1 g2 w2 g3 w3 g4 w4 g5 w5 g6 w6) kk := by
        intro w0 w1 w2 w3 w4 w5 w6 kk
        refine hK11 _ _ _ ?_; clear hK11
        -- cond 3
        refine AW.cond rfl (by simp only [go_sem, reduceIte, reduceCtorEq, Nat.reduceAdd, Nat.reduceMul, Nat.reduceEqDiff, Nat.reduceLT, Nat.reduceLeDiff, Nat.reduceSub, Nat.reducePow, Nat.reduceBEq, Int.reduceToNat, List.reduceReplicate]) ?_ ?_
        · intro hb
          try simp only [hB, decide_eq_true_eq, decide_eq_false_iff_not] at hb
          subst hb
          simp only [Prod.mk.injEq] at hgo
          obtain ⟨rfl, rfl, rfl, rfl⟩ := hgo
          refine AW.seq fun K14 hK14 => ?_
          -- region 7
          refine AW.regionK 100 (fun ii => if ii = 3 then some (.upd [3, 4, 5] (fun kk => [(0, some ⟨g3, kk, 3, [[.rsl 1 (nbR nb), .sl ⟨1, g4, none⟩ 0 n none, .sl ⟨2, g5, none⟩ 0 m none]]⟩), (1, some ⟨g4, kk, 1, ints (L2.set l.toNat r)⟩), (2, some ⟨g5, kk, 1, ints (R2.set r.toNat l)⟩)]) (fun _ => .tup [])) else none) [] [0, 1, 2, 3, 4, 5, 6] ?_
          simp only [go_sem, reduceIte, reduceCtorEq, Nat.reduceAdd, Nat.reduceMul, Nat.reduceEqDiff, Nat.reduceLT, Nat.reduceLeDiff, Nat.reduceSub, Nat.reducePow, Nat.reduceBEq, Int.reduceToNat, List.reduceReplicate, hnl, hnn, ints_len, bools_len, augS]
          repeat with_reducible refine cj ?_ ?_
          all_goals try first | (exact join_u n m (nbR nb) L2 R2 hmk.1.hL.1 hmk.1.hR.1 hn hm l r ⟨hl0, hl1⟩ hrr _ _ _ _ _ _) | omega | exact ent (by kernel_rfl)
          refine hK14 _ _ _ ?_; clear hK14
          refine AW.seq fun K15 hK15 => ?_
          -- region 8
          refine AW.regionK 100 (fun _ => none) [5] [0, 1, 2, 3, 4, 5, 6] ?_
          simp only [go_sem, reduceIte, reduceCtorEq, Nat.reduceAdd, Nat.reduceMul, Nat.reduceEqDiff, Nat.reduceLT, Nat.reduceLeDiff, Nat.reduceSub, Nat.reducePow, Nat.reduceBEq, Int.reduceToNat, List.reduceReplicate, hnl, hnn, ints_len, bools_len, augS]
          repeat with_reducible refine cj ?_ ?_
          all_goals try first | omega
          refine hK15 _ _ _ ?_; clear hK15
          refine AW.ret ?_
          rw [← hQl1]
          rw [← hQr]
          simp only [go_sem, reduceIte, reduceCtorEq, Nat.reduceAdd, Nat.reduceMul, Nat.reduceEqDiff, Nat.reduceLT, Nat.reduceLeDiff, Nat.reduceSub, Nat.reducePow, Nat.reduceBEq, Int.reduceToNat, List.reduceReplicate, hnl, hnn, ints_len, bools_len, augS]
          refine ⟨[(0, 0, false), (1, 1, false), (2, 2, false), (3, 3, false), (4, 4, false), (5, 5, false), (6, 6, false)], ?_⟩
          simp only [go_sem, reduceIte, Nat.reduceEqDiff, renC_ints, renC_bools, augS]
          rfl
        · intro hb
          try simp only [hB, decide_eq_true_eq, decide_eq_false_iff_not] at hb
          subst hb
          simp only at hgo
          refine AW.skip ?_
          refine hK6 _ _ _ ?_; clear hK6
          -- region 9
          refine AW.regionK 100 (fun _ => none) [0, 1, 2, 3, 14, 15, 16] [0, 1, 2, 3, 4, 5, 6] ?_
          simp only [go_sem, reduceIte, reduceCtorEq, Nat.reduceAdd, Nat.reduceMul, Nat.reduceEqDiff, Nat.reduceLT, Nat.reduceLeDiff, Nat.reduceSub, Nat.reducePow, Nat.reduceBEq, Int.reduceToNat, List.reduceReplicate, hnl, hnn, ints_len, bools_len, augS]
          repeat with_reducible refine cj ?_ ?_
          all_goals try first | omega
          rw [← hQl1]
          change Exists _
          refine ⟨_, ?hm, j + 1, ?_, ?_, ?_, ?_, ?_, ?_, ?_, ?_, ?_, ?_, rfl, ?henv, ?hstore, ?hst⟩
          case henv =>
            repeat' (first | rfl | refine env_cons ?_ ?_ | refine st_cons ?_ ?_ ?_ ?_ | refine int_eq ?_ | refine bool_eq ?_ | refine rsl_eq ?_ | refine osl_eq ?_ | refine sl_eq ?_ ?_ ?_ | refine ptr_eq ?_ ?_ ?_ | refine agg_eq ?_ | refine es_cons ?_ ?_ | refine row_cons ?_ ?_)
            all_goals (first | (simp; done) | omega | (simp; omega))
          case hstore =>
            repeat' (first | rfl | refine env_cons ?_ ?_ | refine st_cons ?_ ?_ ?_ ?_ | refine int_eq ?_ | refine bool_eq ?_ | refine rsl_eq ?_ | refine osl_eq ?_ | refine sl_eq ?_ ?_ ?_ | refine ptr_eq ?_ ?_ ?_ | refine agg_eq ?_ | refine es_cons ?_ ?_ | refine row_cons ?_ ?_)
            all_goals (first | (simp; done) | omega | (simp; omega))
          case hst =>
            first | exact ⟨by omega, hok, hun, hgo⟩ | exact ⟨by omega, hmk.1, by omega, hgo⟩
          case hm => omega
      by_cases hn6 : R.getD r.toNat 0 < 0
      · -- region 6
        have hd6 : decide (R.getD r.toNat 0 < 0) = true := decide_eq_true hn6
        simp only [mstep, if_pos hn6, Prod.mk.injEq] at hms
        obtain ⟨rfl, rfl, rfl, rfl⟩ := hms
        refine AW.regionD mixed 100 (fun ii => if ii = 17 then some (.skip) else none) [0, 1, 2, 3, 7, 14, 15, 16, 45] [0, 1, 2, 3, 4, 5, 6] ?_
        simp only [go_sem, reduceIte, reduceCtorEq, Nat.reduceAdd, Nat.reduceMul, Nat.reduceEqDiff, Nat.reduceLT, Nat.reduceLeDiff, Nat.reduceSub, Nat.reducePow, Nat.reduceBEq, Int.reduceToNat, List.reduceReplicate, hnl, hnn, ints_len, bools_len, augS, hRl, hgR, hd6]
        repeat with_reducible refine cj ?_ ?_
        all_goals try first | omega | exact chk (by kernel_rfl) | exact ent (by kernel_rfl) | (intros; (repeat' apply And.intro) <;> first | assumption | omega | decide) | (intro hgd; exact absurd hgd (by decide)) | rfl | (simp only [go_sem, reduceIte, reduceCtorEq, Nat.reduceAdd, Nat.reduceMul, Nat.reduceEqDiff, Nat.reduceLT, Nat.reduceLeDiff, Nat.reduceSub, Nat.reducePow, Nat.reduceBEq, Int.reduceToNat, List.reduceReplicate, hnl, hnn, ints_len, bools_len, augS, hRl, hgR, hd6]; done) | (intro _hgd; simp_all [go_sem]; done)
        exact hD6 _ _ _ _ _ _ _ _
      · -- region 6
        have hd6 : decide (R.getD r.toNat 0 < 0) = false := decide_eq_false hn6
        simp only [mstep, if_neg hn6] at hms
        have hRn := hok.hR.2 (R.getD r.toNat 0) (mem_getD (by omega) 0)
        have hih := ih (R.getD r.toNat 0) (s.set r.toNat true) L R b2 s2 L2 R2 (by have := uns_set (s := s) (i := r.toNat) (by omega) hb; omega) (by omega) hRn (hok.seen _) hms
        unfold augS at *
        refine AW.regionD mixed 100 (fun ii => if ii = 17 then some (.upd [0, 1, 2, 3, 4, 5, 6] (fun kk => augS n m nb s2 L2 R2 g0 kk g1 kk g2 kk g3 kk g4 kk g5 kk g6 kk) (fun _ => .bool b2)) else none) [0, 1, 2, 3, 7, 14, 15, 16, 45] [0, 1, 2, 3, 4, 5, 6] ?_
        simp only [go_sem, reduceIte, reduceCtorEq, Nat.reduceAdd, Nat.reduceMul, Nat.reduceEqDiff, Nat.reduceLT, Nat.reduceLeDiff, Nat.reduceSub, Nat.reducePow, Nat.reduceBEq, Int.reduceToNat, List.reduceReplicate, hnl, hnn, ints_len, bools_len, augS, hRl, hgR, hd6]
        repeat with_reducible refine cj ?_ ?_
        all_goals try first | (exact hih _ _ _ _ _ _ _ _ _ _ _ _ _ _) | (intros; (repeat' apply And.intro) <;> first | assumption | (exact hih _ _ _ _ _ _ _ _ _ _ _ _ _ _)) | omega | exact chk (by kernel_rfl) | exact ent (by kernel_rfl) | (intro hgd; exact absurd hgd (by decide)) | rfl | (simp only [go_sem, reduceIte, reduceCtorEq, Nat.reduceAdd, Nat.reduceMul, Nat.reduceEqDiff, Nat.reduceLT, Nat.reduceLeDiff, Nat.reduceSub, Nat.reducePow, Nat.reduceBEq, Int.reduceToNat, List.reduceReplicate, hnl, hnn, ints_len, bools_len, augS, hRl, hgR, hd6]; done) | (intro _hgd; simp_all [go_sem]; done)
        exact hD6 _ _ _ _ _ _ _ _
  · intro hb
    try simp only [hB, decide_eq_true_eq, decide_eq_false_iff_not] at hb
    have hj2 : j = row.length := by omega
    rw [hj2, List.drop_length] at hgo
    unfold mgo at hgo
    simp only [Prod.mk.injEq] at hgo
    obtain ⟨rfl, rfl, rfl, rfl⟩ := hgo
    refine AW.keep [] [0, 1, 2, 3, 4, 5, 6] ?_
    try simp only [go_sem, reduceIte, reduceCtorEq, Nat.reduceAdd, Nat.reduceMul, Nat.reduceEqDiff, Nat.reduceLT, Nat.reduceLeDiff, Nat.reduceSub, Nat.reducePow, Nat.reduceBEq, Int.reduceToNat, List.reduceReplicate]
    refine AW.exit ?_
    rw [← hQl1]
    refine hK2 _ _ _ ?_; clear hK2
    refine AW.seq fun K16 hK16 => ?_
    -- region 10
    refine AW.regionK 100 (fun _ => none) [5] [0, 1, 2, 3, 4, 5, 6] ?_
    simp only [go_sem, reduceIte, reduceCtorEq, Nat.reduceAdd, Nat.reduceMul, Nat.reduceEqDiff, Nat.reduceLT, Nat.reduceLeDiff, Nat.reduceSub, Nat.reducePow, Nat.reduceBEq, Int.reduceToNat, List.reduceReplicate, hnl, hnn, ints_len, bools_len, augS]
    repeat with_reducible refine cj ?_ ?_
    all_goals try first | omega
    refine hK16 _ _ _ ?_; clear hK16
    refine AW.ret ?_
    rw [← hQr]
    simp only [go_sem, reduceIte, reduceCtorEq, Nat.reduceAdd, Nat.reduceMul, Nat.reduceEqDiff, Nat.reduceLT, Nat.reduceLeDiff, Nat.reduceSub, Nat.reducePow, Nat.reduceBEq, Int.reduceToNat, List.reduceReplicate, hnl, hnn, ints_len, bools_len, augS]
    refine ⟨[(0, 0, false), (1, 1, false), (2, 2, false), (3, 3, false), (4, 4, false), (5, 5, false), (6, 6, false)], ?_⟩
    simp only [go_sem, reduceIte, Nat.reduceEqDiff, renC_ints, renC_bools, augS]
    rfl
end Go.Proofs.M

namespace Go.Proofs.M
open Go.AM Go
set_option maxRecDepth 100000
set_option maxHeartbeats 2000000
def graphS (n m : Nat) (nb : List (List Int)) (L R : List Int) (g0 v0 g1 v1 g2 v2 : Nat) : Store :=
  [(0, some ⟨g0, v0, 3, [[.rsl 1 (nbR nb), .sl ⟨1, g1, none⟩ 0 n none, .sl ⟨2, g2, none⟩ 0 m none]]⟩), (1, some ⟨g1, v1, 1, ints L⟩), (2, some ⟨g2, v2, 1, ints R⟩)]
theorem aug_u {n m : Nat} (hn : n ≤ 512) (hm : m ≤ 512) {nb : List (List Int)} (hrl : ∀ row ∈ nb, row.length ≤ 100000) (l : Int) (L R : List Int) (b' : Bool) (s' : List Bool) (L' R' : List Int) (hl0 : 0 ≤ l) (hl1 : l < (n : Int)) (hok : MOk n m nb (List.replicate m false) L R)
    (hres : mtry nb (m + 1) l (List.replicate m false) L R = (b', s', L', R')) (g0 v0 g1 v1 g2 v2 : Nat) :
    Upd Try.prog 48 (graphS n m nb L R g0 v0 g1 v1 g2 v2) [.ptr ⟨0, g0, none⟩ 0 0, .int .i64 l] (fun _ => .bool b') (fun kk => graphS n m nb L' R' g0 kk g1 kk g2 kk) := by
  have hty := try_u hn hm hrl (m + 1) l (List.replicate m false) L R b' s' L' R' (by rw [uns_replicate]; omega) hl0 hl1 hok hres
  unfold augS at hty
  have hz : List.replicate m [AV.bool false] = bools (List.replicate m false) := by simp [bools]
  unfold graphS at *
  refine Upd.of_body (rs := [.tmp 4]) Try.func48 rfl Try.ntmps48 rfl (by simp) ?_
  intro k0 k hk0 hk1
  generalize hQr : retQ _ _ _ = Qr
  refine AW.seq fun K1 hK1 => ?_
  -- region 0
  refine AW.regionK 100 (fun _ => none) [1, 2] [0, 1, 2, 102] ?_
  simp only [go_sem, reduceIte, reduceCtorEq, Nat.reduceAdd, Nat.reduceMul, Nat.reduceEqDiff, Nat.reduceLT, Nat.reduceLeDiff, Nat.reduceSub, Nat.reducePow, Nat.reduceBEq, Int.reduceToNat, List.reduceReplicate, hz, augS]
  repeat with_reducible refine cj ?_ ?_
  all_goals try first | omega
  refine hK1 _ _ _ ?_; clear hK1
  refine AW.seq fun K2 hK2 => ?_
  -- region 1
  refine AW.regionK 100 (fun _ => none) [1, 2, 5] [0, 1, 2, 102, 105, 112] ?_
  simp only [go_sem, reduceIte, reduceCtorEq, Nat.reduceAdd, Nat.reduceMul, Nat.reduceEqDiff, Nat.reduceLT, Nat.reduceLeDiff, Nat.reduceSub, Nat.reducePow, Nat.reduceBEq, Int.reduceToNat, List.reduceReplicate, hz, augS]
  repeat with_reducible refine cj ?_ ?_
  all_goals try first | omega
  refine hK2 _ _ _ ?_; clear hK2
  refine AW.seq fun K3 hK3 => ?_
  -- region 2
  refine AW.regionK 100 (fun _ => none) [1, 2, 5, 6] [0, 1, 2, 102, 105, 106, 112] ?_
  simp only [go_sem, reduceIte, reduceCtorEq, Nat.reduceAdd, Nat.reduceMul, Nat.reduceEqDiff, Nat.reduceLT, Nat.reduceLeDiff, Nat.reduceSub, Nat.reducePow, Nat.reduceBEq, Int.reduceToNat, List.reduceReplicate, hz, augS]
  repeat with_reducible refine cj ?_ ?_
  all_goals try first | omega
  refine hK3 _ _ _ ?_; clear hK3
  refine AW.seq fun K4 hK4 => ?_
  -- region 3
  refine AW.regionK 100 (fun _ => none) [1, 6] [0, 1, 2, 102, 105, 106, 112] ?_
  simp only [go_sem, reduceIte, reduceCtorEq, Nat.reduceAdd, Nat.reduceMul, Nat.reduceEqDiff, Nat.reduceLT, Nat.reduceLeDiff, Nat.reduceSub, Nat.reducePow, Nat.reduceBEq, Int.reduceToNat, List.reduceReplicate, hz, augS]
  repeat with_reducible refine cj ?_ ?_
  all_goals try first | omega
  refine hK4 _ _ _ ?_; clear hK4
  refine AW.seq fun K5 hK5 => ?_
  -- region 4
  refine AW.regionK 100 (fun ii => if ii = 2 then some (.upd [102, 105, 106, 0, 1, 2, 112] (fun kk => augS n m nb s' L' R' k kk (k + 16) kk (k + 20) kk g0 kk g1 kk g2 kk (k + 14) kk) (fun _ => .bool b')) else none) [4] [0, 1, 2] ?_
  simp only [go_sem, reduceIte, reduceCtorEq, Nat.reduceAdd, Nat.reduceMul, Nat.reduceEqDiff, Nat.reduceLT, Nat.reduceLeDiff, Nat.reduceSub, Nat.reducePow, Nat.reduceBEq, Int.reduceToNat, List.reduceReplicate, hz, augS]
  repeat with_reducible refine cj ?_ ?_
  all_goals try first | (exact hty _ _ _ _ _ _ _ _ _ _ _ _ _ _) | omega | exact ent (by kernel_rfl)
  refine hK5 _ _ _ ?_; clear hK5
  refine AW.ret ?_
  rw [← hQr]
  simp only [go_sem, reduceIte, reduceCtorEq, Nat.reduceAdd, Nat.reduceMul, Nat.reduceEqDiff, Nat.reduceLT, Nat.reduceLeDiff, Nat.reduceSub, Nat.reducePow, Nat.reduceBEq, Int.reduceToNat, List.reduceReplicate, hz, augS]
  refine ⟨[(0, 0, false), (1, 1, false), (2, 2, false)], ?_⟩
  simp only [go_sem, reduceIte, Nat.reduceEqDiff, renC_ints, graphS]
  rfl
end Go.Proofs.M

namespace Go.Proofs.M
open Go.AM Go
set_option maxRecDepth 100000
set_option maxHeartbeats 2000000
theorem nbV_get {l : List (List Int)} {i : Nat} (h : i < l.length) : (nbV l).getD i [] = [.osl 1 (ints (l.getD i []))] := by
  simp [nbV, List.getD_eq_getElem?_getD, h]
theorem nbV_set (l : List (List Int)) (i : Nat) (row : List Int) : (nbV l).set i [.osl 1 (ints row)] = nbV (l.set i row) := by
  unfold nbV; rw [List.map_set]
theorem vwc_nbV (s : Store) (d : Nat) (nb : List (List Int)) : (nbV nb).map (fun cs => cs.map (vwc s d)) = nbR nb := by
  simp [nbV, nbR, vwc_osl, vw_ints]
theorem made_u {n m : Nat} (hn : n ≤ 512) (hm : m ≤ 512) {E : List (Int × Int)} (hE : ∀ e ∈ E, edgeIn n m e = true) (hl : E.length ≤ 2000) :
    Upd Try.prog 47 [] [.int .i64 n, .int .i64 m, .rsl 2 (E.map pairV)] (fun k => .ptr ⟨0, k, none⟩ 0 0) (fun k => graphS n m (nbOf n E) (List.replicate n (-1)) (List.replicate m (-1)) k k k k k k) := by
  have hf1 := free_u n (by omega)
  have hf2 := free_u m (by omega)
  unfold graphS
  refine Upd.of_body (rs := [.tmp 6]) Try.func47 rfl Try.ntmps47 rfl (by simp) ?_
  intro k0 k hk0 hk1
  generalize hQr : retQ _ _ _ = Qr
  refine AW.seq fun K1 hK1 => ?_
  -- region 0
  refine AW.regionK 100 (fun _ => none) [0, 1, 2] [111, 113, 115, 117] ?_
  simp only [go_sem, reduceIte, reduceCtorEq, Nat.reduceAdd, Nat.reduceMul, Nat.reduceEqDiff, Nat.reduceLT, Nat.reduceLeDiff, Nat.reduceSub, Nat.reducePow, Nat.reduceBEq, Int.reduceToNat, List.reduceReplicate]
  repeat with_reducible refine cj ?_ ?_
  all_goals try first | omega
  refine hK1 _ _ _ ?_; clear hK1
  refine AW.seq fun K2 hK2 => ?_
  -- region 1
  refine AW.regionD mixed 100 (fun ii => if ii = 3 then some (.upd [] (fun k => [(0, some ⟨k, k, 1, ints (List.replicate n (-1))⟩)]) (fun k => .sl ⟨0, k, none⟩ 0 n none)) else if ii = 5 then some (.upd [] (fun k => [(0, some ⟨k, k, 1, ints (List.replicate m (-1))⟩)]) (fun k => .sl ⟨0, k, none⟩ 0 m none)) else none) [2, 7] [111, 113, 115, 117] ?_
  simp only [go_sem, reduceIte, reduceCtorEq, Nat.reduceAdd, Nat.reduceMul, Nat.reduceEqDiff, Nat.reduceLT, Nat.reduceLeDiff, Nat.reduceSub, Nat.reducePow, Nat.reduceBEq, Int.reduceToNat, List.reduceReplicate]
  repeat with_reducible refine cj ?_ ?_
  all_goals try first | (first | exact hf1 | exact hf2) | omega | exact chk (by kernel_rfl) | exact ent (by kernel_rfl)
  refine hK2 _ _ _ ?_; clear hK2
  refine AW.nils_own (pid := 111) 1 (nbV (List.replicate n [])) (by simp only [go_sem, reduceIte, Nat.reduceEqDiff]; rfl) (show (1 : Nat) ≠ mapSz by decide) (by simp [nbV]) ?_ ?_
  · intro i hi
    simp only [List.length_replicate] at hi
    have h1 : (List.replicate n [AV.nilsl]).getD i [] = [.nilsl] := by simp [List.getD_eq_getElem?_getD, hi]
    rw [h1, nbV_get (by simpa using hi)]
    refine ⟨rfl, fun j => ?_⟩
    cases j with
    | zero => exact .inr ⟨rfl, by simp [List.getD_eq_getElem?_getD, hi, ints]⟩
    | succ j => exact .inl rfl
  refine AW.keep [2, 7] [111, 113, 115, 117] ?_
  simp only [go_sem, reduceIte, Nat.reduceEqDiff]
  refine AW.seq fun K3 hK3 => ?_
  refine AW.seq fun K4 hK4 => ?_
  -- region 2
  refine AW.regionK 100 (fun _ => none) [7, 18, 19, 20] [111, 113, 115, 117] ?_
  simp only [go_sem, reduceIte, reduceCtorEq, Nat.reduceAdd, Nat.reduceMul, Nat.reduceEqDiff, Nat.reduceLT, Nat.reduceLeDiff, Nat.reduceSub, Nat.reducePow, Nat.reduceBEq, Int.reduceToNat, List.reduceReplicate]
  repeat with_reducible refine cj ?_ ?_
  all_goals try first | omega
  refine hK4 _ _ _ ?_; clear hK4
  refine AW.block ?_
  -- loop 1
  refine AW.loopE (fun mm ee ss kk => ∃ (j g1 v1 g3 v3 g5 v5 g7 v7 : Nat), E.length - j = mm ∧ ee = [(7, .ptr ⟨117, g7, none⟩ 0 0), (18, .rsl 2 (E.map pairV)), (19, .int .i64 E.length), (20, .int .i64 (j : Nat))] ∧ ss = [(111, some ⟨g1, v1, 1, nbV (nbOf n (E.take j))⟩), (113, some ⟨g3, v3, 1, ints (List.replicate n (-1))⟩), (115, some ⟨g5, v5, 1, ints (List.replicate m (-1))⟩), (117, some ⟨g7, v7, 3, [[.sl ⟨111, g1, none⟩ 0 n none, .sl ⟨113, g3, none⟩ 0 n none, .sl ⟨115, g5, none⟩ 0 m none]]⟩)] ∧ (j ≤ E.length)) ?_ ?_
  · refine ⟨_, 0, ?_, ?_, ?_, ?_, ?_, ?_, ?_, ?_, rfl, ?henv, ?hstore, ?hst⟩
    case henv =>
      repeat' (first | rfl | refine env_cons ?_ ?_ | refine st_cons ?_ ?_ ?_ ?_ | refine int_eq ?_ | refine bool_eq ?_ | refine rsl_eq ?_ | refine osl_eq ?_ | refine sl_eq ?_ ?_ ?_ | refine ptr_eq ?_ ?_ ?_ | refine agg_eq ?_ | refine es_cons ?_ ?_ | refine row_cons ?_ ?_)
      all_goals (first | (simp; done) | omega | (simp; omega))
    case hstore =>
      repeat' (first | rfl | refine env_cons ?_ ?_ | refine st_cons ?_ ?_ ?_ ?_ | refine int_eq ?_ | refine bool_eq ?_ | refine rsl_eq ?_ | refine osl_eq ?_ | refine sl_eq ?_ ?_ ?_ | refine ptr_eq ?_ ?_ ?_ | refine agg_eq ?_ | refine es_cons ?_ ?_ | refine row_cons ?_ ?_)
      all_goals (first | (simp; done) | omega | (simp; omega))
    case hst =>
      first | trivial | omega | (simp; done) | (simp; omega)
  rintro mm ee ss kk ⟨j, g1, v1, g3, v3, g5, v5, g7, v7, rfl, rfl, rfl, hI⟩
  generalize hQl1 : thenQ _ _ = Ql1
  refine AW.seq fun K5 hK5 => ?_
  -- region 3
  refine AW.regionK 100 (fun _ => none) [7, 18, 19, 20, 21] [111, 113, 115, 117] ?_
  simp only [go_sem, reduceIte, reduceCtorEq, Nat.reduceAdd, Nat.reduceMul, Nat.reduceEqDiff, Nat.reduceLT, Nat.reduceLeDiff, Nat.reduceSub, Nat.reducePow, Nat.reduceBEq, Int.reduceToNat, List.reduceReplicate]
  repeat with_reducible refine cj ?_ ?_
  all_goals try first | omega
  refine hK5 _ _ _ ?_; clear hK5
  refine AW.seq fun K6 hK6 => ?_
  -- cond 1
  refine AW.cond rfl (by simp only [go_sem, reduceIte, reduceCtorEq, Nat.reduceAdd, Nat.reduceMul, Nat.reduceEqDiff, Nat.reduceLT, Nat.reduceLeDiff, Nat.reduceSub, Nat.reducePow, Nat.reduceBEq, Int.reduceToNat, List.reduceReplicate]) ?_ ?_
  · intro hb
    try simp only [hB, decide_eq_true_eq, decide_eq_false_iff_not] at hb
    obtain ⟨e, he⟩ := getI (l := E) (j := j) (by omega)
    have hge := getV (f := pairV) he
    obtain ⟨q1, q2, q3, q4⟩ := edgeIn_iff.1 (hE e (List.mem_of_getElem? he))
    have hsu := nbOf_succ (n := n) he
    unfold nbAdd at hsu
    have hnl := nbOf_len n (E.take j)
    have hrw := nbOf_row n (E.take j)
    generalize nbOf n (E.take j) = nb at *
    have hgn := nbV_get (l := nb) (i := e.1.toNat) (by omega)
    have hre := hrw (nb.getD e.1.toNat []) (mem_getD (by omega) [])
    rw [List.length_take] at hre
    have hs1 : ∀ v, ((nbV nb).set e.1.toNat v).getD e.1.toNat [] = v := fun v => getD_set_eq (by rw [nbV_len]; omega) _ _
    refine AW.skip ?_
    refine hK6 _ _ _ ?_; clear hK6
    refine AW.seq fun K7 hK7 => ?_
    refine AW.block ?_
    refine AW.seq fun K8 hK8 => ?_
    -- region 4
    refine AW.regionK 100 (fun _ => none) [7, 9, 18, 19, 20] [109, 111, 113, 115, 117] ?_
    simp only [go_sem, reduceIte, reduceCtorEq, Nat.reduceAdd, Nat.reduceMul, Nat.reduceEqDiff, Nat.reduceLT, Nat.reduceLeDiff, Nat.reduceSub, Nat.reducePow, Nat.reduceBEq, Int.reduceToNat, List.reduceReplicate, hge, pairV]
    repeat with_reducible refine cj ?_ ?_
    all_goals try first | omega
    refine hK8 _ _ _ ?_; clear hK8
    -- region 5
    refine AW.regionD mixed 100 (fun _ => none) [7, 18, 19, 20] [111, 113, 115, 117, 141] ?_
    simp only [go_sem, reduceIte, reduceCtorEq, Nat.reduceAdd, Nat.reduceMul, Nat.reduceEqDiff, Nat.reduceLT, Nat.reduceLeDiff, Nat.reduceSub, Nat.reducePow, Nat.reduceBEq, Int.reduceToNat, List.reduceReplicate, nbV_len, hnl, hgn, hs1, ints_len, List.set_set, List.take_length, ints_app, Int.toNat_natCast]
    repeat with_reducible refine cj ?_ ?_
    all_goals try first | omega | exact chk (by kernel_rfl) | (simp [scP, scalar]; done) | exact scP_words _ | exact scP_ints _ | exact scP_bools _
    refine hK7 _ _ _ ?_; clear hK7
    refine AW.adoptK 111 e.1.toNat 0 141 ?_
    simp only [go_sem, reduceIte, Nat.reduceEqDiff, hs1, List.set_set, nbV_set, nbV_len]
    repeat refine cj ?_ ?_
    any_goals first | exact noOsl_ints _ | (simp only [List.length_append, List.length_cons, List.length_nil]; done) | omega | decide
    refine AW.keep [7, 18, 19, 20] [111, 113, 115, 117] ?_
    simp only [go_sem, reduceIte, Nat.reduceEqDiff]
    -- region 6
    refine AW.regionK 100 (fun _ => none) [7, 18, 19, 20] [111, 113, 115, 117] ?_
    simp only [go_sem, reduceIte, reduceCtorEq, Nat.reduceAdd, Nat.reduceMul, Nat.reduceEqDiff, Nat.reduceLT, Nat.reduceLeDiff, Nat.reduceSub, Nat.reducePow, Nat.reduceBEq, Int.reduceToNat, List.reduceReplicate]
    repeat with_reducible refine cj ?_ ?_
    all_goals try first | omega
    rw [← hQl1]
    change Exists _
    refine ⟨_, ?hm, j + 1, ?_, ?_, ?_, ?_, ?_, ?_, ?_, ?_, rfl, ?henv, ?hstore, ?hst⟩
    case henv =>
      repeat' (first | rfl | refine env_cons ?_ ?_ | refine st_cons ?_ ?_ ?_ ?_ | refine int_eq ?_ | refine bool_eq ?_ | refine rsl_eq ?_ | refine osl_eq ?_ | refine sl_eq ?_ ?_ ?_ | refine ptr_eq ?_ ?_ ?_ | refine agg_eq ?_ | refine es_cons ?_ ?_ | refine row_cons ?_ ?_)
      all_goals (first | (simp; done) | omega | (simp; omega))
    case hstore =>
      repeat' (first | rfl | refine env_cons ?_ ?_ | refine st_cons ?_ ?_ ?_ ?_ | refine int_eq ?_ | refine bool_eq ?_ | refine rsl_eq ?_ | refine osl_eq ?_ | refine sl_eq ?_ ?_ ?_ | refine ptr_eq ?_ ?_ ?_ | refine agg_eq ?_ | refine es_cons ?_ ?_ | refine row_cons ?_ ?_)
      all_goals (rw [hsu])
    case hst =>
      first | trivial | omega | (simp; done) | (simp; omega)
    case hm => omega
  · intro hb
    try simp only [hB, decide_eq_true_eq, decide_eq_false_iff_not] at hb
    have hj : j = E.length := by omega
    subst hj
    rw [List.take_length]
    have hnl := nbOf_len n E
    have htk : (nbV (nbOf n E)).take n = nbV (nbOf n E) := List.take_of_length_le (by rw [nbV_len]; omega)
    refine AW.keep [7] [111, 113, 115, 117, 141] ?_
    try simp only [go_sem, reduceIte, reduceCtorEq, Nat.reduceAdd, Nat.reduceMul, Nat.reduceEqDiff, Nat.reduceLT, Nat.reduceLeDiff, Nat.reduceSub, Nat.reducePow, Nat.reduceBEq, Int.reduceToNat, List.reduceReplicate]
    refine AW.exit ?_
    rw [← hQl1]
    refine hK3 _ _ _ ?_; clear hK3
    refine AW.seq fun K9 hK9 => ?_
    -- region 7
    refine AW.regionK 100 (fun _ => none) [6] [111, 113, 115, 117] ?_
    simp only [go_sem, reduceIte, reduceCtorEq, Nat.reduceAdd, Nat.reduceMul, Nat.reduceEqDiff, Nat.reduceLT, Nat.reduceLeDiff, Nat.reduceSub, Nat.reducePow, Nat.reduceBEq, Int.reduceToNat, List.reduceReplicate]
    repeat with_reducible refine cj ?_ ?_
    all_goals try first | omega
    refine hK9 _ _ _ ?_; clear hK9
    refine AW.frzCellK [111] 5 117 0 0 ?_
    simp only [go_sem, reduceIte, Nat.reduceEqDiff, htk, vwc_nbV]
    refine ⟨rfl, by decide, by decide, by decide, ?_⟩
    refine AW.keep [6] [113, 115, 117] ?_
    simp only [go_sem, reduceIte, Nat.reduceEqDiff]
    refine AW.ret ?_
    rw [← hQr]
    simp only [go_sem, reduceIte, reduceCtorEq, Nat.reduceAdd, Nat.reduceMul, Nat.reduceEqDiff, Nat.reduceLT, Nat.reduceLeDiff, Nat.reduceSub, Nat.reducePow, Nat.reduceBEq, Int.reduceToNat, List.reduceReplicate]
    refine ⟨[(117, 0, true), (113, 1, true), (115, 2, true)], ?_⟩
    simp only [go_sem, reduceIte, Nat.reduceEqDiff, renC_ints]
    exact ⟨rfl, rfl⟩
end Go.Proofs.M

namespace Go.Proofs.M
open Go.AM Go
set_option maxRecDepth 100000
set_option maxHeartbeats 2000000
theorem maximum_u {n m : Nat} (hn : n ≤ 512) (hm : m ≤ 512) {E : List (Int × Int)} (hE : ∀ e ∈ E, edgeIn n m e = true) (hl : E.length ≤ 2000) :
    Upd Try.prog 31 [] [.int .i64 n, .int .i64 m, .rsl 2 (E.map pairV)] (fun k => .ptr ⟨0, k, none⟩ 0 0) (fun k => graphS n m (nbOf n E) (maxLR (nbOf n E) n m n).1 (maxLR (nbOf n E) n m n).2 k k k k k k) := by
  have hmd := made_u hn hm hE hl
  have hnl := nbOf_len n E
  have hrw := nbOf_row n E
  have hrg : ∀ row ∈ nbOf n E, ∀ r ∈ row, 0 ≤ r ∧ r < (m : Int) := nbOf_rng fun e he => by have := edgeIn_iff.1 (hE e he); omega
  generalize nbOf n E = nb at *
  have hok := maxLR_ok hnl hrg
  have hLl : (List.replicate n (-1 : Int)).length = n := by simp
  refine Upd.of_body (rs := [.tmp 6]) Try.func31 rfl Try.ntmps31 rfl (by simp) ?_
  intro k0 k hk0 hk1
  generalize hQr : retQ _ _ _ = Qr
  refine AW.seq fun K1 hK1 => ?_
  -- region 0
  refine AW.regionK 100 (fun _ => none) [0, 1, 2] [112, 1112, 2112] ?_
  simp only [go_sem, reduceIte, reduceCtorEq, Nat.reduceAdd, Nat.reduceMul, Nat.reduceEqDiff, Nat.reduceLT, Nat.reduceLeDiff, Nat.reduceSub, Nat.reducePow, Nat.reduceBEq, Int.reduceToNat, List.reduceReplicate, graphS, ints_len, hLl]
  repeat with_reducible refine cj ?_ ?_
  all_goals try first | omega
  refine hK1 _ _ _ ?_; clear hK1
  refine AW.seq fun K2 hK2 => ?_
  -- region 1
  refine AW.regionK 100 (fun ii => if ii = 3 then some (.upd [] (fun k => graphS n m nb (List.replicate n (-1)) (List.replicate m (-1)) k k k k k k) (fun k => .ptr ⟨0, k, none⟩ 0 0)) else none) [7] [112, 1112, 2112] ?_
  simp only [go_sem, reduceIte, reduceCtorEq, Nat.reduceAdd, Nat.reduceMul, Nat.reduceEqDiff, Nat.reduceLT, Nat.reduceLeDiff, Nat.reduceSub, Nat.reducePow, Nat.reduceBEq, Int.reduceToNat, List.reduceReplicate, graphS, ints_len, hLl]
  repeat with_reducible refine cj ?_ ?_
  all_goals try first | ((unfold graphS at hmd; exact hmd)) | omega | exact ent (by kernel_rfl)
  refine hK2 _ _ _ ?_; clear hK2
  refine AW.seq fun K3 hK3 => ?_
  refine AW.seq fun K4 hK4 => ?_
  -- region 2
  refine AW.regionK 100 (fun _ => none) [7, 17, 18] [112, 1112, 2112] ?_
  simp only [go_sem, reduceIte, reduceCtorEq, Nat.reduceAdd, Nat.reduceMul, Nat.reduceEqDiff, Nat.reduceLT, Nat.reduceLeDiff, Nat.reduceSub, Nat.reducePow, Nat.reduceBEq, Int.reduceToNat, List.reduceReplicate, graphS, ints_len, hLl]
  repeat with_reducible refine cj ?_ ?_
  all_goals try first | omega
  refine hK4 _ _ _ ?_; clear hK4
  refine AW.block ?_
  -- loop 1
  refine AW.loopE (fun mm ee ss kk => ∃ (j g0 v0 g1 v1 g2 v2 : Nat), n - j = mm ∧ ee = [(7, .ptr ⟨112, g0, none⟩ 0 0), (17, .int .i64 n), (18, .int .i64 (j : Nat))] ∧ ss = [(112, some ⟨g0, v0, 3, [[.rsl 1 (nbR nb), .sl ⟨1112, g1, none⟩ 0 n none, .sl ⟨2112, g2, none⟩ 0 m none]]⟩), (1112, some ⟨g1, v1, 1, ints (maxLR nb n m j).1⟩), (2112, some ⟨g2, v2, 1, ints (maxLR nb n m j).2⟩)] ∧ (j ≤ n)) ?_ ?_
  · refine ⟨_, 0, ?_, ?_, ?_, ?_, ?_, ?_, rfl, ?henv, ?hstore, ?hst⟩
    case henv =>
      repeat' (first | rfl | refine env_cons ?_ ?_ | refine st_cons ?_ ?_ ?_ ?_ | refine int_eq ?_ | refine bool_eq ?_ | refine rsl_eq ?_ | refine osl_eq ?_ | refine sl_eq ?_ ?_ ?_ | refine ptr_eq ?_ ?_ ?_ | refine agg_eq ?_ | refine es_cons ?_ ?_ | refine row_cons ?_ ?_)
      all_goals (first | (simp; done) | omega | (simp; omega))
    case hstore =>
      repeat' (first | rfl | refine env_cons ?_ ?_ | refine st_cons ?_ ?_ ?_ ?_ | refine int_eq ?_ | refine bool_eq ?_ | refine rsl_eq ?_ | refine osl_eq ?_ | refine sl_eq ?_ ?_ ?_ | refine ptr_eq ?_ ?_ ?_ | refine agg_eq ?_ | refine es_cons ?_ ?_ | refine row_cons ?_ ?_)
      all_goals (first | (simp; done) | omega | (simp; omega))
    case hst =>
      first | trivial | omega | (simp; done) | (simp; omega)
  rintro mm ee ss kk ⟨j, g0, v0, g1, v1, g2, v2, rfl, rfl, rfl, hI⟩
  generalize hQl1 : thenQ _ _ = Ql1
  refine AW.seq fun K5 hK5 => ?_
  -- region 3
  refine AW.regionK 100 (fun _ => none) [7, 17, 18, 19] [112, 1112, 2112] ?_
  simp only [go_sem, reduceIte, reduceCtorEq, Nat.reduceAdd, Nat.reduceMul, Nat.reduceEqDiff, Nat.reduceLT, Nat.reduceLeDiff, Nat.reduceSub, Nat.reducePow, Nat.reduceBEq, Int.reduceToNat, List.reduceReplicate, graphS, ints_len, hLl]
  repeat with_reducible refine cj ?_ ?_
  all_goals try first | omega
  refine hK5 _ _ _ ?_; clear hK5
  refine AW.seq fun K6 hK6 => ?_
  -- cond 1
  refine AW.cond rfl (by simp only [go_sem, reduceIte, reduceCtorEq, Nat.reduceAdd, Nat.reduceMul, Nat.reduceEqDiff, Nat.reduceLT, Nat.reduceLeDiff, Nat.reduceSub, Nat.reducePow, Nat.reduceBEq, Int.reduceToNat, List.reduceReplicate]) ?_ ?_
  · intro hb
    try simp only [hB, decide_eq_true_eq, decide_eq_false_iff_not] at hb
    have hoj := hok j (by omega)
    obtain ⟨⟨b', s', L', R'⟩, hx⟩ : ∃ x, mtry nb (m + 1) (j : Int) (List.replicate m false) (maxLR nb n m j).1 (maxLR nb n m j).2 = x := ⟨_, rfl⟩
    have hau := aug_u hn hm (fun row hr => by have := hrw row hr; omega) (j : Int) (maxLR nb n m j).1 (maxLR nb n m j).2 b' s' L' R' (by omega) (by omega) hoj hx
    have hsu : (maxLR nb n m (j + 1)) = (L', R') := by show (mtry nb (m + 1) (j : Int) (List.replicate m false) (maxLR nb n m j).1 (maxLR nb n m j).2).2.2 = _; rw [hx]
    unfold graphS at hau
    refine AW.skip ?_
    refine hK6 _ _ _ ?_; clear hK6
    refine AW.seq fun K7 hK7 => ?_
    refine AW.block ?_
    refine AW.seq fun K8 hK8 => ?_
    -- region 4
    refine AW.regionK 100 (fun _ => none) [7, 8, 17, 18] [112, 1112, 2112] ?_
    simp only [go_sem, reduceIte, reduceCtorEq, Nat.reduceAdd, Nat.reduceMul, Nat.reduceEqDiff, Nat.reduceLT, Nat.reduceLeDiff, Nat.reduceSub, Nat.reducePow, Nat.reduceBEq, Int.reduceToNat, List.reduceReplicate, graphS, ints_len, hLl]
    repeat with_reducible refine cj ?_ ?_
    all_goals try first | omega
    refine hK8 _ _ _ ?_; clear hK8
    -- region 5
    refine AW.regionK 100 (fun ii => if ii = 2 then some (.upd [112, 1112, 2112] (fun kk => graphS n m nb L' R' g0 kk g1 kk g2 kk) (fun _ => .bool b')) else none) [7, 17, 18] [112, 1112, 2112] ?_
    simp only [go_sem, reduceIte, reduceCtorEq, Nat.reduceAdd, Nat.reduceMul, Nat.reduceEqDiff, Nat.reduceLT, Nat.reduceLeDiff, Nat.reduceSub, Nat.reducePow, Nat.reduceBEq, Int.reduceToNat, List.reduceReplicate, graphS, ints_len, hLl]
    repeat with_reducible refine cj ?_ ?_
    all_goals try first | (exact hau _ _ _ _ _ _) | omega | exact ent (by kernel_rfl)
    refine hK7 _ _ _ ?_; clear hK7
    -- region 6
    refine AW.regionK 100 (fun _ => none) [7, 17, 18] [112, 1112, 2112] ?_
    simp only [go_sem, reduceIte, reduceCtorEq, Nat.reduceAdd, Nat.reduceMul, Nat.reduceEqDiff, Nat.reduceLT, Nat.reduceLeDiff, Nat.reduceSub, Nat.reducePow, Nat.reduceBEq, Int.reduceToNat, List.reduceReplicate, graphS, ints_len, hLl]
    repeat with_reducible refine cj ?_ ?_
    all_goals try first | omega
    rw [← hQl1]
    change Exists _
    refine ⟨_, ?hm, j + 1, ?_, ?_, ?_, ?_, ?_, ?_, rfl, ?henv, ?hstore, ?hst⟩
    case henv =>
      repeat' (first | rfl | refine env_cons ?_ ?_ | refine st_cons ?_ ?_ ?_ ?_ | refine int_eq ?_ | refine bool_eq ?_ | refine rsl_eq ?_ | refine osl_eq ?_ | refine sl_eq ?_ ?_ ?_ | refine ptr_eq ?_ ?_ ?_ | refine agg_eq ?_ | refine es_cons ?_ ?_ | refine row_cons ?_ ?_)
      all_goals (first | (simp; done) | omega | (simp; omega))
    case hstore =>
      repeat' (first | rfl | refine env_cons ?_ ?_ | refine st_cons ?_ ?_ ?_ ?_ | refine int_eq ?_ | refine bool_eq ?_ | refine rsl_eq ?_ | refine osl_eq ?_ | refine sl_eq ?_ ?_ ?_ | refine ptr_eq ?_ ?_ ?_ | refine agg_eq ?_ | refine es_cons ?_ ?_ | refine row_cons ?_ ?_)
      all_goals (rw [hsu])
    case hst =>
      first | trivial | omega | (simp; done) | (simp; omega)
    case hm => omega
  · intro hb
    try simp only [hB, decide_eq_true_eq, decide_eq_false_iff_not] at hb
    have hj : j = n := by omega
    subst hj
    refine AW.keep [7] [112, 1112, 2112] ?_
    try simp only [go_sem, reduceIte, reduceCtorEq, Nat.reduceAdd, Nat.reduceMul, Nat.reduceEqDiff, Nat.reduceLT, Nat.reduceLeDiff, Nat.reduceSub, Nat.reducePow, Nat.reduceBEq, Int.reduceToNat, List.reduceReplicate]
    refine AW.exit ?_
    rw [← hQl1]
    refine hK3 _ _ _ ?_; clear hK3
    refine AW.seq fun K9 hK9 => ?_
    -- region 7
    refine AW.regionK 100 (fun _ => none) [6] [112, 1112, 2112] ?_
    simp only [go_sem, reduceIte, reduceCtorEq, Nat.reduceAdd, Nat.reduceMul, Nat.reduceEqDiff, Nat.reduceLT, Nat.reduceLeDiff, Nat.reduceSub, Nat.reducePow, Nat.reduceBEq, Int.reduceToNat, List.reduceReplicate, graphS, ints_len, hLl]
    repeat with_reducible refine cj ?_ ?_
    all_goals try first | omega
    refine hK9 _ _ _ ?_; clear hK9
    refine AW.ret ?_
    rw [← hQr]
    simp only [go_sem, reduceIte, reduceCtorEq, Nat.reduceAdd, Nat.reduceMul, Nat.reduceEqDiff, Nat.reduceLT, Nat.reduceLeDiff, Nat.reduceSub, Nat.reducePow, Nat.reduceBEq, Int.reduceToNat, List.reduceReplicate, graphS, ints_len, hLl]
    refine ⟨[(112, 0, true), (1112, 1, true), (2112, 2, true)], ?_⟩
    simp only [go_sem, reduceIte, Nat.reduceEqDiff, renC_ints, graphS]
    first | rfl | exact ⟨rfl, rfl⟩
end Go.Proofs.M

/- A contract that makes memory answers as one that reads. -/
namespace Go.AM
theorem Upd.reads {P : Program} {f : FuncId} {args : List AV} {res : Nat → AV} {s1 : Nat → Store} {r : AV} (h : Upd P f [] args res s1) (hr : Wk (vwF (s1 0) 5 (res 0)) r) : Reads P f true args r := by
  intro w F us hF hgl hl hrel
  have hr' : ∀ i, i < args.length → Rel ⟨fun _ => none, [], clk 0, w, fun _ => False⟩ (args.getD i .any) (us.getD i undef) := fun i hi => .pure _ _ ((hrel i hi).mono fun b hb => ⟨⟨hb.1, fun ⟨π, y, base, h1, _⟩ => by simp [pcontent, sget] at h1, fun h => h⟩, rfl⟩)
  have hst : StOk ⟨fun _ => none, [], clk 0, w, fun _ => False⟩ := start_ok (fun _ h => h.elim) (hgl.mono fun b hb => ⟨⟨hb.1, fun h => h⟩, rfl⟩)
  refine (h (clk 0) 0 0 (fun _ => none) w (fun _ => False) us (fun g hg => hg) (fun hg => Nat.lt_irrefl _ hg) (fun hg => absurd hg (Nat.not_lt_zero _)) hst hl hr').mono fun e w' ⟨u, ρ', h1, h2, h3⟩ => ⟨u, h1, ?_, ?_⟩
  · exact ⟨h2.ext.os, h2.ext.tape, h2.ext.output, h2.ext.size, fun b hb _ => h2.ext.block b hb fun ⟨π, y, base, e1, _⟩ => by simp [pcontent, sget] at e1⟩
  · refine hr _ _ _ (vwF_sound h2.ok (fun b hb => ⟨?_, fun hlt => ?_⟩) 5 (res 0) u h3)
    · obtain ⟨π, y, base, k1, k2⟩ := hb
      exact h2.ok.live_lt k1 k2
    · simp only [if_true] at hlt
      exact (h2.le.imm b ⟨hlt, fun ⟨π, y, base, e1, _⟩ => by simp [pcontent, sget] at e1, fun h => h⟩).1.2.1 hb
/-- A contract that reads, at roots that are given away. -/
theorem Reads.upd {P : Program} {f : FuncId} {s0 : Store} {args args' : List AV} {r : AV} (h : Reads P f true args' r) (ha : args.map (vw s0 5) = args') : Upd P f s0 args (fun _ => r) (fun _ => []) := by
  subst ha
  intro c B k ρ w F us _ _ _ hst hl hrel
  have hargs : ∀ i, i < (args.map (vw s0 5)).length → RelP (immF w fun _ => False) w ((args.map (vw s0 5)).getD i .any) (us.getD i undef) := fun i hi => by
    rw [List.length_map] at hi
    rw [getD_map_vw (vw s0 5) _ _ .any _ hi]
    exact vw_sound hst (fun b hb _ => ⟨hb, fun e => e⟩) 5 _ _ (hrel i hi)
  refine (h w (fun _ => False) us (fun _ h => h.elim) (hst.gl.mono fun b hb => ⟨⟨hb.1, fun e => e⟩, rfl⟩) (by simpa using hl) hargs).mono fun e w' ⟨u, h1, h2, h3⟩ => ⟨u, ρ, h1, ?_, ?_⟩
  · exact hst.goes_grow (s' := []) (fun id R e => by simp [sget] at e) (fun g hg => .inl hg) h2
  · refine .pure _ _ (h3.mono fun b hb => ⟨⟨hb.1, fun ⟨π, y, base, e1, _⟩ => by simp [pcontent, sget] at e1, fun hf => ?_⟩, rfl⟩)
    simp only [if_true] at hb
    exact hb.2 (hst.apart b hf).1
end Go.AM

namespace Go.Proofs.M
open Go.AM Go
set_option maxRecDepth 100000
set_option maxHeartbeats 2000000
theorem pairs_r {n : Nat} (hn : n ≤ 512) (X Y : List (List AV)) (L : List Int) (hL : L.length = n) : Reads Try.prog 32 true [.rptr [.rsl 1 X, .rsl 1 (ints L), .rsl 1 Y]] (.rsl 2 ((prsL L n).map pairV)) := by
  refine Reads.bodyF (rs := [.tmp 2]) Try.func32 rfl Try.ntmps32 rfl (by simp) ?_
  generalize hQr : retQ _ _ _ = Qr
  refine AW.seq fun K1 hK1 => ?_
  -- region 0
  refine AW.regionK 0 (fun _ => none) [0] [] ?_
  simp only [go_sem, reduceIte, reduceCtorEq, Nat.reduceAdd, Nat.reduceMul, Nat.reduceEqDiff, Nat.reduceLT, Nat.reduceLeDiff, Nat.reduceSub, Nat.reducePow, Nat.reduceBEq, Int.reduceToNat, List.reduceReplicate, ints_len, hL]
  repeat with_reducible refine cj ?_ ?_
  all_goals try first | omega
  refine hK1 _ _ _ ?_; clear hK1
  refine AW.seq fun K2 hK2 => ?_
  -- region 1
  refine AW.regionK 0 (fun _ => none) [0, 3] [] ?_
  simp only [go_sem, reduceIte, reduceCtorEq, Nat.reduceAdd, Nat.reduceMul, Nat.reduceEqDiff, Nat.reduceLT, Nat.reduceLeDiff, Nat.reduceSub, Nat.reducePow, Nat.reduceBEq, Int.reduceToNat, List.reduceReplicate, ints_len, hL]
  repeat with_reducible refine cj ?_ ?_
  all_goals try first | omega
  refine hK2 _ _ _ ?_; clear hK2
  refine AW.seq fun K3 hK3 => ?_
  refine AW.seq fun K4 hK4 => ?_
  -- region 2
  refine AW.regionK 0 (fun _ => none) [3, 9, 10, 11] [] ?_
  simp only [go_sem, reduceIte, reduceCtorEq, Nat.reduceAdd, Nat.reduceMul, Nat.reduceEqDiff, Nat.reduceLT, Nat.reduceLeDiff, Nat.reduceSub, Nat.reducePow, Nat.reduceBEq, Int.reduceToNat, List.reduceReplicate, ints_len, hL]
  repeat with_reducible refine cj ?_ ?_
  all_goals try first | omega
  refine hK4 _ _ _ ?_; clear hK4
  refine AW.block ?_
  refine AW.nilOwn 3 200 2 (by simp only [go_sem, reduceIte, Nat.reduceEqDiff]) ?_
  refine AW.keep [3, 9, 10, 11] [200] ?_
  simp only [go_sem, reduceIte, Nat.reduceEqDiff]
  -- loop 1
  refine AW.loopE (fun mm ee ss kk => ∃ (j g v : Nat), n - j = mm ∧ ee = [(3, .sl ⟨200, g, none⟩ 0 (prsL L j).length none), (9, .rsl 1 (ints L)), (10, .int .i64 n), (11, .int .i64 (j : Nat))] ∧ ss = [(200, some ⟨g, v, 2, (prsL L j).map pairV⟩)] ∧ (j ≤ n)) ?_ ?_
  · refine ⟨_, 0, ?_, ?_, rfl, ?henv, ?hstore, ?hst⟩
    case henv =>
      repeat' (first | rfl | refine env_cons ?_ ?_ | refine st_cons ?_ ?_ ?_ ?_ | refine int_eq ?_ | refine bool_eq ?_ | refine rsl_eq ?_ | refine osl_eq ?_ | refine sl_eq ?_ ?_ ?_ | refine ptr_eq ?_ ?_ ?_ | refine agg_eq ?_ | refine es_cons ?_ ?_ | refine row_cons ?_ ?_)
      all_goals (first | (simp; done) | omega | (simp; omega))
    case hstore =>
      repeat' (first | rfl | refine env_cons ?_ ?_ | refine st_cons ?_ ?_ ?_ ?_ | refine int_eq ?_ | refine bool_eq ?_ | refine rsl_eq ?_ | refine osl_eq ?_ | refine sl_eq ?_ ?_ ?_ | refine ptr_eq ?_ ?_ ?_ | refine agg_eq ?_ | refine es_cons ?_ ?_ | refine row_cons ?_ ?_)
      all_goals (first | (simp; done) | omega | (simp; omega))
    case hst =>
      first | trivial | omega | (simp; done) | (simp; omega)
  rintro mm ee ss kk ⟨j, g, v, rfl, rfl, rfl, hI⟩
  generalize hQl1 : thenQ _ _ = Ql1
  refine AW.seq fun K5 hK5 => ?_
  -- region 3
  refine AW.regionK 0 (fun _ => none) [3, 9, 10, 11, 12] [200] ?_
  simp only [go_sem, reduceIte, reduceCtorEq, Nat.reduceAdd, Nat.reduceMul, Nat.reduceEqDiff, Nat.reduceLT, Nat.reduceLeDiff, Nat.reduceSub, Nat.reducePow, Nat.reduceBEq, Int.reduceToNat, List.reduceReplicate, ints_len, hL]
  repeat with_reducible refine cj ?_ ?_
  all_goals try first | omega
  refine hK5 _ _ _ ?_; clear hK5
  refine AW.seq fun K6 hK6 => ?_
  -- cond 1
  refine AW.cond rfl (by simp only [go_sem, reduceIte, reduceCtorEq, Nat.reduceAdd, Nat.reduceMul, Nat.reduceEqDiff, Nat.reduceLT, Nat.reduceLeDiff, Nat.reduceSub, Nat.reducePow, Nat.reduceBEq, Int.reduceToNat, List.reduceReplicate]) ?_ ?_
  · intro hb
    try simp only [hB, decide_eq_true_eq, decide_eq_false_iff_not] at hb
    have hgl := ints_getD (l := L) (i := j) (by omega)
    have hsu := prsL_succ L j
    have hle := prsL_le L j
    have htk : ((prsL L j).map pairV).take (prsL L j).length = (prsL L j).map pairV := List.take_of_length_le (by simp)
    generalize hP : prsL L j = P at *
    refine AW.skip ?_
    refine hK6 _ _ _ ?_; clear hK6
    refine AW.seq fun K7 hK7 => ?_
    refine AW.block ?_
    refine AW.seq fun K8 hK8 => ?_
    -- region 4
    refine AW.regionK 0 (fun _ => none) [3, 4, 5, 9, 10, 11] [200] ?_
    simp only [go_sem, reduceIte, reduceCtorEq, Nat.reduceAdd, Nat.reduceMul, Nat.reduceEqDiff, Nat.reduceLT, Nat.reduceLeDiff, Nat.reduceSub, Nat.reducePow, Nat.reduceBEq, Int.reduceToNat, List.reduceReplicate, ints_len, hL, hgl]
    repeat with_reducible refine cj ?_ ?_
    all_goals try first | omega
    refine hK8 _ _ _ ?_; clear hK8
    refine AW.seq fun K9 hK9 => ?_
    -- region 5
    refine AW.regionK 0 (fun _ => none) [3, 4, 5, 9, 10, 11, 17] [200] ?_
    simp only [go_sem, reduceIte, reduceCtorEq, Nat.reduceAdd, Nat.reduceMul, Nat.reduceEqDiff, Nat.reduceLT, Nat.reduceLeDiff, Nat.reduceSub, Nat.reducePow, Nat.reduceBEq, Int.reduceToNat, List.reduceReplicate, ints_len, hL]
    repeat with_reducible refine cj ?_ ?_
    all_goals try first | omega
    refine hK9 _ _ _ ?_; clear hK9
    -- cond 2
    refine AW.cond rfl (by simp only [go_sem, reduceIte, reduceCtorEq, Nat.reduceAdd, Nat.reduceMul, Nat.reduceEqDiff, Nat.reduceLT, Nat.reduceLeDiff, Nat.reduceSub, Nat.reducePow, Nat.reduceBEq, Int.reduceToNat, List.reduceReplicate]) ?_ ?_
    · intro hb
      try simp only [hB, decide_eq_true_eq, decide_eq_false_iff_not] at hb
      rw [if_pos hb] at hsu
      -- region 6
      refine AW.regionK 0 (fun _ => none) [3, 9, 10, 11] [200] ?_
      simp only [go_sem, reduceIte, reduceCtorEq, Nat.reduceAdd, Nat.reduceMul, Nat.reduceEqDiff, Nat.reduceLT, Nat.reduceLeDiff, Nat.reduceSub, Nat.reducePow, Nat.reduceBEq, Int.reduceToNat, List.reduceReplicate, ints_len, hL, htk, pairs_app]
      repeat with_reducible refine cj ?_ ?_
      all_goals try first | omega | (simp [scP, scalar]; done) | exact scP_words _ | exact scP_ints _ | exact scP_bools _
      refine hK7 _ _ _ ?_; clear hK7
      -- region 7
      refine AW.regionK 0 (fun _ => none) [3, 9, 10, 11] [200] ?_
      simp only [go_sem, reduceIte, reduceCtorEq, Nat.reduceAdd, Nat.reduceMul, Nat.reduceEqDiff, Nat.reduceLT, Nat.reduceLeDiff, Nat.reduceSub, Nat.reducePow, Nat.reduceBEq, Int.reduceToNat, List.reduceReplicate, ints_len, hL]
      repeat with_reducible refine cj ?_ ?_
      all_goals try first | omega
      rw [← hQl1]
      change Exists _
      refine ⟨_, ?hm, j + 1, ?_, ?_, rfl, ?henv, ?hstore, ?hst⟩
      case henv =>
        repeat' (first | rfl | refine env_cons ?_ ?_ | refine st_cons ?_ ?_ ?_ ?_ | refine int_eq ?_ | refine bool_eq ?_ | refine rsl_eq ?_ | refine osl_eq ?_ | refine sl_eq ?_ ?_ ?_ | refine ptr_eq ?_ ?_ ?_ | refine agg_eq ?_ | refine es_cons ?_ ?_ | refine row_cons ?_ ?_)
        all_goals (rw [hsu]; try simp)
      case hstore =>
        repeat' (first | rfl | refine env_cons ?_ ?_ | refine st_cons ?_ ?_ ?_ ?_ | refine int_eq ?_ | refine bool_eq ?_ | refine rsl_eq ?_ | refine osl_eq ?_ | refine sl_eq ?_ ?_ ?_ | refine ptr_eq ?_ ?_ ?_ | refine agg_eq ?_ | refine es_cons ?_ ?_ | refine row_cons ?_ ?_)
        all_goals (rw [hsu])
      case hst =>
        first | trivial | omega | (simp; done) | (simp; omega)
      case hm => omega
    · intro hb
      try simp only [hB, decide_eq_true_eq, decide_eq_false_iff_not] at hb
      rw [if_neg (by omega)] at hsu
      refine AW.skip ?_
      refine hK7 _ _ _ ?_; clear hK7
      -- region 7
      refine AW.regionK 0 (fun _ => none) [3, 9, 10, 11] [200] ?_
      simp only [go_sem, reduceIte, reduceCtorEq, Nat.reduceAdd, Nat.reduceMul, Nat.reduceEqDiff, Nat.reduceLT, Nat.reduceLeDiff, Nat.reduceSub, Nat.reducePow, Nat.reduceBEq, Int.reduceToNat, List.reduceReplicate, ints_len, hL]
      repeat with_reducible refine cj ?_ ?_
      all_goals try first | omega
      rw [← hQl1]
      change Exists _
      refine ⟨_, ?hm, j + 1, ?_, ?_, rfl, ?henv, ?hstore, ?hst⟩
      case henv =>
        repeat' (first | rfl | refine env_cons ?_ ?_ | refine st_cons ?_ ?_ ?_ ?_ | refine int_eq ?_ | refine bool_eq ?_ | refine rsl_eq ?_ | refine osl_eq ?_ | refine sl_eq ?_ ?_ ?_ | refine ptr_eq ?_ ?_ ?_ | refine agg_eq ?_ | refine es_cons ?_ ?_ | refine row_cons ?_ ?_)
        all_goals (rw [hsu]; try simp)
      case hstore =>
        repeat' (first | rfl | refine env_cons ?_ ?_ | refine st_cons ?_ ?_ ?_ ?_ | refine int_eq ?_ | refine bool_eq ?_ | refine rsl_eq ?_ | refine osl_eq ?_ | refine sl_eq ?_ ?_ ?_ | refine ptr_eq ?_ ?_ ?_ | refine agg_eq ?_ | refine es_cons ?_ ?_ | refine row_cons ?_ ?_)
        all_goals (rw [hsu])
      case hst =>
        first | trivial | omega | (simp; done) | (simp; omega)
      case hm => omega
  · intro hb
    try simp only [hB, decide_eq_true_eq, decide_eq_false_iff_not] at hb
    have hj : j = n := by omega
    subst hj
    refine AW.exit ?_
    rw [← hQl1]
    refine hK3 _ _ _ ?_; clear hK3
    refine AW.seq fun K10 hK10 => ?_
    -- region 8
    refine AW.regionK 0 (fun _ => none) [2] [200] ?_
    simp only [go_sem, reduceIte, reduceCtorEq, Nat.reduceAdd, Nat.reduceMul, Nat.reduceEqDiff, Nat.reduceLT, Nat.reduceLeDiff, Nat.reduceSub, Nat.reducePow, Nat.reduceBEq, Int.reduceToNat, List.reduceReplicate, ints_len, hL]
    repeat with_reducible refine cj ?_ ?_
    all_goals try first | omega
    refine hK10 _ _ _ ?_; clear hK10
    refine AW.ret ?_
    rw [← hQr]
    simp only [go_sem, reduceIte, reduceCtorEq, Nat.reduceAdd, Nat.reduceMul, Nat.reduceEqDiff, Nat.reduceLT, Nat.reduceLeDiff, Nat.reduceSub, Nat.reducePow, Nat.reduceBEq, Int.reduceToNat, List.reduceReplicate, ints_len, hL]
    exact Wk.of_eq (by rw [List.take_of_length_le (by simp)]; simp [pairV, vwcF_int])
/-- The pairs that Max answers. -/
def maxP (n m : Nat) (E : List (Int × Int)) : List (Int × Int) := prsL (maxLR (nbOf n E) n m n).1 n
theorem max_good {n m : Nat} {E : List (Int × Int)} (hv : validM n m E = true) : Reads Try.prog 11 false [.int .i64 n, .int .i64 m, .rsl 2 (E.map pairV)] (.tup [.rsl 2 ((maxP n m E).map pairV), .int .i64 0]) := by
  have hv' := hv
  simp only [validM, sizesM, Bool.and_eq_true, decide_eq_true_eq, List.all_eq_true] at hv'
  obtain ⟨⟨⟨⟨⟨q1, q2⟩, q3⟩, q4⟩, q5⟩, q6, q7⟩ := hv'
  have hvr := mvalid_r n m E (by omega)
  rw [hv] at hvr
  have hmx := maximum_u (n := n) (m := m) (by omega) (by omega) q6 q5
  have hok := maxLR_ok (n := n) (m := m) (nbOf_len n E) (nbOf_rng fun e he => by have := edgeIn_iff.1 (q6 e he); omega) n (Nat.le_refl _)
  have hpr := pairs_r (n := n) (by omega) (nbR (nbOf n E)) (ints (maxLR (nbOf n E) n m n).2) (maxLR (nbOf n E) n m n).1 hok.hL.1
  unfold maxP
  have hLn := hok.hL.1
  have hRm := hok.hR.1
  generalize maxLR (nbOf n E) n m n = x at *
  obtain ⟨L, R⟩ := x
  unfold graphS at hmx
  simp only at hmx hpr hLn hRm ⊢
  generalize nbR (nbOf n E) = X at *
  have htL : (ints L).take n = ints L := List.take_of_length_le (by rw [ints_len]; omega)
  have htR : (ints R).take m = ints R := List.take_of_length_le (by rw [ints_len]; omega)
  refine Reads.body (rs := [.tmp 6, .tmp 7]) Try.func11 rfl Try.ntmps11 rfl (by simp) ?_
  generalize hQr : retQ _ _ _ = Qr
  refine AW.seq fun K1 hK1 => ?_
  -- region 0
  refine AW.regionK 0 (fun _ => none) [0, 1, 2] [] ?_
  simp only [go_sem, reduceIte, reduceCtorEq, Nat.reduceAdd, Nat.reduceMul, Nat.reduceEqDiff, Nat.reduceLT, Nat.reduceLeDiff, Nat.reduceSub, Nat.reducePow, Nat.reduceBEq, Int.reduceToNat, List.reduceReplicate]
  repeat with_reducible refine cj ?_ ?_
  all_goals try first | omega
  refine hK1 _ _ _ ?_; clear hK1
  refine AW.seq fun K2 hK2 => ?_
  refine AW.seq fun K3 hK3 => ?_
  -- region 1
  refine AW.regionK 0 (fun ii => if ii = 3 then some (.reads false (.bool true)) else none) [0, 1, 2, 12] [] ?_
  simp only [go_sem, reduceIte, reduceCtorEq, Nat.reduceAdd, Nat.reduceMul, Nat.reduceEqDiff, Nat.reduceLT, Nat.reduceLeDiff, Nat.reduceSub, Nat.reducePow, Nat.reduceBEq, Int.reduceToNat, List.reduceReplicate]
  repeat with_reducible refine cj ?_ ?_
  all_goals try first | (exact hvr) | omega | exact ent (by kernel_rfl)
  refine hK3 _ _ _ ?_; clear hK3
  -- cond 1
  refine AW.cond rfl (by simp only [go_sem, reduceIte, reduceCtorEq, Nat.reduceAdd, Nat.reduceMul, Nat.reduceEqDiff, Nat.reduceLT, Nat.reduceLeDiff, Nat.reduceSub, Nat.reducePow, Nat.reduceBEq, Int.reduceToNat, List.reduceReplicate]) ?_ ?_
  · intro hb
    try simp only [hB, decide_eq_true_eq, decide_eq_false_iff_not] at hb
    exact absurd hb (by simp)
  · intro hb
    try simp only [hB, decide_eq_true_eq, decide_eq_false_iff_not] at hb
    refine AW.skip ?_
    refine hK2 _ _ _ ?_; clear hK2
    refine AW.seq fun K4 hK4 => ?_
    -- region 3
    refine AW.regionK 0 (fun ii => if ii = 3 then some (.upd [] (fun k => [(0, some ⟨k, k, 3, [[.rsl 1 X, .sl ⟨1, k, none⟩ 0 n none, .sl ⟨2, k, none⟩ 0 m none]]⟩), (1, some ⟨k, k, 1, ints L⟩), (2, some ⟨k, k, 1, ints R⟩)]) (fun k => .ptr ⟨0, k, none⟩ 0 0)) else if ii = 4 then some (.upd [16, 1016, 2016] (fun _ => []) (fun _ => .rsl 2 ((prsL L n).map pairV))) else none) [6, 7] [] ?_
    simp only [go_sem, reduceIte, reduceCtorEq, Nat.reduceAdd, Nat.reduceMul, Nat.reduceEqDiff, Nat.reduceLT, Nat.reduceLeDiff, Nat.reduceSub, Nat.reducePow, Nat.reduceBEq, Int.reduceToNat, List.reduceReplicate]
    repeat with_reducible refine cj ?_ ?_
    all_goals try first | (first | exact hmx | exact hpr.upd (by simp only [List.map_cons, List.map_nil, go_sem, reduceIte, Nat.reduceEqDiff, htL, htR, vwc_ints])) | omega | exact ent (by kernel_rfl)
    refine hK4 _ _ _ ?_; clear hK4
    refine AW.ret ?_
    rw [← hQr]
    simp only [go_sem, reduceIte, reduceCtorEq, Nat.reduceAdd, Nat.reduceMul, Nat.reduceEqDiff, Nat.reduceLT, Nat.reduceLeDiff, Nat.reduceSub, Nat.reducePow, Nat.reduceBEq, Int.reduceToNat, List.reduceReplicate]
    exact Wk.refl _
end Go.Proofs.M

namespace Go.Proofs.M
open Go.AM Go
set_option maxRecDepth 100000
set_option maxHeartbeats 2000000
end Go.Proofs.M

namespace Go.Proofs.M
open Go.AM Go
set_option maxRecDepth 100000
set_option maxHeartbeats 2000000
end Go.Proofs.M

namespace Go.Proofs.M
open Go.AM Go
set_option maxRecDepth 100000
set_option maxHeartbeats 2000000
end Go.Proofs.M

namespace Go.Proofs.M
open Go.AM Go
set_option maxRecDepth 100000
set_option maxHeartbeats 2000000
end Go.Proofs.M

namespace Go.Proofs.M
open Go.AM Go
set_option maxRecDepth 100000
set_option maxHeartbeats 2000000
def idxE (e : Int × Int) : Int := e.1 * 513 + e.2
theorem idxE_inj {a b : Int × Int} (ha : 0 ≤ a.1 ∧ 0 ≤ a.2 ∧ a.2 < 513) (hb : 0 ≤ b.1 ∧ 0 ≤ b.2 ∧ b.2 < 513) (h : (idxE a).toNat = (idxE b).toNat) : a = b := by
  unfold idxE at h
  refine Prod.ext ?_ ?_ <;> omega
def smallE (e : Int × Int) : Prop := 0 ≤ e.1 ∧ e.1 < 513 ∧ 0 ≤ e.2 ∧ e.2 < 513
def markedE (Z : List Bool) (l : List (Int × Int)) : Prop := Z.length = 263169 ∧ ∀ e, smallE e → Z.getD (idxE e).toNat false = decide (e ∈ l)
theorem markedE_succ {Z : List Bool} {l : List (Int × Int)} {e : Int × Int} (h : markedE Z l) (he : smallE e) : markedE (Z.set (idxE e).toNat true) (l ++ [e]) := by
  refine ⟨by simp [h.1], fun a ha => ?_⟩
  have hi : (idxE e).toNat < Z.length := by rw [h.1]; unfold idxE smallE at *; omega
  by_cases e1 : a = e
  · subst e1
    rw [Go.AM.getD_set_eq hi]; simp
  · rw [Go.AM.getD_set_ne (fun h2 => e1 (idxE_inj (by unfold smallE at ha; omega) (by unfold smallE at he; omega) h2.symm)), h.2 a ha]
    simp [e1]
theorem not_nodup {E : List (Int × Int)} {j : Nat} {e : Int × Int} (he : E[j]? = some e) (h : e ∈ E.take j) : ¬ E.Nodup := fun hn => by
  rw [List.mem_take_iff_getElem] at h
  obtain ⟨i, hi, e1⟩ := h
  have hj := (List.getElem?_eq_some_iff.1 he).1
  refine List.pairwise_iff_getElem.1 hn i j (by omega) hj (by omega) ?_
  rw [e1]; exact ((List.getElem?_eq_some_iff.1 he).2).symm
theorem nodup_snoc {l : List (Int × Int)} {e : Int × Int} (h : l.Nodup) (he : e ∉ l) : (l ++ [e]).Nodup := List.nodup_append.2 ⟨h, by simp, by
  intro a ha b hb2
  simp only [List.mem_singleton] at hb2
  subst hb2
  rintro rfl
  exact he ha⟩
theorem repl_bools (N : Nat) : List.replicate N [AV.bool false] = bools (List.replicate N false) := by simp [bools]
theorem marked0 (N : Nat) (hN : N = 263169) : markedE (List.replicate N false) [] := by
  refine ⟨by rw [List.length_replicate, hN], fun e _ => ?_⟩
  rw [List.getD_eq_getElem?_getD, List.getElem?_replicate]
  split <;> rfl
theorem twice_r {E : List (Int × Int)} (hE : ∀ e ∈ E, smallE e) (hl : E.length ≤ 9223372036854775807) : Reads Try.prog 36 false [.rsl 2 (E.map pairV)] (.bool (!decide E.Nodup)) := by
  obtain ⟨N, hN⟩ : ∃ N : Nat, N = 263169 := ⟨_, rfl⟩
  have hm0 := marked0 N hN
  have hz := repl_bools N
  generalize List.replicate N false = Z0 at *
  rw [hN] at hz
  refine Reads.body (rs := [.tmp 2]) Try.func36 rfl Try.ntmps36 rfl (by simp) ?_
  generalize hQr : retQ _ _ _ = Qr
  refine AW.seq fun K1 hK1 => ?_
  -- region 0
  refine AW.regionK 0 (fun _ => none) [0] [] ?_
  simp only [go_sem, reduceIte, reduceCtorEq, Nat.reduceAdd, Nat.reduceMul, Nat.reduceEqDiff, Nat.reduceLT, Nat.reduceLeDiff, Nat.reduceSub, Nat.reducePow, Nat.reduceBEq, Int.reduceToNat, List.reduceReplicate]
  repeat with_reducible refine cj ?_ ?_
  all_goals try first | omega
  refine hK1 _ _ _ ?_; clear hK1
  refine AW.seq fun K2 hK2 => ?_
  -- region 1
  refine AW.regionK 0 (fun _ => none) [0, 3] [6] ?_
  simp only [go_sem, reduceIte, reduceCtorEq, Nat.reduceAdd, Nat.reduceMul, Nat.reduceEqDiff, Nat.reduceLT, Nat.reduceLeDiff, Nat.reduceSub, Nat.reducePow, Nat.reduceBEq, Int.reduceToNat, hz, -List.reduceReplicate]
  refine ⟨by decide, by decide, by decide, ?_⟩
  try simp only [go_sem, reduceIte, reduceCtorEq, Nat.reduceAdd, Nat.reduceMul, Nat.reduceEqDiff, Nat.reduceLT, Nat.reduceLeDiff, Nat.reduceSub, Nat.reducePow, Nat.reduceBEq, Int.reduceToNat, List.reduceReplicate]
  refine hK2 _ _ _ ?_; clear hK2
  refine AW.seq fun K3 hK3 => ?_
  refine AW.seq fun K4 hK4 => ?_
  -- region 2
  refine AW.regionK 0 (fun _ => none) [0, 3, 4] [6] ?_
  simp only [go_sem, reduceIte, reduceCtorEq, Nat.reduceAdd, Nat.reduceMul, Nat.reduceEqDiff, Nat.reduceLT, Nat.reduceLeDiff, Nat.reduceSub, Nat.reducePow, Nat.reduceBEq, Int.reduceToNat, List.reduceReplicate]
  repeat with_reducible refine cj ?_ ?_
  all_goals try first | omega
  refine hK4 _ _ _ ?_; clear hK4
  refine AW.block ?_
  -- loop 1
  refine AW.loopE (fun mm ee ss kk => ∃ (j g v : Nat) (Z : List Bool), E.length - j = mm ∧ ee = [(0, .rsl 2 (E.map pairV)), (3, .sl ⟨6, g, none⟩ 0 263169 (some 263169)), (4, .int .i64 (j : Nat))] ∧ ss = [(6, some ⟨g, v, 1, bools Z⟩)] ∧ (j ≤ E.length ∧ (E.take j).Nodup ∧ markedE Z (E.take j))) ?_ ?_
  · refine ⟨_, 0, ?_, ?_, Z0, rfl, ?henv, ?hstore, ?hst⟩
    case henv =>
      repeat' (first | rfl | refine env_cons ?_ ?_ | refine st_cons ?_ ?_ ?_ ?_ | refine int_eq ?_ | refine bool_eq ?_ | refine rsl_eq ?_ | refine osl_eq ?_ | refine sl_eq ?_ ?_ ?_ | refine ptr_eq ?_ ?_ ?_ | refine agg_eq ?_ | refine es_cons ?_ ?_ | refine row_cons ?_ ?_)
      all_goals (first | (simp; done) | omega | (simp; omega))
    case hstore =>
      repeat' (first | rfl | refine env_cons ?_ ?_ | refine st_cons ?_ ?_ ?_ ?_ | refine int_eq ?_ | refine bool_eq ?_ | refine rsl_eq ?_ | refine osl_eq ?_ | refine sl_eq ?_ ?_ ?_ | refine ptr_eq ?_ ?_ ?_ | refine agg_eq ?_ | refine es_cons ?_ ?_ | refine row_cons ?_ ?_)
      all_goals (first | (simp; done) | omega | (simp; omega))
    case hst =>
      exact ⟨by omega, by simp, by simpa using hm0⟩
  rintro mm ee ss kk ⟨j, g, v, Z, rfl, rfl, rfl, hI⟩
  generalize hQl1 : thenQ _ _ = Ql1
  obtain ⟨hj, hnd, hmk⟩ := hI
  have hZl := hmk.1
  refine AW.seq fun K5 hK5 => ?_
  refine AW.seq fun K6 hK6 => ?_
  -- region 3
  refine AW.regionK 0 (fun _ => none) [0, 3, 4, 10] [6] ?_
  simp only [go_sem, reduceIte, reduceCtorEq, Nat.reduceAdd, Nat.reduceMul, Nat.reduceEqDiff, Nat.reduceLT, Nat.reduceLeDiff, Nat.reduceSub, Nat.reducePow, Nat.reduceBEq, Int.reduceToNat, List.reduceReplicate]
  repeat with_reducible refine cj ?_ ?_
  all_goals try first | omega
  refine hK6 _ _ _ ?_; clear hK6
  -- cond 1
  refine AW.cond rfl (by simp only [go_sem, reduceIte, reduceCtorEq, Nat.reduceAdd, Nat.reduceMul, Nat.reduceEqDiff, Nat.reduceLT, Nat.reduceLeDiff, Nat.reduceSub, Nat.reducePow, Nat.reduceBEq, Int.reduceToNat, List.reduceReplicate]) ?_ ?_
  · intro hb
    try simp only [hB, decide_eq_true_eq, decide_eq_false_iff_not] at hb
    obtain ⟨e, he⟩ := getI (l := E) (j := j) (by omega)
    have hge := getV (f := pairV) he
    have hes := hE e (List.mem_of_getElem? he)
    have hme := hmk.2 e hes
    have hms := markedE_succ hmk hes
    have hes2 := hes
    unfold smallE at hes2
    have hts : E.take (j + 1) = E.take j ++ [e] := by rw [List.take_add_one, he]; rfl
    have hgZ := bools_getD (l := Z) (i := (idxE e).toNat) (by rw [hZl]; unfold idxE; omega)
    have huZ := bools_upd Z (idxE e).toNat true
    unfold idxE at hgZ huZ hms hme
    rw [hme] at hgZ
    refine AW.skip ?_
    refine hK5 _ _ _ ?_; clear hK5
    refine AW.seq fun K7 hK7 => ?_
    refine AW.block ?_
    refine AW.seq fun K8 hK8 => ?_
    -- region 5
    refine AW.regionD mixed 0 (fun _ => none) [0, 3, 4, 5] [6] ?_
    simp only [go_sem, reduceIte, reduceCtorEq, Nat.reduceAdd, Nat.reduceMul, Nat.reduceEqDiff, Nat.reduceLT, Nat.reduceLeDiff, Nat.reduceSub, Nat.reducePow, Nat.reduceBEq, Int.reduceToNat, List.reduceReplicate, hge, pairV]
    repeat with_reducible refine cj ?_ ?_
    all_goals try first | omega | exact chk (by kernel_rfl)
    refine hK8 _ _ _ ?_; clear hK8
    refine AW.seq fun K9 hK9 => ?_
    refine AW.seq fun K10 hK10 => ?_
    -- region 6
    refine AW.regionK 0 (fun _ => none) [0, 3, 4, 5, 28] [6] ?_
    simp only [go_sem, reduceIte, reduceCtorEq, Nat.reduceAdd, Nat.reduceMul, Nat.reduceEqDiff, Nat.reduceLT, Nat.reduceLeDiff, Nat.reduceSub, Nat.reducePow, Nat.reduceBEq, Int.reduceToNat, List.reduceReplicate, bools_len, hZl, hgZ]
    repeat with_reducible refine cj ?_ ?_
    all_goals try first | omega
    refine hK10 _ _ _ ?_; clear hK10
    -- cond 2
    refine AW.cond rfl (by simp only [go_sem, reduceIte, reduceCtorEq, Nat.reduceAdd, Nat.reduceMul, Nat.reduceEqDiff, Nat.reduceLT, Nat.reduceLeDiff, Nat.reduceSub, Nat.reducePow, Nat.reduceBEq, Int.reduceToNat, List.reduceReplicate]) ?_ ?_
    · intro hb
      try simp only [hB, decide_eq_true_eq, decide_eq_false_iff_not] at hb
      refine AW.seq fun K11 hK11 => ?_
      -- region 7
      refine AW.regionK 0 (fun _ => none) [2] [] ?_
      simp only [go_sem, reduceIte, reduceCtorEq, Nat.reduceAdd, Nat.reduceMul, Nat.reduceEqDiff, Nat.reduceLT, Nat.reduceLeDiff, Nat.reduceSub, Nat.reducePow, Nat.reduceBEq, Int.reduceToNat, List.reduceReplicate]
      repeat with_reducible refine cj ?_ ?_
      all_goals try first | omega
      refine hK11 _ _ _ ?_; clear hK11
      refine AW.ret ?_
      rw [← hQl1]
      rw [← hQr]
      simp only [go_sem, reduceIte, reduceCtorEq, Nat.reduceAdd, Nat.reduceMul, Nat.reduceEqDiff, Nat.reduceLT, Nat.reduceLeDiff, Nat.reduceSub, Nat.reducePow, Nat.reduceBEq, Int.reduceToNat, List.reduceReplicate]
      exact Wk.of_eq (by have := not_nodup he hb; simp [this])
    · intro hb
      try simp only [hB, decide_eq_true_eq, decide_eq_false_iff_not] at hb
      refine AW.skip ?_
      refine hK9 _ _ _ ?_; clear hK9
      -- region 8
      refine AW.regionK 0 (fun _ => none) [0, 3, 4] [6] ?_
      simp only [go_sem, reduceIte, reduceCtorEq, Nat.reduceAdd, Nat.reduceMul, Nat.reduceEqDiff, Nat.reduceLT, Nat.reduceLeDiff, Nat.reduceSub, Nat.reducePow, Nat.reduceBEq, Int.reduceToNat, List.reduceReplicate, bools_len, hZl, huZ]
      repeat with_reducible refine cj ?_ ?_
      all_goals try first | omega
      refine hK7 _ _ _ ?_; clear hK7
      -- region 4
      refine AW.regionK 0 (fun _ => none) [0, 3, 4] [6] ?_
      simp only [go_sem, reduceIte, reduceCtorEq, Nat.reduceAdd, Nat.reduceMul, Nat.reduceEqDiff, Nat.reduceLT, Nat.reduceLeDiff, Nat.reduceSub, Nat.reducePow, Nat.reduceBEq, Int.reduceToNat, List.reduceReplicate]
      repeat with_reducible refine cj ?_ ?_
      all_goals try first | omega
      rw [← hQl1]
      change Exists _
      refine ⟨_, ?hm, j + 1, ?_, ?_, ?_, rfl, ?henv, ?hstore, ?hst⟩
      case henv =>
        repeat' (first | rfl | refine env_cons ?_ ?_ | refine st_cons ?_ ?_ ?_ ?_ | refine int_eq ?_ | refine bool_eq ?_ | refine rsl_eq ?_ | refine osl_eq ?_ | refine sl_eq ?_ ?_ ?_ | refine ptr_eq ?_ ?_ ?_ | refine agg_eq ?_ | refine es_cons ?_ ?_ | refine row_cons ?_ ?_)
        all_goals (first | (simp; done) | omega | (simp; omega))
      case hstore =>
        repeat' (first | rfl | refine env_cons ?_ ?_ | refine st_cons ?_ ?_ ?_ ?_ | refine int_eq ?_ | refine bool_eq ?_ | refine rsl_eq ?_ | refine osl_eq ?_ | refine sl_eq ?_ ?_ ?_ | refine ptr_eq ?_ ?_ ?_ | refine agg_eq ?_ | refine es_cons ?_ ?_ | refine row_cons ?_ ?_)
        all_goals (first | (simp; done) | omega | (simp; omega))
      case hst =>
        exact ⟨by omega, by rw [hts]; exact nodup_snoc hnd hb, by rw [hts]; exact hms⟩
      case hm => omega
  · intro hb
    try simp only [hB, decide_eq_true_eq, decide_eq_false_iff_not] at hb
    have hj2 : j = E.length := by omega
    rw [hj2, List.take_length] at hnd
    refine AW.keep [] [] ?_
    try simp only [go_sem, reduceIte, reduceCtorEq, Nat.reduceAdd, Nat.reduceMul, Nat.reduceEqDiff, Nat.reduceLT, Nat.reduceLeDiff, Nat.reduceSub, Nat.reducePow, Nat.reduceBEq, Int.reduceToNat, List.reduceReplicate]
    refine AW.exit ?_
    rw [← hQl1]
    refine hK3 _ _ _ ?_; clear hK3
    refine AW.seq fun K12 hK12 => ?_
    -- region 9
    refine AW.regionK 0 (fun _ => none) [2] [] ?_
    simp only [go_sem, reduceIte, reduceCtorEq, Nat.reduceAdd, Nat.reduceMul, Nat.reduceEqDiff, Nat.reduceLT, Nat.reduceLeDiff, Nat.reduceSub, Nat.reducePow, Nat.reduceBEq, Int.reduceToNat, List.reduceReplicate]
    repeat with_reducible refine cj ?_ ?_
    all_goals try first | omega
    refine hK12 _ _ _ ?_; clear hK12
    refine AW.ret ?_
    rw [← hQr]
    simp only [go_sem, reduceIte, reduceCtorEq, Nat.reduceAdd, Nat.reduceMul, Nat.reduceEqDiff, Nat.reduceLT, Nat.reduceLeDiff, Nat.reduceSub, Nat.reducePow, Nat.reduceBEq, Int.reduceToNat, List.reduceReplicate]
    exact Wk.of_eq (by simp [hnd])
end Go.Proofs.M

namespace Go.Proofs.M
open Go.AM Go
set_option maxRecDepth 100000
set_option maxHeartbeats 2000000
theorem rvalid_r (n m : Int) (E : List (Int × Int)) (hl : E.length ≤ 9223372036854775807) : Reads Try.prog 13 false [.int .i64 n, .int .i64 m, .rsl 2 (E.map pairV)] (.bool (validM n m E)) := by
  refine Reads.body (rs := [.tmp 6]) Try.func13 rfl Try.ntmps13 rfl (by simp) ?_
  generalize hQr : retQ _ _ _ = Qr
  refine AW.seq fun K1 hK1 => ?_
  -- region 0
  refine AW.regionK 0 (fun _ => none) [0, 1, 2] [] ?_
  simp only [go_sem, reduceIte, reduceCtorEq, Nat.reduceAdd, Nat.reduceMul, Nat.reduceEqDiff, Nat.reduceLT, Nat.reduceLeDiff, Nat.reduceSub, Nat.reducePow, Nat.reduceBEq, Int.reduceToNat, List.reduceReplicate]
  repeat with_reducible refine cj ?_ ?_
  all_goals try first | omega
  refine hK1 _ _ _ ?_; clear hK1
  refine AW.seq fun K2 hK2 => ?_
  refine AW.seq fun K3 hK3 => ?_
  -- region 1
  refine AW.regionK 0 (fun _ => none) [0, 1, 2, 26] [] ?_
  simp only [go_sem, reduceIte, reduceCtorEq, Nat.reduceAdd, Nat.reduceMul, Nat.reduceEqDiff, Nat.reduceLT, Nat.reduceLeDiff, Nat.reduceSub, Nat.reducePow, Nat.reduceBEq, Int.reduceToNat, List.reduceReplicate]
  repeat with_reducible refine cj ?_ ?_
  all_goals try first | omega | (intros; (repeat' apply And.intro) <;> first | assumption | omega | decide) | (intro hgd; exact absurd hgd (by decide)) | rfl | (simp only [go_sem, reduceIte, reduceCtorEq, Nat.reduceAdd, Nat.reduceMul, Nat.reduceEqDiff, Nat.reduceLT, Nat.reduceLeDiff, Nat.reduceSub, Nat.reducePow, Nat.reduceBEq, Int.reduceToNat, List.reduceReplicate]; done) | (intro _hgd; simp_all [go_sem]; done)
  refine hK3 _ _ _ ?_; clear hK3
  -- cond 1
  refine AW.cond rfl (by simp only [go_sem, reduceIte, reduceCtorEq, Nat.reduceAdd, Nat.reduceMul, Nat.reduceEqDiff, Nat.reduceLT, Nat.reduceLeDiff, Nat.reduceSub, Nat.reducePow, Nat.reduceBEq, Int.reduceToNat, List.reduceReplicate]) ?_ ?_
  · intro hb
    try simp only [hB, decide_eq_true_eq, decide_eq_false_iff_not] at hb
    refine AW.seq fun K4 hK4 => ?_
    -- region 2
    refine AW.regionK 0 (fun _ => none) [6] [] ?_
    simp only [go_sem, reduceIte, reduceCtorEq, Nat.reduceAdd, Nat.reduceMul, Nat.reduceEqDiff, Nat.reduceLT, Nat.reduceLeDiff, Nat.reduceSub, Nat.reducePow, Nat.reduceBEq, Int.reduceToNat, List.reduceReplicate]
    repeat with_reducible refine cj ?_ ?_
    all_goals try first | omega
    refine hK4 _ _ _ ?_; clear hK4
    refine AW.ret ?_
    rw [← hQr]
    simp only [go_sem, reduceIte, reduceCtorEq, Nat.reduceAdd, Nat.reduceMul, Nat.reduceEqDiff, Nat.reduceLT, Nat.reduceLeDiff, Nat.reduceSub, Nat.reducePow, Nat.reduceBEq, Int.reduceToNat, List.reduceReplicate]
    have hsz : sizesM n m E = false := by simp only [sizesM, hB.2.2.2.2.1, decide_eq_false_iff_not]; omega
    exact Wk.of_eq (by rw [validM, hsz]; rfl)
  · intro hb
    try simp only [hB, decide_eq_true_eq, decide_eq_false_iff_not] at hb
    have hsz : sizesM n m E = true := by simp only [sizesM, hB.2.1, decide_eq_true_eq]; omega
    obtain ⟨⟨⟨⟨q1, q2⟩, q3⟩, q4⟩, q5⟩ := hb
    refine AW.skip ?_
    refine hK2 _ _ _ ?_; clear hK2
    refine AW.seq fun K5 hK5 => ?_
    refine AW.seq fun K6 hK6 => ?_
    -- region 3
    refine AW.regionK 0 (fun _ => none) [0, 1, 2, 7] [] ?_
    simp only [go_sem, reduceIte, reduceCtorEq, Nat.reduceAdd, Nat.reduceMul, Nat.reduceEqDiff, Nat.reduceLT, Nat.reduceLeDiff, Nat.reduceSub, Nat.reducePow, Nat.reduceBEq, Int.reduceToNat, List.reduceReplicate]
    repeat with_reducible refine cj ?_ ?_
    all_goals try first | omega
    refine hK6 _ _ _ ?_; clear hK6
    refine AW.block ?_
    -- loop 1
    refine AW.loopE (fun mm ee ss kk => ∃ (j : Nat), E.length - j = mm ∧ ee = [(0, .int .i64 n), (1, .int .i64 m), (2, .rsl 2 (E.map pairV)), (7, .int .i64 (j : Nat))] ∧ ss = [] ∧ (j ≤ E.length ∧ ∀ e ∈ E.take j, edgeIn n m e = true)) ?_ ?_
    · refine ⟨_, 0, rfl, ?henv, ?hstore, ?hst⟩
      case henv =>
        repeat' (first | rfl | refine env_cons ?_ ?_ | refine st_cons ?_ ?_ ?_ ?_ | refine int_eq ?_ | refine bool_eq ?_ | refine rsl_eq ?_ | refine osl_eq ?_ | refine sl_eq ?_ ?_ ?_ | refine ptr_eq ?_ ?_ ?_ | refine agg_eq ?_ | refine es_cons ?_ ?_ | refine row_cons ?_ ?_)
        all_goals (first | (simp; done) | omega | (simp; omega))
      case hstore =>
        repeat' (first | rfl | refine env_cons ?_ ?_ | refine st_cons ?_ ?_ ?_ ?_ | refine int_eq ?_ | refine bool_eq ?_ | refine rsl_eq ?_ | refine osl_eq ?_ | refine sl_eq ?_ ?_ ?_ | refine ptr_eq ?_ ?_ ?_ | refine agg_eq ?_ | refine es_cons ?_ ?_ | refine row_cons ?_ ?_)
        all_goals (first | (simp; done) | omega | (simp; omega))
      case hst =>
        exact ⟨by omega, by simp⟩
    rintro mm ee ss kk ⟨j, rfl, rfl, rfl, hI⟩
    generalize hQl1 : thenQ _ _ = Ql1
    obtain ⟨hj, hall⟩ := hI
    refine AW.seq fun K7 hK7 => ?_
    refine AW.seq fun K8 hK8 => ?_
    -- region 4
    refine AW.regionK 0 (fun _ => none) [0, 1, 2, 7, 30] [] ?_
    simp only [go_sem, reduceIte, reduceCtorEq, Nat.reduceAdd, Nat.reduceMul, Nat.reduceEqDiff, Nat.reduceLT, Nat.reduceLeDiff, Nat.reduceSub, Nat.reducePow, Nat.reduceBEq, Int.reduceToNat, List.reduceReplicate]
    repeat with_reducible refine cj ?_ ?_
    all_goals try first | omega
    refine hK8 _ _ _ ?_; clear hK8
    -- cond 2
    refine AW.cond rfl (by simp only [go_sem, reduceIte, reduceCtorEq, Nat.reduceAdd, Nat.reduceMul, Nat.reduceEqDiff, Nat.reduceLT, Nat.reduceLeDiff, Nat.reduceSub, Nat.reducePow, Nat.reduceBEq, Int.reduceToNat, List.reduceReplicate]) ?_ ?_
    · intro hb
      try simp only [hB, decide_eq_true_eq, decide_eq_false_iff_not] at hb
      obtain ⟨e, he⟩ := getI (l := E) (j := j) (by omega)
      have hge := getV (f := pairV) he
      have hts : E.take (j + 1) = E.take j ++ [e] := by rw [List.take_add_one, he]; rfl
      refine AW.skip ?_
      refine hK7 _ _ _ ?_; clear hK7
      refine AW.seq fun K9 hK9 => ?_
      refine AW.block ?_
      refine AW.seq fun K10 hK10 => ?_
      -- region 6
      refine AW.regionK 0 (fun _ => none) [0, 1, 2, 7, 64] [] ?_
      simp only [go_sem, reduceIte, reduceCtorEq, Nat.reduceAdd, Nat.reduceMul, Nat.reduceEqDiff, Nat.reduceLT, Nat.reduceLeDiff, Nat.reduceSub, Nat.reducePow, Nat.reduceBEq, Int.reduceToNat, List.reduceReplicate, hge, pairV]
      repeat with_reducible refine cj ?_ ?_
      all_goals try first | omega | (intros; (repeat' apply And.intro) <;> first | assumption | omega | decide) | (intro hgd; exact absurd hgd (by decide)) | rfl | (simp only [go_sem, reduceIte, reduceCtorEq, Nat.reduceAdd, Nat.reduceMul, Nat.reduceEqDiff, Nat.reduceLT, Nat.reduceLeDiff, Nat.reduceSub, Nat.reducePow, Nat.reduceBEq, Int.reduceToNat, List.reduceReplicate, hge, pairV]; done) | (intro _hgd; simp_all [go_sem]; done)
      refine hK10 _ _ _ ?_; clear hK10
      -- cond 3
      refine AW.cond rfl (by simp only [go_sem, reduceIte, reduceCtorEq, Nat.reduceAdd, Nat.reduceMul, Nat.reduceEqDiff, Nat.reduceLT, Nat.reduceLeDiff, Nat.reduceSub, Nat.reducePow, Nat.reduceBEq, Int.reduceToNat, List.reduceReplicate]) ?_ ?_
      · intro hb
        try simp only [hB, decide_eq_true_eq, decide_eq_false_iff_not] at hb
        refine AW.seq fun K11 hK11 => ?_
        -- region 7
        refine AW.regionK 0 (fun _ => none) [6] [] ?_
        simp only [go_sem, reduceIte, reduceCtorEq, Nat.reduceAdd, Nat.reduceMul, Nat.reduceEqDiff, Nat.reduceLT, Nat.reduceLeDiff, Nat.reduceSub, Nat.reducePow, Nat.reduceBEq, Int.reduceToNat, List.reduceReplicate]
        repeat with_reducible refine cj ?_ ?_
        all_goals try first | omega
        refine hK11 _ _ _ ?_; clear hK11
        refine AW.ret ?_
        rw [← hQl1]
        rw [← hQr]
        simp only [go_sem, reduceIte, reduceCtorEq, Nat.reduceAdd, Nat.reduceMul, Nat.reduceEqDiff, Nat.reduceLT, Nat.reduceLeDiff, Nat.reduceSub, Nat.reducePow, Nat.reduceBEq, Int.reduceToNat, List.reduceReplicate]
        exact Wk.of_eq (by rw [good_bad he (.inl (edgeIn_false (by omega)))])
      · intro hb
        try simp only [hB, decide_eq_true_eq, decide_eq_false_iff_not] at hb
        have hei := edgeIn_iff (n := n) (m := m) (e := e)
        refine AW.skip ?_
        refine hK9 _ _ _ ?_; clear hK9
        -- region 5
        refine AW.regionK 0 (fun _ => none) [0, 1, 2, 7] [] ?_
        simp only [go_sem, reduceIte, reduceCtorEq, Nat.reduceAdd, Nat.reduceMul, Nat.reduceEqDiff, Nat.reduceLT, Nat.reduceLeDiff, Nat.reduceSub, Nat.reducePow, Nat.reduceBEq, Int.reduceToNat, List.reduceReplicate]
        repeat with_reducible refine cj ?_ ?_
        all_goals try first | omega
        rw [← hQl1]
        change Exists _
        refine ⟨_, ?hm, j + 1, rfl, ?henv, ?hstore, ?hst⟩
        case henv =>
          repeat' (first | rfl | refine env_cons ?_ ?_ | refine st_cons ?_ ?_ ?_ ?_ | refine int_eq ?_ | refine bool_eq ?_ | refine rsl_eq ?_ | refine osl_eq ?_ | refine sl_eq ?_ ?_ ?_ | refine ptr_eq ?_ ?_ ?_ | refine agg_eq ?_ | refine es_cons ?_ ?_ | refine row_cons ?_ ?_)
          all_goals (first | (simp; done) | omega | (simp; omega))
        case hstore =>
          repeat' (first | rfl | refine env_cons ?_ ?_ | refine st_cons ?_ ?_ ?_ ?_ | refine int_eq ?_ | refine bool_eq ?_ | refine rsl_eq ?_ | refine osl_eq ?_ | refine sl_eq ?_ ?_ ?_ | refine ptr_eq ?_ ?_ ?_ | refine agg_eq ?_ | refine es_cons ?_ ?_ | refine row_cons ?_ ?_)
          all_goals (first | (simp; done) | omega | (simp; omega))
        case hst =>
          exact ⟨by omega, fun x hx => by rw [hts] at hx; rcases List.mem_append.1 hx with h1 | h1; exact hall x h1; simp only [List.mem_singleton] at h1; subst h1; exact hei.2 (by omega)⟩
        case hm => omega
    · intro hb
      try simp only [hB, decide_eq_true_eq, decide_eq_false_iff_not] at hb
      have hj2 : j = E.length := by omega
      rw [hj2, List.take_length] at hall
      have htw := twice_r (E := E) (fun e he => by have := edgeIn_iff.1 (hall e he); unfold smallE; omega) hl
      have hva : E.all (edgeIn n m) = true := List.all_eq_true.2 hall
      refine AW.keep [2] [] ?_
      try simp only [go_sem, reduceIte, reduceCtorEq, Nat.reduceAdd, Nat.reduceMul, Nat.reduceEqDiff, Nat.reduceLT, Nat.reduceLeDiff, Nat.reduceSub, Nat.reducePow, Nat.reduceBEq, Int.reduceToNat, List.reduceReplicate]
      refine AW.exit ?_
      rw [← hQl1]
      refine hK5 _ _ _ ?_; clear hK5
      refine AW.seq fun K12 hK12 => ?_
      -- region 8
      refine AW.regionK 0 (fun ii => if ii = 1 then some (.reads false (.bool (!decide E.Nodup))) else none) [6] [] ?_
      simp only [go_sem, reduceIte, reduceCtorEq, Nat.reduceAdd, Nat.reduceMul, Nat.reduceEqDiff, Nat.reduceLT, Nat.reduceLeDiff, Nat.reduceSub, Nat.reducePow, Nat.reduceBEq, Int.reduceToNat, List.reduceReplicate]
      repeat with_reducible refine cj ?_ ?_
      all_goals try first | (exact htw) | omega | exact ent (by kernel_rfl)
      refine hK12 _ _ _ ?_; clear hK12
      refine AW.ret ?_
      rw [← hQr]
      simp only [go_sem, reduceIte, reduceCtorEq, Nat.reduceAdd, Nat.reduceMul, Nat.reduceEqDiff, Nat.reduceLT, Nat.reduceLeDiff, Nat.reduceSub, Nat.reducePow, Nat.reduceBEq, Int.reduceToNat, List.reduceReplicate]
      exact Wk.of_eq (by rw [validM, hsz, hva]; simp)
end Go.Proofs.M

namespace Go.Proofs.M
open Go.AM Go
set_option maxRecDepth 100000
set_option maxHeartbeats 2000000
theorem pair_dec (a b : Int × Int) : (decide (a.1 = b.1) && decide (a.2 = b.2)) = decide (a = b) := by
  obtain ⟨a1, a2⟩ := a; obtain ⟨b1, b2⟩ := b
  simp only [Prod.mk.injEq, Bool.decide_and]
theorem has_r (E : List (Int × Int)) (x : Int × Int) (hl : E.length ≤ 9223372036854775807) : Reads Try.prog 37 false [.rsl 2 (E.map pairV), .agg (pairV x)] (.bool (decide (x ∈ E))) := by
  unfold pairV
  have hpv : (fun p : Int × Int => [AV.int .i64 p.1, AV.int .i64 p.2]) = pairV := rfl
  refine Reads.body (rs := [.tmp 4]) Try.func37 rfl Try.ntmps37 rfl (by simp) ?_
  generalize hQr : retQ _ _ _ = Qr
  refine AW.seq fun K1 hK1 => ?_
  -- region 0
  refine AW.regionK 0 (fun _ => none) [0, 3] [3] ?_
  simp only [go_sem, reduceIte, reduceCtorEq, Nat.reduceAdd, Nat.reduceMul, Nat.reduceEqDiff, Nat.reduceLT, Nat.reduceLeDiff, Nat.reduceSub, Nat.reducePow, Nat.reduceBEq, Int.reduceToNat, List.reduceReplicate, hpv]
  repeat with_reducible refine cj ?_ ?_
  all_goals try first | omega
  refine hK1 _ _ _ ?_; clear hK1
  refine AW.seq fun K2 hK2 => ?_
  refine AW.seq fun K3 hK3 => ?_
  -- region 1
  refine AW.regionK 0 (fun _ => none) [0, 3, 5] [3] ?_
  simp only [go_sem, reduceIte, reduceCtorEq, Nat.reduceAdd, Nat.reduceMul, Nat.reduceEqDiff, Nat.reduceLT, Nat.reduceLeDiff, Nat.reduceSub, Nat.reducePow, Nat.reduceBEq, Int.reduceToNat, List.reduceReplicate, hpv]
  repeat with_reducible refine cj ?_ ?_
  all_goals try first | omega
  refine hK3 _ _ _ ?_; clear hK3
  refine AW.block ?_
  -- loop 1
  refine AW.loopE (fun mm ee ss kk => ∃ (j g v : Nat), E.length - j = mm ∧ ee = [(0, .rsl 2 (E.map pairV)), (3, .ptr ⟨3, g, none⟩ 0 0), (5, .int .i64 (j : Nat))] ∧ ss = [(3, some ⟨g, v, 2, [[.int .i64 x.1, .int .i64 x.2]]⟩)] ∧ (j ≤ E.length ∧ x ∉ E.take j)) ?_ ?_
  · refine ⟨_, 0, ?_, ?_, rfl, ?henv, ?hstore, ?hst⟩
    case henv =>
      repeat' (first | rfl | refine env_cons ?_ ?_ | refine st_cons ?_ ?_ ?_ ?_ | refine int_eq ?_ | refine bool_eq ?_ | refine rsl_eq ?_ | refine osl_eq ?_ | refine sl_eq ?_ ?_ ?_ | refine ptr_eq ?_ ?_ ?_ | refine agg_eq ?_ | refine es_cons ?_ ?_ | refine row_cons ?_ ?_)
      all_goals (first | (simp; done) | omega | (simp; omega))
    case hstore =>
      repeat' (first | rfl | refine env_cons ?_ ?_ | refine st_cons ?_ ?_ ?_ ?_ | refine int_eq ?_ | refine bool_eq ?_ | refine rsl_eq ?_ | refine osl_eq ?_ | refine sl_eq ?_ ?_ ?_ | refine ptr_eq ?_ ?_ ?_ | refine agg_eq ?_ | refine es_cons ?_ ?_ | refine row_cons ?_ ?_)
      all_goals (first | (simp; done) | omega | (simp; omega))
    case hst =>
      exact ⟨by omega, by simp⟩
  rintro mm ee ss kk ⟨j, g, v, rfl, rfl, rfl, hI⟩
  generalize hQl1 : thenQ _ _ = Ql1
  obtain ⟨hj, hno⟩ := hI
  refine AW.seq fun K4 hK4 => ?_
  refine AW.seq fun K5 hK5 => ?_
  -- region 2
  refine AW.regionK 0 (fun _ => none) [0, 3, 5, 9] [3] ?_
  simp only [go_sem, reduceIte, reduceCtorEq, Nat.reduceAdd, Nat.reduceMul, Nat.reduceEqDiff, Nat.reduceLT, Nat.reduceLeDiff, Nat.reduceSub, Nat.reducePow, Nat.reduceBEq, Int.reduceToNat, List.reduceReplicate, hpv]
  repeat with_reducible refine cj ?_ ?_
  all_goals try first | omega
  refine hK5 _ _ _ ?_; clear hK5
  -- cond 1
  refine AW.cond rfl (by simp only [go_sem, reduceIte, reduceCtorEq, Nat.reduceAdd, Nat.reduceMul, Nat.reduceEqDiff, Nat.reduceLT, Nat.reduceLeDiff, Nat.reduceSub, Nat.reducePow, Nat.reduceBEq, Int.reduceToNat, List.reduceReplicate]) ?_ ?_
  · intro hb
    try simp only [hB, decide_eq_true_eq, decide_eq_false_iff_not] at hb
    obtain ⟨e, he⟩ := getI (l := E) (j := j) (by omega)
    have hge := getV (f := pairV) he
    have hts : E.take (j + 1) = E.take j ++ [e] := by rw [List.take_add_one, he]; rfl
    have hpd := pair_dec e x
    refine AW.skip ?_
    refine hK4 _ _ _ ?_; clear hK4
    refine AW.seq fun K6 hK6 => ?_
    refine AW.block ?_
    refine AW.seq fun K7 hK7 => ?_
    -- region 4
    refine AW.regionD mixed 0 (fun _ => none) [0, 3, 5, 17] [3] ?_
    simp only [go_sem, reduceIte, reduceCtorEq, Nat.reduceAdd, Nat.reduceMul, Nat.reduceEqDiff, Nat.reduceLT, Nat.reduceLeDiff, Nat.reduceSub, Nat.reducePow, Nat.reduceBEq, Int.reduceToNat, List.reduceReplicate, hpv, hge, pairV, hpd]
    repeat with_reducible refine cj ?_ ?_
    all_goals try first | omega | exact chk (by kernel_rfl)
    refine hK7 _ _ _ ?_; clear hK7
    -- cond 2
    refine AW.cond rfl (by simp only [go_sem, reduceIte, reduceCtorEq, Nat.reduceAdd, Nat.reduceMul, Nat.reduceEqDiff, Nat.reduceLT, Nat.reduceLeDiff, Nat.reduceSub, Nat.reducePow, Nat.reduceBEq, Int.reduceToNat, List.reduceReplicate]) ?_ ?_
    · intro hb
      try simp only [hB, decide_eq_true_eq, decide_eq_false_iff_not] at hb
      refine AW.seq fun K8 hK8 => ?_
      -- region 5
      refine AW.regionK 0 (fun _ => none) [4] [] ?_
      simp only [go_sem, reduceIte, reduceCtorEq, Nat.reduceAdd, Nat.reduceMul, Nat.reduceEqDiff, Nat.reduceLT, Nat.reduceLeDiff, Nat.reduceSub, Nat.reducePow, Nat.reduceBEq, Int.reduceToNat, List.reduceReplicate, hpv]
      repeat with_reducible refine cj ?_ ?_
      all_goals try first | omega
      refine hK8 _ _ _ ?_; clear hK8
      refine AW.ret ?_
      rw [← hQl1]
      rw [← hQr]
      simp only [go_sem, reduceIte, reduceCtorEq, Nat.reduceAdd, Nat.reduceMul, Nat.reduceEqDiff, Nat.reduceLT, Nat.reduceLeDiff, Nat.reduceSub, Nat.reducePow, Nat.reduceBEq, Int.reduceToNat, List.reduceReplicate, hpv]
      exact Wk.of_eq (by subst hb; simp [List.mem_of_getElem? he])
    · intro hb
      try simp only [hB, decide_eq_true_eq, decide_eq_false_iff_not] at hb
      refine AW.skip ?_
      refine hK6 _ _ _ ?_; clear hK6
      -- region 3
      refine AW.regionK 0 (fun _ => none) [0, 3, 5] [3] ?_
      simp only [go_sem, reduceIte, reduceCtorEq, Nat.reduceAdd, Nat.reduceMul, Nat.reduceEqDiff, Nat.reduceLT, Nat.reduceLeDiff, Nat.reduceSub, Nat.reducePow, Nat.reduceBEq, Int.reduceToNat, List.reduceReplicate, hpv]
      repeat with_reducible refine cj ?_ ?_
      all_goals try first | omega
      rw [← hQl1]
      change Exists _
      refine ⟨_, ?hm, j + 1, ?_, ?_, rfl, ?henv, ?hstore, ?hst⟩
      case henv =>
        repeat' (first | rfl | refine env_cons ?_ ?_ | refine st_cons ?_ ?_ ?_ ?_ | refine int_eq ?_ | refine bool_eq ?_ | refine rsl_eq ?_ | refine osl_eq ?_ | refine sl_eq ?_ ?_ ?_ | refine ptr_eq ?_ ?_ ?_ | refine agg_eq ?_ | refine es_cons ?_ ?_ | refine row_cons ?_ ?_)
        all_goals (first | (simp; done) | omega | (simp; omega))
      case hstore =>
        repeat' (first | rfl | refine env_cons ?_ ?_ | refine st_cons ?_ ?_ ?_ ?_ | refine int_eq ?_ | refine bool_eq ?_ | refine rsl_eq ?_ | refine osl_eq ?_ | refine sl_eq ?_ ?_ ?_ | refine ptr_eq ?_ ?_ ?_ | refine agg_eq ?_ | refine es_cons ?_ ?_ | refine row_cons ?_ ?_)
        all_goals (first | (simp; done) | omega | (simp; omega))
      case hst =>
        exact ⟨by omega, by rw [hts]; intro hx; rcases List.mem_append.1 hx with h1 | h1; exact hno h1; simp only [List.mem_singleton] at h1; exact hb h1.symm⟩
      case hm => omega
  · intro hb
    try simp only [hB, decide_eq_true_eq, decide_eq_false_iff_not] at hb
    have hj2 : j = E.length := by omega
    rw [hj2, List.take_length] at hno
    refine AW.keep [] [] ?_
    try simp only [go_sem, reduceIte, reduceCtorEq, Nat.reduceAdd, Nat.reduceMul, Nat.reduceEqDiff, Nat.reduceLT, Nat.reduceLeDiff, Nat.reduceSub, Nat.reducePow, Nat.reduceBEq, Int.reduceToNat, List.reduceReplicate]
    refine AW.exit ?_
    rw [← hQl1]
    refine hK2 _ _ _ ?_; clear hK2
    refine AW.seq fun K9 hK9 => ?_
    -- region 6
    refine AW.regionK 0 (fun _ => none) [4] [] ?_
    simp only [go_sem, reduceIte, reduceCtorEq, Nat.reduceAdd, Nat.reduceMul, Nat.reduceEqDiff, Nat.reduceLT, Nat.reduceLeDiff, Nat.reduceSub, Nat.reducePow, Nat.reduceBEq, Int.reduceToNat, List.reduceReplicate, hpv]
    repeat with_reducible refine cj ?_ ?_
    all_goals try first | omega
    refine hK9 _ _ _ ?_; clear hK9
    refine AW.ret ?_
    rw [← hQr]
    simp only [go_sem, reduceIte, reduceCtorEq, Nat.reduceAdd, Nat.reduceMul, Nat.reduceEqDiff, Nat.reduceLT, Nat.reduceLeDiff, Nat.reduceSub, Nat.reducePow, Nat.reduceBEq, Int.reduceToNat, List.reduceReplicate, hpv]
    exact Wk.of_eq (by simp [hno])
end Go.Proofs.M

