/- Lemmas and contracts, part 5: an abstract machine over the model, and the functions that the statement reaches. -/
import Derived.Test.YtjccpgehkjmacaaFlowPathsP4
import Derived.Carry
import Derived.RowKit
import Derived.OpenShut
set_option linter.unusedVariables false
set_option linter.unusedSimpArgs false
/- The greatest closure of least size, by either network. -/
namespace Go.AM
theorem near_min {n : Net} {s t : Int} {fl : List Int} {S T : Int → Bool} (hv : validB n = true) (hs0 : 0 ≤ s) (hs1 : s < n.N) (hf : IsFlow n s t fl) (hS : Near n s fl S) (hSt : S t = false) (hTs : T s = true) (hTt : T t = false) :
    capAt n.E S n.E.length ≤ capAt n.E T n.E.length ∧ (capAt n.E T n.E.length ≤ capAt n.E S n.E.length → ∀ u : Int, 0 ≤ u → u < n.N → S u = true → T u = true) := by
  have h1 := near_val hv hs0 hs1 hf hS hSt
  have h2 := value_net hv hs0 hs1 hf hTs hTt
  have h3 := net_le_cap n.E T fl hf.caps n.E.length (Nat.le_refl _)
  refine ⟨by omega, fun h => hS.least T hTs fun i hi => net_cap_sat n.E T fl hf.caps n.E.length (Nat.le_refl _) (by omega) i hi⟩
def capE (S : Int → Bool) (x : Edg) : Int := if S x.fr = true ∧ S x.to = false then x.cap else 0
def capL (S : Int → Bool) (E : List Edg) : Int := (E.map (capE S)).sum
theorem capAt_L (S : Int → Bool) (E : List Edg) : ∀ j, j ≤ E.length → capAt E S j = capL S (E.take j)
  | 0, _ => by simp [capAt, capL]
  | j + 1, hj => by
    rw [capAt, capAt_L S E j (by omega), List.take_succ_eq_append_getElem (by omega)]
    have : eAt E j = E[j]'(by omega) := eAt_of (List.getElem?_eq_getElem (by omega))
    simp only [capL, List.map_append, List.sum_append, List.map_cons, List.map_nil, List.sum_cons, List.sum_nil, Int.add_zero, capE, this]
theorem capL_app (S : Int → Bool) (a b : List Edg) : capL S (a ++ b) = capL S a + capL S b := by simp [capL]
def baseAt (ws : List Int) (S : Int → Bool) : Nat → Int
  | 0 => 0
  | j + 1 => baseAt ws S j + if 0 < ws.getD j 0 then (if S (j : Int) = false then ws.getD j 0 else 0) else (if S (j : Int) = true then 0 - ws.getD j 0 else 0)
def viol (S : Int → Bool) : List (Int × Int) → Int
  | [] => 0
  | p :: l => viol S l + if S p.1 = true ∧ S p.2 = false then 1 else 0
theorem viol_nn (S : Int → Bool) : ∀ l, 0 ≤ viol S l
  | [] => Int.le_refl _
  | p :: l => by have := viol_nn S l; simp only [viol]; split <;> omega
theorem base_nn (ws : List Int) (S : Int → Bool) : ∀ j, 0 ≤ baseAt ws S j
  | 0 => Int.le_refl _
  | j + 1 => by
    have := base_nn ws S j
    simp only [baseAt]
    repeat' split
    all_goals omega
theorem capL_w {ws : List Int} {S : Int → Bool} (h1 : S (ws.length : Int) = true) (h2 : S ((ws.length : Int) + 1) = false) : ∀ j, capL S (wEdges ws j) = baseAt ws S j
  | 0 => rfl
  | j + 1 => by
    rw [wEdges_succ, capL_app, capL_w h1 h2 j, baseAt]
    congr 1
    unfold wEdge
    generalize ws.getD j 0 = w
    by_cases a : 0 < w
    · rw [if_pos a, if_pos a]; simp [capL, capE, h1]
    · rw [if_neg a, if_neg a]
      by_cases c : w < 0
      · rw [if_pos c]; simp [capL, capE, h2]
      · rw [if_neg c]
        have : w = 0 := by omega
        subst this
        simp [capL]
theorem capL_rw {ws : List Int} {S : Int → Bool} (h1 : S (ws.length : Int) = true) (h2 : S ((ws.length : Int) + 1) = false) : ∀ j, capL S (rwEdges ws j) = baseAt ws S j
  | 0 => rfl
  | j + 1 => by
    rw [rwEdges_succ, capL_app, capL_rw h1 h2 j, baseAt]
    congr 1
    unfold rwEdge
    generalize ws.getD j 0 = w
    by_cases a : 0 < w
    · rw [if_pos a, if_pos a]; simp [capL, capE, h1]
    · rw [if_neg a, if_neg a]; simp [capL, capE, h2]
theorem capL_n (S : Int → Bool) : ∀ ns, capL S (nEdges ns) = 1125899906842624 * viol S ns
  | [] => rfl
  | p :: l => by
    have : nEdges (p :: l) = nEdge p ++ nEdges l := rfl
    rw [this, capL_app, capL_n S l, viol, Int.mul_add, Int.add_comm]
    congr 1
    unfold nEdge
    by_cases a : p.1 = p.2
    · rw [if_pos a, a]; simp [capL]
    · rw [if_neg a]; simp only [capL, capE, List.map_cons, List.map_nil, List.sum_cons, List.sum_nil, Int.add_zero]; split <;> simp
theorem capL_rn (B : Int) (S : Int → Bool) : ∀ ns, capL S (rnEdges B ns) = B * viol S ns
  | [] => by simp [rnEdges, capL, viol]
  | p :: l => by
    have : rnEdges B (p :: l) = rnEdge B p ++ rnEdges B l := rfl
    rw [this, capL_app, capL_rn B S l, viol, Int.mul_add, Int.add_comm]
    congr 1
    unfold rnEdge
    by_cases a : p.1 = p.2
    · rw [if_pos a, a]; simp [capL]
    · rw [if_neg a]; simp only [capL, capE, List.map_cons, List.map_nil, List.sum_cons, List.sum_nil, Int.add_zero]; split <;> simp
theorem cap_c {ws : List Int} {ns : List (Int × Int)} {S : Int → Bool} (h1 : S (ws.length : Int) = true) (h2 : S ((ws.length : Int) + 1) = false) : capAt (cNet ws ns).E S (cNet ws ns).E.length = baseAt ws S ws.length + 1125899906842624 * viol S ns := by
  rw [capAt_L _ _ _ (Nat.le_refl _), List.take_length]
  unfold cNet
  rw [capL_app, capL_w h1 h2, capL_n]
theorem cap_rc {ws : List Int} {ns : List (Int × Int)} {S : Int → Bool} (h1 : S (ws.length : Int) = true) (h2 : S ((ws.length : Int) + 1) = false) : capAt (rNet ws ns).E S (rNet ws ns).E.length = baseAt ws S ws.length + bigAt ws ws.length * viol S ns := by
  rw [capAt_L _ _ _ (Nat.le_refl _), List.take_length]
  unfold rNet
  rw [capL_app, capL_rw h1 h2, capL_rn]
theorem base_0 (ws : List Int) : ∀ j, j ≤ ws.length → baseAt ws (fun u => decide (u = (ws.length : Int))) j = bigAt ws j - 1
  | 0, _ => rfl
  | j + 1, hj => by
    rw [baseAt, bigAt, base_0 ws j (by omega)]
    have : ((j : Int) = (ws.length : Int)) = False := by simp; omega
    simp only [this, decide_false]
    split <;> simp <;> omega
theorem viol_0 (m : Int) : ∀ {ns : List (Int × Int)}, (∀ p ∈ ns, p.1 < m) → viol (fun u => decide (u = m)) ns = 0
  | [], _ => rfl
  | p :: l, h => by
    have h1 := h p (by simp)
    rw [viol, viol_0 m fun q hq => h q (by simp [hq]), if_neg (by rintro ⟨a, _⟩; have := of_decide_eq_true a; omega)]
    rfl
theorem closure_uniq {ws : List Int} {ns : List (Int × Int)} (hv1 : validB (cNet ws ns) = true) (hv2 : validB (rNet ws ns) = true) (hw : bigAt ws ws.length ≤ 1125899906842624) (hn : ∀ p ∈ ns, p.1 < ws.length)
    {fl gl : List Int} {S T : Int → Bool} (hf : IsFlow (cNet ws ns) ws.length (ws.length + 1) fl) (hg : IsFlow (rNet ws ns) ws.length (ws.length + 1) gl) (hS : Near (cNet ws ns) ws.length fl S) (hT : Near (rNet ws ns) ws.length gl T)
    (hSt : S (ws.length + 1) = false) (hTt : T (ws.length + 1) = false) (u : Int) (h0 : 0 ≤ u) (h1 : u < ws.length + 2) : S u = T u := by
  have hN1 : (cNet ws ns).N = ws.length + 2 := rfl
  have hN2 : (rNet ws ns).N = ws.length + 2 := rfl
  obtain ⟨Z, hZ⟩ : ∃ Z : Int → Bool, Z = fun u => decide (u = (ws.length : Int)) := ⟨_, rfl⟩
  have hZs : Z ws.length = true := by rw [hZ]; simp
  have hZt : Z (ws.length + 1) = false := by rw [hZ]; simp; omega
  have hZb : baseAt ws Z ws.length = bigAt ws ws.length - 1 := by rw [hZ]; exact base_0 ws _ (Nat.le_refl _)
  have hZv : viol Z ns = 0 := by rw [hZ]; exact viol_0 _ hn
  have a1 := near_min hv1 (by omega) (by omega) hf hS hSt hZs hZt
  have a2 := near_min hv2 (by omega) (by omega) hg hT hTt hZs hZt
  have a3 := near_min hv1 (by omega) (by omega) hf hS hSt hT.src hTt
  have a4 := near_min hv2 (by omega) (by omega) hg hT hTt hS.src hSt
  rw [cap_c hS.src hSt, cap_c hZs hZt, hZb, hZv, Int.mul_zero] at a1
  rw [cap_rc hT.src hTt, cap_rc hZs hZt, hZb, hZv, Int.mul_zero] at a2
  rw [cap_c hS.src hSt, cap_c hT.src hTt] at a3
  rw [cap_rc hT.src hTt, cap_rc hS.src hSt] at a4
  have b1 := base_nn ws S ws.length
  have b2 := base_nn ws T ws.length
  have c1 := viol_nn S ns
  have c2 := viol_nn T ns
  have v1 : viol S ns = 0 := by
    have := a1.1
    omega
  have v2 : viol T ns = 0 := by
    have := a2.1
    rcases Int.lt_or_le 0 (viol T ns) with h | h
    · have hb : 0 ≤ bigAt ws ws.length := by
        rcases Int.lt_or_le (bigAt ws ws.length) 0 with hh | hh
        · have := base_nn ws Z ws.length; omega
        · exact hh
      have : bigAt ws ws.length * 1 ≤ bigAt ws ws.length * viol T ns := Int.mul_le_mul_of_nonneg_left (by omega) hb
      omega
    · omega
  rw [v1, v2] at a3 a4
  simp only [Int.mul_zero, Int.add_zero] at a3 a4
  have e1 := a3.2 (by have := a4.1; omega) u h0 (by omega)
  have e2 := a4.2 (by have := a3.1; omega) u h0 (by omega)
  cases hu : S u <;> cases hw : T u <;> simp_all
theorem wEdge_ok {ws : List Int} {j : Nat} (hj : j < ws.length) (hw : ∀ w ∈ ws, -1073741824 ≤ w ∧ w ≤ 1073741824) : edgeOk (ws.length + 2) (rwEdge ws.length j (ws.getD j 0)) = true ∧ ∀ x ∈ wEdge ws.length j (ws.getD j 0), edgeOk (ws.length + 2) x = true := by
  have h := hw (ws.getD j 0) (mem_getD hj 0)
  generalize ws.getD j 0 = w at *
  constructor
  · unfold rwEdge
    split <;> simp [edgeOk] <;> omega
  · intro x hx
    unfold wEdge at hx
    split at hx
    · simp at hx; subst hx; simp [edgeOk]; omega
    · split at hx
      · simp at hx; subst hx; simp [edgeOk]; omega
      · simp at hx
theorem nEdge_ok {m : Nat} {B : Int} (h0 : 0 ≤ B) (hB : B ≤ 1125899906842624) {ns : List (Int × Int)} (hn : ∀ p ∈ ns, 0 ≤ p.1 ∧ p.1 < m ∧ 0 ≤ p.2 ∧ p.2 < m) : ∀ x ∈ rnEdges B ns, edgeOk (m + 2) x = true := by
  intro x hx
  unfold rnEdges at hx
  obtain ⟨p, hp, hx⟩ := List.mem_flatMap.1 hx
  have := hn p hp
  unfold rnEdge at hx
  split at hx
  · simp at hx
  · simp at hx; subst hx; simp [edgeOk]; omega
theorem nEdges_eq (ns : List (Int × Int)) : nEdges ns = rnEdges 1125899906842624 ns := rfl
theorem validB_of {n : Net} (h1 : 1 ≤ n.N) (h2 : n.N ≤ 512) (h3 : n.E.length ≤ 2000) (h4 : ∀ x ∈ n.E, edgeOk n.N x = true) : validB n = true := by
  simp only [validB, Bool.and_eq_true, Bool.not_eq_true', Bool.or_eq_false_iff, decide_eq_false_iff_not, List.all_eq_true]
  exact ⟨⟨⟨by omega, by omega⟩, by omega⟩, h4⟩
theorem cNet_valid {ws : List Int} {ns : List (Int × Int)} (h1 : ws.length ≤ 500) (h2 : ns.length ≤ 1000) (hw : ∀ w ∈ ws, -1073741824 ≤ w ∧ w ≤ 1073741824) (hn : ∀ p ∈ ns, 0 ≤ p.1 ∧ p.1 < ws.length ∧ 0 ≤ p.2 ∧ p.2 < ws.length) :
    validB (cNet ws ns) = true ∧ validB (rNet ws ns) = true ∧ bigAt ws ws.length ≤ 1125899906842624 := by
  have hb := bigAt_bnd (by decide : (0 : Int) ≤ 1073741824) hw ws.length
  have hw1 := wEdges_len ws ws.length
  have hw2 := rwEdges_len ws ws.length
  have hn1 := nEdges_len ns
  have hn2 := rnEdges_len (bigAt ws ws.length) ns
  refine ⟨validB_of (by simp only [cNet]; omega) (by simp only [cNet]; omega) (by simp only [cNet, List.length_append]; omega) ?_, validB_of (by simp only [rNet]; omega) (by simp only [rNet]; omega) (by simp only [rNet, List.length_append]; omega) ?_, by omega⟩
  · intro x hx
    rcases List.mem_append.1 hx with hx | hx
    · unfold wEdges at hx
      obtain ⟨j, hj, hx⟩ := List.mem_flatMap.1 hx
      exact (wEdge_ok (List.mem_range.1 hj) hw).2 x hx
    · rw [nEdges_eq] at hx
      exact nEdge_ok (by decide) (by decide) hn x hx
  · intro x hx
    rcases List.mem_append.1 hx with hx | hx
    · unfold rwEdges at hx
      obtain ⟨j, hj, rfl⟩ := List.mem_map.1 hx
      exact (wEdge_ok (List.mem_range.1 hj) hw).1
    · exact nEdge_ok (by omega) (by omega) hn x hx
theorem sumAt_app (ws a b : List Int) : sumAt ws (a ++ b) = sumAt ws a + sumAt ws b := by simp [sumAt]
theorem sum_memb {ws pr : List Int} {b : List Bool} : ∀ m : Nat, (∀ i, i < m → (pr.getD i 0 ≠ -1 ↔ b.getD i false = true)) → sumAt ws (memb pr m) = sumB ws b m
  | 0, _ => rfl
  | m + 1, h => by
    rw [memb_succ, sumB, ← sum_memb m fun i hi => h i (by omega)]
    have hm := h m (by omega)
    by_cases e : pr.getD m 0 = -1
    · have : ¬ b.getD m false = true := fun hh => hm.2 hh e
      rw [if_pos e, if_neg this, Int.add_zero]
    · rw [if_neg e, if_pos (hm.1 e), sumAt_app]
      simp [sumAt]
end Go.AM
/- The first that a test finds. -/
namespace Go.AM
def badW (x : Int) : Bool := decide (x < -1073741824) || decide (1073741824 < x)
def badP (m : Nat) (p : Int × Int) : Bool := decide (p.1 < 0) || decide ((m : Int) ≤ p.1) || decide (p.2 < 0) || decide ((m : Int) ≤ p.2)
def ixf {α : Type} (p : α → Bool) (l : List α) : Int := if l.any p then (l.findIdx p : Nat) else -1
theorem ixf_at {α : Type} {p : α → Bool} {l : List α} {j : Nat} {x : α} (hx : l[j]? = some x) (hp : p x = true) (h : (l.take j).any p = false) : ixf p l = j := by
  obtain ⟨hj, rfl⟩ := List.getElem?_eq_some_iff.1 hx
  have h1 : l.any p = true := List.any_eq_true.2 ⟨_, List.getElem_mem hj, hp⟩
  unfold ixf
  rw [if_pos h1, (List.findIdx_eq hj).2 ⟨hp, fun i hi => ?_⟩]
  have : ¬ p (l[i]'(by omega)) = true := fun hh => by
    have : (l.take j).any p = true := List.any_eq_true.2 ⟨l[i]'(by omega), by rw [List.mem_take_iff_getElem]; exact ⟨i, by omega, rfl⟩, hh⟩
    rw [this] at h; cases h
  simpa using this
theorem ixf_none {α : Type} {p : α → Bool} {l : List α} (h : l.any p = false) : ixf p l = -1 := by unfold ixf; rw [if_neg (by rw [h]; simp)]
theorem any_take_succ {α : Type} {p : α → Bool} {l : List α} {j : Nat} {x : α} (hx : l[j]? = some x) : (l.take (j + 1)).any p = ((l.take j).any p || p x) := by
  obtain ⟨hj, rfl⟩ := List.getElem?_eq_some_iff.1 hx
  rw [List.take_succ_eq_append_getElem hj, List.any_append]; simp
theorem ixf_ge {α : Type} (p : α → Bool) (l : List α) : (decide (0 ≤ ixf p l)) = l.any p := by
  unfold ixf
  cases h : l.any p <;> simp
theorem ixf_lt {α : Type} (p : α → Bool) (l : List α) : -1 ≤ ixf p l ∧ ixf p l ≤ l.length := by
  unfold ixf; split
  · have := List.findIdx_le_length (p := p) (xs := l); omega
  · omega
end Go.AM
/- Masks of at most 64 members. -/
namespace Go.AM
theorem bAnd_nat {a b : Nat} (ha : a < 18446744073709551616) (hb : b < 18446744073709551616) : bAnd .u64 (a : Int) (b : Int) = ((a &&& b : Nat) : Int) := by
  unfold bAnd
  have e : (BitVec.ofInt IntKind.u64.bits (a : Int) &&& BitVec.ofInt IntKind.u64.bits (b : Int)).toNat = a &&& b := by
    show (BitVec.ofInt 64 (a : Int) &&& BitVec.ofInt 64 (b : Int) : BitVec 64).toNat = _
    rw [BitVec.toNat_and, BitVec.ofInt_natCast, BitVec.ofInt_natCast, BitVec.toNat_ofNat, BitVec.toNat_ofNat, Nat.mod_eq_of_lt (by omega), Nat.mod_eq_of_lt (by omega)]
  rw [e]
  have : a &&& b < 2 ^ 64 := Nat.and_lt_two_pow _ (by omega)
  simp [IntKind.wrap, IntKind.signed, IntKind.bits]
  omega
/-- A bit, as the program asks for it. -/
def bitW (M i : Int) : Int := bAnd .u64 (bShr .u64 M i) 1
theorem bitW_nat {m i : Nat} (hm : m < 18446744073709551616) (hi : i < 64) : bitW m i = if m.testBit i then 1 else 0 := by
  unfold bitW
  have hs : m >>> i ≤ m := by rw [Nat.shiftRight_eq_div_pow]; exact Nat.div_le_self _ _
  rw [bShr_nat hi, show (1 : Int) = ((1 : Nat) : Int) from rfl, bAnd_nat (by omega) (by decide), Nat.and_one_is_mod, Nat.testBit_eq_decide_div_mod_eq, Nat.shiftRight_eq_div_pow]
  generalize m / 2 ^ i = d
  rcases Nat.mod_two_eq_zero_or_one d with h | h <;> simp [h]
theorem setW_hasA (b : List Bool) : ∀ j, j ≤ b.length → okW (setW b j) ∧ ∀ i : Nat, ((i : Int).tdiv 64).toNat < (wordsN b.length).toNat → hasW (setW b j) i = (decide (i < j) && b.getD i false)
  | 0, _ => ⟨by unfold setW; exact okW_zero _, fun i hi => by
      have : hasW (List.replicate (wordsN b.length).toNat 0) i = false := by
        rw [hasW_bit (by omega) (okW_zero _ _).1]
        have : (List.replicate (wordsN b.length).toNat (0 : Int)).getD ((i : Int).tdiv 64).toNat 0 = 0 := by
          rw [List.getD_eq_getElem?_getD, List.getElem?_replicate]; split <;> rfl
        rw [this]; simp
      simpa [setW] using this⟩
  | j + 1, hj => by
    obtain ⟨h1, h2⟩ := setW_hasA b j (by omega)
    rw [setW_succ]
    by_cases hb : b.getD j false = true
    · rw [if_pos hb]
      obtain ⟨h3, h4⟩ := h1.set (i := (j : Int)) (by omega)
      refine ⟨h3, fun i hi => ?_⟩
      rw [h4 i (by omega) (by rw [setW_len]; exact hi), h2 i hi]
      by_cases e : j = i
      · subst e; rw [hb]; simp
      · have : ((j : Int) = (i : Int)) = False := by simp; omega
        simp only [this, decide_false, Bool.false_or]
        congr 1
        simp; omega
    · rw [if_neg hb]
      refine ⟨h1, fun i hi => ?_⟩
      rw [h2 i hi]
      by_cases e : j = i
      · subst e
        have : b.getD j false = false := by simpa using hb
        rw [this]; simp
      · congr 1
        simp; omega
/-- A small set is one word. -/
theorem setW_mask {b : List Bool} (h1 : 1 ≤ b.length) (h2 : b.length ≤ 63) : ∃ x : Nat, setW b b.length = [(x : Int)] ∧ x < 2 ^ b.length ∧ ∀ i, i < b.length → x.testBit i = b.getD i false := by
  have hwn := wordsN_rng (n := (b.length : Int)) (by omega)
  have hw1 : (wordsN (b.length : Int)).toNat = 1 := by omega
  have hl := setW_len b b.length
  rw [hw1] at hl
  obtain ⟨ho, hh⟩ := setW_hasA b b.length (Nat.le_refl _)
  obtain ⟨y, hy⟩ := List.length_eq_one_iff.1 hl
  rw [hy] at ho hh ⊢
  have hy0 := ho 0
  simp only [List.getD_cons_zero] at hy0
  have hall : ∀ i : Nat, i < 64 → y.toNat.testBit i = (decide (i < b.length) && b.getD i false) := fun i hi => by
    have hd : ((i : Int).tdiv 64).toNat = 0 := by rw [Int.tdiv_eq_ediv_of_nonneg (by omega)]; omega
    have := hh i (by rw [hd, hw1]; decide)
    rw [hasW_bit (by omega) (by rw [hd]; exact hy0.1), hd] at this
    simp only [List.getD_cons_zero, Int.toNat_natCast] at this
    rw [Nat.mod_eq_of_lt hi] at this
    exact this
  refine ⟨y.toNat, by rw [Int.toNat_of_nonneg hy0.1], ?_, fun i hi => by rw [hall i (by omega)]; simp [hi]⟩
  refine Nat.lt_pow_two_of_testBit _ fun i hi => ?_
  by_cases h64 : i < 64
  · rw [hall i h64]; simp; omega
  · refine Nat.testBit_lt_two_pow (Nat.lt_of_lt_of_le (m := 2 ^ 64) ?_ (Nat.pow_le_pow_right (by decide) (by omega)))
    simp only [Nat.reducePow]; omega
def sumM (ws : List Int) (m : Nat) : Nat → Int
  | 0 => 0
  | j + 1 => sumM ws m j + if m.testBit j = true then ws.getD j 0 else 0
theorem sumM_bnd {ws : List Int} {m : Nat} {B : Int} (hB : 0 ≤ B) (h : ∀ w ∈ ws, -B ≤ w ∧ w ≤ B) : ∀ j, -(B * j) ≤ sumM ws m j ∧ sumM ws m j ≤ B * j
  | 0 => by simp [sumM]
  | j + 1 => by
    have ih := sumM_bnd (m := m) hB h j
    have hx : -B ≤ ws.getD j 0 ∧ ws.getD j 0 ≤ B := by
      by_cases hi : j < ws.length
      · exact h _ (mem_getD hi 0)
      · rw [getD_out (by omega)]; omega
    simp only [sumM]
    rw [Int.natCast_succ, Int.mul_add]
    split <;> omega
theorem sumM_B {ws : List Int} {b : List Bool} {m : Nat} : ∀ j, (∀ i, i < j → m.testBit i = b.getD i false) → sumM ws m j = sumB ws b j
  | 0, _ => rfl
  | j + 1, h => by rw [sumM, sumB, sumM_B j fun i hi => h i (by omega), h j (by omega)]
/-- What a set of items is worth, and its base. -/
theorem base_sum (ws : List Int) (S : Int → Bool) (b : Nat → Bool) (f : Nat → Int) (h0 : f 0 = 0) (hf : ∀ j, f (j + 1) = f j + if b j = true then ws.getD j 0 else 0) : ∀ j : Nat, (∀ i : Nat, i < j → S (i : Int) = b i) → baseAt ws S j = bigAt ws j - 1 - f j
  | 0, _ => by rw [h0]; rfl
  | j + 1, h => by
    rw [baseAt, bigAt, hf, base_sum ws S b f h0 hf j fun i hi => h i (by omega), h j (by omega)]
    cases b j <;> simp <;> split <;> omega
theorem viol_closed {S : Int → Bool} : ∀ {ns : List (Int × Int)}, (∀ p ∈ ns, S p.1 = true → S p.2 = true) → viol S ns = 0
  | [], _ => rfl
  | p :: l, h => by
    rw [viol, viol_closed fun q hq => h q (by simp [hq]), if_neg (by rintro ⟨a, c⟩; have := h p (by simp) a; rw [this] at c; cases c)]
    rfl
theorem closed_viol {S : Int → Bool} : ∀ {ns : List (Int × Int)}, viol S ns = 0 → ∀ p ∈ ns, S p.1 = true → S p.2 = true
  | [], _, p, hp, _ => by cases hp
  | q :: l, h, p, hp, h1 => by
    have := viol_nn S l
    rw [viol] at h
    rcases List.mem_cons.1 hp with rfl | hp
    · cases h2 : S p.2 with
      | true => rfl
      | false => rw [if_pos ⟨h1, h2⟩] at h; omega
    · exact closed_viol (by split at h <;> omega) p hp h1
end Go.AM
namespace Go.AM
/-- The program's closure is worth most, and is the least of those. -/
theorem clo_most {ws : List Int} {ns : List (Int × Int)} (hv : validB (cNet ws ns) = true) (hbig : bigAt ws ws.length ≤ 1125899906842624) (hn : ∀ p ∈ ns, 0 ≤ p.1 ∧ p.1 < ws.length ∧ 0 ≤ p.2 ∧ p.2 < ws.length) {fl : List Int} {S : Int → Bool}
    (hf : IsFlow (cNet ws ns) ws.length (ws.length + 1) fl) (hS : Near (cNet ws ns) ws.length fl S) (hSt : S (ws.length + 1) = false) {b : List Bool} (hb : ∀ i : Nat, i < ws.length → b.getD i false = S i) :
    (∀ p ∈ ns, b.getD p.1.toNat false = true → b.getD p.2.toNat false = true) ∧
    ∀ m : Nat, (∀ p ∈ ns, m.testBit p.1.toNat = true → m.testBit p.2.toNat = true) → sumM ws m ws.length ≤ sumB ws b ws.length ∧ (sumM ws m ws.length = sumB ws b ws.length → ∀ i, i < ws.length → b.getD i false = true → m.testBit i = true) := by
  have hN1 : (cNet ws ns).N = ws.length + 2 := rfl
  obtain ⟨Z, hZ⟩ : ∃ Z : Int → Bool, Z = fun u => decide (u = (ws.length : Int)) := ⟨_, rfl⟩
  have hZs : Z ws.length = true := by rw [hZ]; simp
  have hZt : Z (ws.length + 1) = false := by rw [hZ]; simp; omega
  have hZb : baseAt ws Z ws.length = bigAt ws ws.length - 1 := by rw [hZ]; exact base_0 ws _ (Nat.le_refl _)
  have hZv : viol Z ns = 0 := by rw [hZ]; exact viol_0 _ fun p hp => (hn p hp).2.1
  have a1 := near_min hv (by omega) (by omega) hf hS hSt hZs hZt
  rw [cap_c hS.src hSt, cap_c hZs hZt, hZb, hZv, Int.mul_zero] at a1
  have b1 := base_nn ws S ws.length
  have c1 := viol_nn S ns
  have v1 : viol S ns = 0 := by
    have := a1.1
    omega
  have hSb := base_sum ws S (fun i => b.getD i false) (sumB ws b) rfl (fun _ => rfl) ws.length fun i hi => (hb i hi).symm
  have hpb : ∀ p ∈ ns, S p.1 = b.getD p.1.toNat false ∧ S p.2 = b.getD p.2.toNat false := fun p hp => by
    have := hn p hp
    rw [hb _ (by omega), hb _ (by omega), Int.toNat_of_nonneg this.1, Int.toNat_of_nonneg this.2.2.1]
    exact ⟨rfl, rfl⟩
  refine ⟨fun p hp h => ?_, fun m hm => ?_⟩
  · rw [← (hpb p hp).2]
    exact closed_viol v1 p hp (by rw [(hpb p hp).1]; exact h)
  · obtain ⟨T, hT⟩ : ∃ T : Int → Bool, T = fun u => decide (u = (ws.length : Int)) || (decide (u < ws.length) && m.testBit u.toNat) := ⟨_, rfl⟩
    have hTs : T ws.length = true := by rw [hT]; simp
    have hTt : T (ws.length + 1) = false := by rw [hT]; simp; omega
    have hTi : ∀ i : Int, 0 ≤ i → i < ws.length → T i = m.testBit i.toNat := fun i h0 h1 => by
      rw [hT]; simp only [Bool.or_eq_true]
      have : (i = (ws.length : Int)) = False := by simp; omega
      simp [this, h1]
    have hTb := base_sum ws T (fun i => m.testBit i) (sumM ws m) rfl (fun _ => rfl) ws.length fun i hi => by
      rw [hTi i (by omega) (by omega)]; simp
    have hTv : viol T ns = 0 := viol_closed fun p hp h => by
      have := hn p hp
      rw [hTi _ this.1 this.2.1] at h
      rw [hTi _ this.2.2.1 this.2.2.2]
      exact hm p hp h
    have a2 := near_min hv (by omega) (by omega) hf hS hSt hTs hTt
    rw [cap_c hS.src hSt, cap_c hTs hTt, v1, hTv, hSb, hTb, Int.mul_zero] at a2
    refine ⟨by have := a2.1; omega, fun he i hi h => ?_⟩
    have := a2.2 (by omega) (i : Int) (by omega) (by omega) (by rw [← hb i hi]; exact h)
    rw [hTi _ (by omega) (by omega)] at this
    simpa using this
end Go.AM
/- Valid sets: the tests of the program and of the reference. -/
namespace Go.AM
theorem bit_hasW {W : List Int} (hW : okW W) {i : Int} (h0 : 0 ≤ i) : decide (bAnd .u64 (bShr .u64 (W.getD (i.tdiv 64).toNat 0) (i.tmod 64)) 1 = 1) = hasW W i := by
  rw [hasW_bit h0 (hW _).1]
  obtain ⟨w, hw⟩ : ∃ w : Nat, W.getD (i.tdiv 64).toNat 0 = w := ⟨_, (Int.toNat_of_nonneg (hW _).1).symm⟩
  have hw2 := (hW (i.tdiv 64).toNat).2
  rw [hw] at hw2 ⊢
  have e : i.tmod 64 = ((i.toNat % 64 : Nat) : Int) := by rw [Int.tmod_eq_emod_of_nonneg h0]; omega
  have := bitW_nat (m := w) (i := i.toNat % 64) (by omega) (Nat.mod_lt _ (by decide))
  unfold bitW at this
  rw [e, this, Int.toNat_natCast]
  cases w.testBit (i.toNat % 64) <;> simp
def topB (N : Int) (W : List Int) : Bool := decide (N.tmod 64 = 0) || decide (bShr .u64 (W.getD (W.length - 1) 0) (N.tmod 64) = 0)
def validS (N : Int) (W : List Int) : Bool := decide (0 ≤ N) && decide (N ≤ 512) && decide ((W.length : Int) = wordsN N) && topB N W
theorem validS_sz {N : Int} {W : List Int} (h : validS N W = true) : 0 ≤ N ∧ N ≤ 512 ∧ (W.length : Int) = wordsN N := by
  simp only [validS, Bool.and_eq_true, decide_eq_true_eq] at h; exact ⟨h.1.1.1, h.1.1.2, h.1.2⟩
/-- Who says that a member is one. -/
def memS (N : Int) (W : List Int) (i : Int) : Bool := validS N W && decide (0 ≤ i) && decide (i < N) && hasW W i
theorem wordsN_ref (N : Int) : (N + 63).tdiv 64 = wordsN N := by unfold wordsN; congr 1; omega
theorem top_ix {N : Int} {W : List Int} (h0 : 0 ≤ N) (hl : (W.length : Int) = wordsN N) (hm : N.tmod 64 ≠ 0) : (N.tdiv 64).toNat = W.length - 1 ∧ N.tdiv 64 < W.length := by
  unfold wordsN at hl
  rw [Int.tdiv_eq_ediv_of_nonneg (by omega)] at hl ⊢
  rw [Int.tmod_eq_emod_of_nonneg h0] at hm
  omega
end Go.AM
namespace Go.Proofs.F
open Go.AM Go
set_option maxRecDepth 100000
set_option maxHeartbeats 1000000
theorem bvalid_b (N : Int) (W : List Int) (hl : W.length ≤ 9223372036854775807) (hz : 0 < W.length) : Reads Try.prog 50 false [.agg [.int .i64 N, .rsl 1 (words W)]] (.bool (validS N W)) := by
  have hwr := words_r N
  refine Reads.body (rs := [.tmp 2]) Try.func50 rfl Try.ntmps50 rfl (by simp) ?_
  generalize hQr : retQ _ _ _ = Qr
  refine AW.seq fun K1 hK1 => ?_
  -- region 0
  refine AW.regionK 0 (fun _ => none) [1] [1] ?_
  simp only [go_sem, reduceIte, reduceCtorEq, Nat.reduceAdd, Nat.reduceMul, Nat.reduceEqDiff, Nat.reduceLT, Nat.reduceLeDiff, Nat.reduceSub, Nat.reducePow, Nat.reduceBEq, Int.reduceToNat, List.reduceReplicate]
  repeat with_reducible refine cj ?_ ?_
  all_goals try first | omega
  refine hK1 _ _ _ ?_; clear hK1
  refine AW.seq fun K2 hK2 => ?_
  refine AW.seq fun K3 hK3 => ?_
  -- region 1
  refine AW.regionD mixed 0 (fun ii => if ii = 14 then some (.reads false (.int .i64 (wordsN N))) else none) [1, 20] [1] ?_
  simp only [go_sem, reduceIte, reduceCtorEq, Nat.reduceAdd, Nat.reduceMul, Nat.reduceEqDiff, Nat.reduceLT, Nat.reduceLeDiff, Nat.reduceSub, Nat.reducePow, Nat.reduceBEq, Int.reduceToNat, List.reduceReplicate]
  repeat with_reducible refine cj ?_ ?_
  all_goals try first | ((intro hh; refine ⟨hh, ?_⟩; simp at hh; exact hwr (by omega) (by omega))) | (intros; (repeat' apply And.intro) <;> first | assumption | ((intro hh; refine ⟨hh, ?_⟩; simp at hh; exact hwr (by omega) (by omega)))) | omega | exact chk (by kernel_rfl) | exact ent (by kernel_rfl) | (intro hgd; exact absurd hgd (by decide)) | rfl | (simp only [go_sem, reduceIte, reduceCtorEq, Nat.reduceAdd, Nat.reduceMul, Nat.reduceEqDiff, Nat.reduceLT, Nat.reduceLeDiff, Nat.reduceSub, Nat.reducePow, Nat.reduceBEq, Int.reduceToNat, List.reduceReplicate]; done) | (intro _hgd; simp_all [go_sem]; done)
  refine hK3 _ _ _ ?_; clear hK3
  -- cond 1
  refine AW.cond rfl (by simp only [go_sem, reduceIte, reduceCtorEq, Nat.reduceAdd, Nat.reduceMul, Nat.reduceEqDiff, Nat.reduceLT, Nat.reduceLeDiff, Nat.reduceSub, Nat.reducePow, Nat.reduceBEq, Int.reduceToNat, List.reduceReplicate]) ?_ ?_
  · intro hb
    try simp only [hB, decide_eq_true_eq, decide_eq_false_iff_not] at hb
    refine AW.seq fun K4 hK4 => ?_
    -- region 2
    refine AW.regionK 0 (fun _ => none) [2] [] ?_
    simp only [go_sem, reduceIte, reduceCtorEq, Nat.reduceAdd, Nat.reduceMul, Nat.reduceEqDiff, Nat.reduceLT, Nat.reduceLeDiff, Nat.reduceSub, Nat.reducePow, Nat.reduceBEq, Int.reduceToNat, List.reduceReplicate]
    repeat with_reducible refine cj ?_ ?_
    all_goals try first | omega
    refine hK4 _ _ _ ?_; clear hK4
    refine AW.ret ?_
    rw [← hQr]
    simp only [go_sem, reduceIte, reduceCtorEq, Nat.reduceAdd, Nat.reduceMul, Nat.reduceEqDiff, Nat.reduceLT, Nat.reduceLeDiff, Nat.reduceSub, Nat.reducePow, Nat.reduceBEq, Int.reduceToNat, List.reduceReplicate]
    exact Wk.of_eq (by congr 1; symm; simp [validS]; intros; omega)
  · intro hb
    try simp only [hB, decide_eq_true_eq, decide_eq_false_iff_not] at hb
    have hwn := wordsN_rng (n := N) (by omega)
    have hmod : 0 ≤ N.tmod 64 ∧ N.tmod 64 < 64 := by rw [Int.tmod_eq_emod_of_nonneg (by omega)]; omega
    have hpre : 0 ≤ N ∧ N ≤ 512 ∧ (W.length : Int) = wordsN N := by omega
    have hgw : (words W).getD ((W.length : Int) - 1).toNat [] = [.int .u64 (W.getD (W.length - 1) 0)] := by rw [show ((W.length : Int) - 1).toNat = W.length - 1 by omega]; exact words_getD (by omega)
    refine AW.skip ?_
    refine hK2 _ _ _ ?_; clear hK2
    refine AW.seq fun K5 hK5 => ?_
    -- region 3
    refine AW.regionK 0 (fun _ => none) [1, 3] [1] ?_
    simp only [go_sem, reduceIte, reduceCtorEq, Nat.reduceAdd, Nat.reduceMul, Nat.reduceEqDiff, Nat.reduceLT, Nat.reduceLeDiff, Nat.reduceSub, Nat.reducePow, Nat.reduceBEq, Int.reduceToNat, List.reduceReplicate]
    repeat with_reducible refine cj ?_ ?_
    all_goals try first | omega
    refine hK5 _ _ _ ?_; clear hK5
    refine AW.seq fun K6 hK6 => ?_
    -- region 4
    refine AW.regionK 0 (fun _ => none) [2] [] ?_
    simp only [go_sem, reduceIte, reduceCtorEq, Nat.reduceAdd, Nat.reduceMul, Nat.reduceEqDiff, Nat.reduceLT, Nat.reduceLeDiff, Nat.reduceSub, Nat.reducePow, Nat.reduceBEq, Int.reduceToNat, List.reduceReplicate, hgw]
    repeat with_reducible refine cj ?_ ?_
    all_goals try first | ((intro hh; (repeat' apply And.intro) <;> first | exact hh | omega)) | (intros; (repeat' apply And.intro) <;> first | assumption | ((intro hh; (repeat' apply And.intro) <;> first | exact hh | omega))) | omega | (intro hgd; exact absurd hgd (by decide)) | rfl | (simp only [go_sem, reduceIte, reduceCtorEq, Nat.reduceAdd, Nat.reduceMul, Nat.reduceEqDiff, Nat.reduceLT, Nat.reduceLeDiff, Nat.reduceSub, Nat.reducePow, Nat.reduceBEq, Int.reduceToNat, List.reduceReplicate, hgw]; done) | (intro _hgd; simp_all [go_sem]; done)
    refine hK6 _ _ _ ?_; clear hK6
    refine AW.ret ?_
    rw [← hQr]
    simp only [go_sem, reduceIte, reduceCtorEq, Nat.reduceAdd, Nat.reduceMul, Nat.reduceEqDiff, Nat.reduceLT, Nat.reduceLeDiff, Nat.reduceSub, Nat.reducePow, Nat.reduceBEq, Int.reduceToNat, List.reduceReplicate]
    exact Wk.of_eq (by simp [validS, topB, hpre.1, hpre.2.1, hpre.2.2])
theorem words_nil_get (i : Nat) : (words []).getD i [] = [] := rfl
theorem words_nil_len : (words []).length = 0 := rfl
theorem bvalid_a (N : Int) : Reads Try.prog 50 false [.agg [.int .i64 N, .rsl 1 (words [])]] (.bool (validS N [])) := by
  have hwr := words_r N
  refine Reads.body (rs := [.tmp 2]) Try.func50 rfl Try.ntmps50 rfl (by simp) ?_
  generalize hQr : retQ _ _ _ = Qr
  refine AW.seq fun K1 hK1 => ?_
  -- region 0
  refine AW.regionK 0 (fun _ => none) [1] [1] ?_
  simp only [go_sem, reduceIte, reduceCtorEq, Nat.reduceAdd, Nat.reduceMul, Nat.reduceEqDiff, Nat.reduceLT, Nat.reduceLeDiff, Nat.reduceSub, Nat.reducePow, Nat.reduceBEq, Int.reduceToNat, List.reduceReplicate]
  repeat with_reducible refine cj ?_ ?_
  all_goals try first | omega
  refine hK1 _ _ _ ?_; clear hK1
  refine AW.seq fun K2 hK2 => ?_
  refine AW.seq fun K3 hK3 => ?_
  -- region 1
  refine AW.regionD mixed 0 (fun ii => if ii = 14 then some (.reads false (.int .i64 (wordsN N))) else none) [1, 20] [1] ?_
  simp only [go_sem, reduceIte, reduceCtorEq, Nat.reduceAdd, Nat.reduceMul, Nat.reduceEqDiff, Nat.reduceLT, Nat.reduceLeDiff, Nat.reduceSub, Nat.reducePow, Nat.reduceBEq, Int.reduceToNat, List.reduceReplicate, words_nil_len]
  repeat with_reducible refine cj ?_ ?_
  all_goals try first | ((intro hh; refine ⟨hh, ?_⟩; simp at hh; exact hwr (by omega) (by omega))) | (intros; (repeat' apply And.intro) <;> first | assumption | ((intro hh; refine ⟨hh, ?_⟩; simp at hh; exact hwr (by omega) (by omega)))) | omega | exact chk (by kernel_rfl) | exact ent (by kernel_rfl) | (intro hgd; exact absurd hgd (by decide)) | rfl | (simp only [go_sem, reduceIte, reduceCtorEq, Nat.reduceAdd, Nat.reduceMul, Nat.reduceEqDiff, Nat.reduceLT, Nat.reduceLeDiff, Nat.reduceSub, Nat.reducePow, Nat.reduceBEq, Int.reduceToNat, List.reduceReplicate, words_nil_len]; done) | (intro _hgd; simp_all [go_sem]; done)
  refine hK3 _ _ _ ?_; clear hK3
  -- cond 1
  refine AW.cond rfl (by simp only [go_sem, reduceIte, reduceCtorEq, Nat.reduceAdd, Nat.reduceMul, Nat.reduceEqDiff, Nat.reduceLT, Nat.reduceLeDiff, Nat.reduceSub, Nat.reducePow, Nat.reduceBEq, Int.reduceToNat, List.reduceReplicate]) ?_ ?_
  · intro hb
    try simp only [hB, decide_eq_true_eq, decide_eq_false_iff_not] at hb
    refine AW.seq fun K4 hK4 => ?_
    -- region 2
    refine AW.regionK 0 (fun _ => none) [2] [] ?_
    simp only [go_sem, reduceIte, reduceCtorEq, Nat.reduceAdd, Nat.reduceMul, Nat.reduceEqDiff, Nat.reduceLT, Nat.reduceLeDiff, Nat.reduceSub, Nat.reducePow, Nat.reduceBEq, Int.reduceToNat, List.reduceReplicate]
    repeat with_reducible refine cj ?_ ?_
    all_goals try first | omega
    refine hK4 _ _ _ ?_; clear hK4
    refine AW.ret ?_
    rw [← hQr]
    simp only [go_sem, reduceIte, reduceCtorEq, Nat.reduceAdd, Nat.reduceMul, Nat.reduceEqDiff, Nat.reduceLT, Nat.reduceLeDiff, Nat.reduceSub, Nat.reducePow, Nat.reduceBEq, Int.reduceToNat, List.reduceReplicate]
    exact Wk.of_eq (by congr 1; symm; simp [validS]; intros; omega)
  · intro hb
    try simp only [hB, decide_eq_true_eq, decide_eq_false_iff_not] at hb
    have hwn := wordsN_rng (n := N) (by omega)
    obtain rfl : N = 0 := by omega
    refine AW.skip ?_
    refine hK2 _ _ _ ?_; clear hK2
    refine AW.seq fun K5 hK5 => ?_
    -- region 3
    refine AW.regionK 0 (fun _ => none) [1, 3] [1] ?_
    simp only [go_sem, reduceIte, reduceCtorEq, Nat.reduceAdd, Nat.reduceMul, Nat.reduceEqDiff, Nat.reduceLT, Nat.reduceLeDiff, Nat.reduceSub, Nat.reducePow, Nat.reduceBEq, Int.reduceToNat, List.reduceReplicate, Int.zero_tmod]
    repeat with_reducible refine cj ?_ ?_
    all_goals try first | omega
    refine hK5 _ _ _ ?_; clear hK5
    refine AW.seq fun K6 hK6 => ?_
    -- region 4
    refine AW.regionK 0 (fun _ => none) [2] [] ?_
    simp only [go_sem, reduceIte, reduceCtorEq, Nat.reduceAdd, Nat.reduceMul, Nat.reduceEqDiff, Nat.reduceLT, Nat.reduceLeDiff, Nat.reduceSub, Nat.reducePow, Nat.reduceBEq, Int.reduceToNat, List.reduceReplicate, words_nil_get, words_nil_len, List.getD_nil]
    repeat with_reducible refine cj ?_ ?_
    all_goals try first | omega | (intros; (repeat' apply And.intro) <;> first | assumption | omega | decide) | (intro hgd; exact absurd hgd (by decide)) | rfl | (simp only [go_sem, reduceIte, reduceCtorEq, Nat.reduceAdd, Nat.reduceMul, Nat.reduceEqDiff, Nat.reduceLT, Nat.reduceLeDiff, Nat.reduceSub, Nat.reducePow, Nat.reduceBEq, Int.reduceToNat, List.reduceReplicate, words_nil_get, words_nil_len, List.getD_nil]; done) | (intro _hgd; simp_all [go_sem]; done)
    refine hK6 _ _ _ ?_; clear hK6
    refine AW.ret ?_
    rw [← hQr]
    simp only [go_sem, reduceIte, reduceCtorEq, Nat.reduceAdd, Nat.reduceMul, Nat.reduceEqDiff, Nat.reduceLT, Nat.reduceLeDiff, Nat.reduceSub, Nat.reducePow, Nat.reduceBEq, Int.reduceToNat, List.reduceReplicate]
    exact Wk.of_eq (by rfl)
theorem bvalid_r (N : Int) (W : List Int) (hl : W.length ≤ 9223372036854775807) : Reads Try.prog 50 false [.agg [.int .i64 N, .rsl 1 (words W)]] (.bool (validS N W)) := by
  cases W with
  | nil => exact bvalid_a N
  | cons w l => exact bvalid_b N (w :: l) hl (by simp)
theorem bhas0_r (N : Int) (W : List Int) (i : Int) (hW : okW W) (h0 : 0 ≤ i) (h1 : i.tdiv 64 < W.length) (hl : W.length ≤ 9223372036854775807) : Reads Try.prog 60 false [.agg [.int .i64 N, .rsl 1 (words W)], .int .i64 i] (.bool (hasW W i)) := by
  have hd := div64_rng (i := i) (n := i + 1) h0 (by omega)
  have hgw := words_getD (l := W) (i := (i.tdiv 64).toNat) (by omega)
  have hb := bit_hasW hW h0
  refine Reads.body (rs := [.tmp 4]) Try.func60 rfl Try.ntmps60 rfl (by simp) ?_
  generalize hQr : retQ _ _ _ = Qr
  refine AW.seq fun K1 hK1 => ?_
  -- region 0
  refine AW.regionK 0 (fun _ => none) [1, 2] [2] ?_
  simp only [go_sem, reduceIte, reduceCtorEq, Nat.reduceAdd, Nat.reduceMul, Nat.reduceEqDiff, Nat.reduceLT, Nat.reduceLeDiff, Nat.reduceSub, Nat.reducePow, Nat.reduceBEq, Int.reduceToNat, List.reduceReplicate]
  repeat with_reducible refine cj ?_ ?_
  all_goals try first | omega
  refine hK1 _ _ _ ?_; clear hK1
  refine AW.seq fun K2 hK2 => ?_
  -- region 1
  refine AW.regionK 0 (fun _ => none) [4] [] ?_
  simp only [go_sem, reduceIte, reduceCtorEq, Nat.reduceAdd, Nat.reduceMul, Nat.reduceEqDiff, Nat.reduceLT, Nat.reduceLeDiff, Nat.reduceSub, Nat.reducePow, Nat.reduceBEq, Int.reduceToNat, List.reduceReplicate, hgw]
  repeat with_reducible refine cj ?_ ?_
  all_goals try first | omega
  refine hK2 _ _ _ ?_; clear hK2
  refine AW.ret ?_
  rw [← hQr]
  simp only [go_sem, reduceIte, reduceCtorEq, Nat.reduceAdd, Nat.reduceMul, Nat.reduceEqDiff, Nat.reduceLT, Nat.reduceLeDiff, Nat.reduceSub, Nat.reducePow, Nat.reduceBEq, Int.reduceToNat, List.reduceReplicate]
  exact Wk.of_eq (by rw [hb])
theorem bhas_r (N : Int) (W : List Int) (i : Int) (hW : okW W) (hl : W.length ≤ 9223372036854775807) : Reads Try.prog 51 false [.agg [.int .i64 N, .rsl 1 (words W)], .int .i64 i] (.bool (memS N W i)) := by
  have hv := bvalid_r N W hl
  have hin := inside_r N (words W) i
  have hh0 := fun h0 h1 => bhas0_r N W i hW h0 h1 hl
  refine Reads.body (rs := [.tmp 4]) Try.func51 rfl Try.ntmps51 rfl (by simp) ?_
  generalize hQr : retQ _ _ _ = Qr
  refine AW.seq fun K1 hK1 => ?_
  -- region 0
  refine AW.regionK 0 (fun _ => none) [1, 2] [2] ?_
  simp only [go_sem, reduceIte, reduceCtorEq, Nat.reduceAdd, Nat.reduceMul, Nat.reduceEqDiff, Nat.reduceLT, Nat.reduceLeDiff, Nat.reduceSub, Nat.reducePow, Nat.reduceBEq, Int.reduceToNat, List.reduceReplicate]
  repeat with_reducible refine cj ?_ ?_
  all_goals try first | omega
  refine hK1 _ _ _ ?_; clear hK1
  refine AW.seq fun K2 hK2 => ?_
  -- region 1
  refine AW.regionK 0 (fun ii => if ii = 1 then some (.reads false (.bool (validS N W))) else if ii = 5 then some (.reads false (.bool (decide (0 ≤ i) && decide (i < N)))) else if ii = 10 then some (.reads false (.bool (hasW W i))) else none) [4] [] ?_
  simp only [go_sem, reduceIte, reduceCtorEq, Nat.reduceAdd, Nat.reduceMul, Nat.reduceEqDiff, Nat.reduceLT, Nat.reduceLeDiff, Nat.reduceSub, Nat.reducePow, Nat.reduceBEq, Int.reduceToNat, List.reduceReplicate]
  repeat with_reducible refine cj ?_ ?_
  all_goals try first | (first | exact hv | (intro hh; exact ⟨hh, hin⟩) | (intro hh; refine ⟨hh, ?_⟩; simp at hh; have hs := validS_sz hh.1; have hd := div64_rng (i := i) (n := N) (by omega) (by omega); exact hh0 (by omega) (by omega))) | (intros; (repeat' apply And.intro) <;> first | assumption | (first | exact hv | (intro hh; exact ⟨hh, hin⟩) | (intro hh; refine ⟨hh, ?_⟩; simp at hh; have hs := validS_sz hh.1; have hd := div64_rng (i := i) (n := N) (by omega) (by omega); exact hh0 (by omega) (by omega)))) | omega | exact ent (by kernel_rfl) | (intro hgd; exact absurd hgd (by decide)) | rfl | (simp only [go_sem, reduceIte, reduceCtorEq, Nat.reduceAdd, Nat.reduceMul, Nat.reduceEqDiff, Nat.reduceLT, Nat.reduceLeDiff, Nat.reduceSub, Nat.reducePow, Nat.reduceBEq, Int.reduceToNat, List.reduceReplicate]; done) | (intro _hgd; simp_all [go_sem]; done)
  refine hK2 _ _ _ ?_; clear hK2
  refine AW.ret ?_
  rw [← hQr]
  simp only [go_sem, reduceIte, reduceCtorEq, Nat.reduceAdd, Nat.reduceMul, Nat.reduceEqDiff, Nat.reduceLT, Nat.reduceLeDiff, Nat.reduceSub, Nat.reducePow, Nat.reduceBEq, Int.reduceToNat, List.reduceReplicate]
  exact Wk.of_eq (by simp [memS, Bool.and_assoc])
theorem formed_a (N n : Int) (W : List Int) (hl : W.length ≤ 9223372036854775807) (hn0 : 0 ≤ n) (hn1 : n ≤ 512) (hm : n.tmod 64 = 0) : Reads Try.prog 52 false [.agg [.int .i64 N, .rsl 1 (words W)], .int .i64 n] (.bool (decide (N = n) && validS n W)) := by
  have hwe := wordsN_ref n
  have hwn := wordsN_rng (n := n) hn0
  have hdiv : 0 ≤ n.tdiv 64 ∧ n.tdiv 64 ≤ 512 ∧ n.tdiv 64 = wordsN n := by rw [← hwe]; rw [Int.tmod_eq_emod_of_nonneg hn0] at hm; rw [Int.tdiv_eq_ediv_of_nonneg (by omega), Int.tdiv_eq_ediv_of_nonneg (by omega)]; omega
  refine Reads.body (rs := [.tmp 4]) Try.func52 rfl Try.ntmps52 rfl (by simp) ?_
  generalize hQr : retQ _ _ _ = Qr
  refine AW.seq fun K1 hK1 => ?_
  -- region 0
  refine AW.regionK 0 (fun _ => none) [1, 2] [2] ?_
  simp only [go_sem, reduceIte, reduceCtorEq, Nat.reduceAdd, Nat.reduceMul, Nat.reduceEqDiff, Nat.reduceLT, Nat.reduceLeDiff, Nat.reduceSub, Nat.reducePow, Nat.reduceBEq, Int.reduceToNat, List.reduceReplicate]
  repeat with_reducible refine cj ?_ ?_
  all_goals try first | omega
  refine hK1 _ _ _ ?_; clear hK1
  refine AW.seq fun K2 hK2 => ?_
  refine AW.seq fun K3 hK3 => ?_
  -- region 1
  refine AW.regionK 0 (fun _ => none) [1, 2, 17] [2] ?_
  simp only [go_sem, reduceIte, reduceCtorEq, Nat.reduceAdd, Nat.reduceMul, Nat.reduceEqDiff, Nat.reduceLT, Nat.reduceLeDiff, Nat.reduceSub, Nat.reducePow, Nat.reduceBEq, Int.reduceToNat, List.reduceReplicate, hwe]
  repeat with_reducible refine cj ?_ ?_
  all_goals try first | omega | (intros; (repeat' apply And.intro) <;> first | assumption | omega | decide) | (intro hgd; exact absurd hgd (by decide)) | rfl | (simp only [go_sem, reduceIte, reduceCtorEq, Nat.reduceAdd, Nat.reduceMul, Nat.reduceEqDiff, Nat.reduceLT, Nat.reduceLeDiff, Nat.reduceSub, Nat.reducePow, Nat.reduceBEq, Int.reduceToNat, List.reduceReplicate, hwe]; done) | (intro _hgd; simp_all [go_sem]; done)
  refine hK3 _ _ _ ?_; clear hK3
  -- cond 1
  refine AW.cond rfl (by simp only [go_sem, reduceIte, reduceCtorEq, Nat.reduceAdd, Nat.reduceMul, Nat.reduceEqDiff, Nat.reduceLT, Nat.reduceLeDiff, Nat.reduceSub, Nat.reducePow, Nat.reduceBEq, Int.reduceToNat, List.reduceReplicate]) ?_ ?_
  · intro hb
    try simp only [hB, decide_eq_true_eq, decide_eq_false_iff_not] at hb
    refine AW.seq fun K4 hK4 => ?_
    -- region 2
    refine AW.regionK 0 (fun _ => none) [4] [] ?_
    simp only [go_sem, reduceIte, reduceCtorEq, Nat.reduceAdd, Nat.reduceMul, Nat.reduceEqDiff, Nat.reduceLT, Nat.reduceLeDiff, Nat.reduceSub, Nat.reducePow, Nat.reduceBEq, Int.reduceToNat, List.reduceReplicate]
    repeat with_reducible refine cj ?_ ?_
    all_goals try first | omega
    refine hK4 _ _ _ ?_; clear hK4
    refine AW.ret ?_
    rw [← hQr]
    simp only [go_sem, reduceIte, reduceCtorEq, Nat.reduceAdd, Nat.reduceMul, Nat.reduceEqDiff, Nat.reduceLT, Nat.reduceLeDiff, Nat.reduceSub, Nat.reducePow, Nat.reduceBEq, Int.reduceToNat, List.reduceReplicate]
    exact Wk.of_eq (by congr 1; symm; simp [validS]; intros; omega)
  · intro hb
    try simp only [hB, decide_eq_true_eq, decide_eq_false_iff_not] at hb
    have hlen : (W.length : Int) = wordsN n := by omega
    have hNn : N = n := by omega
    have hgw : (words W).getD (n.tdiv 64).toNat [] = [] := by rw [List.getD_eq_getElem?_getD, List.getElem?_eq_none (by rw [words_len]; omega)]; rfl
    refine AW.skip ?_
    refine hK2 _ _ _ ?_; clear hK2
    refine AW.seq fun K5 hK5 => ?_
    -- region 3
    refine AW.regionK 0 (fun _ => none) [4] [] ?_
    simp only [go_sem, reduceIte, reduceCtorEq, Nat.reduceAdd, Nat.reduceMul, Nat.reduceEqDiff, Nat.reduceLT, Nat.reduceLeDiff, Nat.reduceSub, Nat.reducePow, Nat.reduceBEq, Int.reduceToNat, List.reduceReplicate, hgw, hm]
    repeat with_reducible refine cj ?_ ?_
    all_goals try first | ((intro hh; (repeat' apply And.intro) <;> first | exact hh | omega | (exfalso; simp at hh; done))) | (intros; (repeat' apply And.intro) <;> first | assumption | ((intro hh; (repeat' apply And.intro) <;> first | exact hh | omega | (exfalso; simp at hh; done)))) | omega | (intro hgd; exact absurd hgd (by decide)) | rfl | (simp only [go_sem, reduceIte, reduceCtorEq, Nat.reduceAdd, Nat.reduceMul, Nat.reduceEqDiff, Nat.reduceLT, Nat.reduceLeDiff, Nat.reduceSub, Nat.reducePow, Nat.reduceBEq, Int.reduceToNat, List.reduceReplicate, hgw, hm]; done) | (intro _hgd; simp_all [go_sem]; done)
    refine hK5 _ _ _ ?_; clear hK5
    refine AW.ret ?_
    rw [← hQr]
    simp only [go_sem, reduceIte, reduceCtorEq, Nat.reduceAdd, Nat.reduceMul, Nat.reduceEqDiff, Nat.reduceLT, Nat.reduceLeDiff, Nat.reduceSub, Nat.reducePow, Nat.reduceBEq, Int.reduceToNat, List.reduceReplicate]
    exact Wk.of_eq (by simp [validS, topB, hm, hNn, hlen, hn0, hn1])
theorem formed_b (N n : Int) (W : List Int) (hl : W.length ≤ 9223372036854775807) (hn0 : 0 ≤ n) (hn1 : n ≤ 512) (hm : n.tmod 64 ≠ 0) : Reads Try.prog 52 false [.agg [.int .i64 N, .rsl 1 (words W)], .int .i64 n] (.bool (decide (N = n) && validS n W)) := by
  have hwe := wordsN_ref n
  have hwn := wordsN_rng (n := n) hn0
  have hmod : 0 ≤ n.tmod 64 ∧ n.tmod 64 < 64 := by rw [Int.tmod_eq_emod_of_nonneg (by omega)]; omega
  have hnz : n ≠ 0 := by rintro rfl; exact hm rfl
  refine Reads.body (rs := [.tmp 4]) Try.func52 rfl Try.ntmps52 rfl (by simp) ?_
  generalize hQr : retQ _ _ _ = Qr
  refine AW.seq fun K1 hK1 => ?_
  -- region 0
  refine AW.regionK 0 (fun _ => none) [1, 2] [2] ?_
  simp only [go_sem, reduceIte, reduceCtorEq, Nat.reduceAdd, Nat.reduceMul, Nat.reduceEqDiff, Nat.reduceLT, Nat.reduceLeDiff, Nat.reduceSub, Nat.reducePow, Nat.reduceBEq, Int.reduceToNat, List.reduceReplicate]
  repeat with_reducible refine cj ?_ ?_
  all_goals try first | omega
  refine hK1 _ _ _ ?_; clear hK1
  refine AW.seq fun K2 hK2 => ?_
  refine AW.seq fun K3 hK3 => ?_
  -- region 1
  refine AW.regionK 0 (fun _ => none) [1, 2, 17] [2] ?_
  simp only [go_sem, reduceIte, reduceCtorEq, Nat.reduceAdd, Nat.reduceMul, Nat.reduceEqDiff, Nat.reduceLT, Nat.reduceLeDiff, Nat.reduceSub, Nat.reducePow, Nat.reduceBEq, Int.reduceToNat, List.reduceReplicate, hwe]
  repeat with_reducible refine cj ?_ ?_
  all_goals try first | omega | (intros; (repeat' apply And.intro) <;> first | assumption | omega | decide) | (intro hgd; exact absurd hgd (by decide)) | rfl | (simp only [go_sem, reduceIte, reduceCtorEq, Nat.reduceAdd, Nat.reduceMul, Nat.reduceEqDiff, Nat.reduceLT, Nat.reduceLeDiff, Nat.reduceSub, Nat.reducePow, Nat.reduceBEq, Int.reduceToNat, List.reduceReplicate, hwe]; done) | (intro _hgd; simp_all [go_sem]; done)
  refine hK3 _ _ _ ?_; clear hK3
  -- cond 1
  refine AW.cond rfl (by simp only [go_sem, reduceIte, reduceCtorEq, Nat.reduceAdd, Nat.reduceMul, Nat.reduceEqDiff, Nat.reduceLT, Nat.reduceLeDiff, Nat.reduceSub, Nat.reducePow, Nat.reduceBEq, Int.reduceToNat, List.reduceReplicate]) ?_ ?_
  · intro hb
    try simp only [hB, decide_eq_true_eq, decide_eq_false_iff_not] at hb
    refine AW.seq fun K4 hK4 => ?_
    -- region 2
    refine AW.regionK 0 (fun _ => none) [4] [] ?_
    simp only [go_sem, reduceIte, reduceCtorEq, Nat.reduceAdd, Nat.reduceMul, Nat.reduceEqDiff, Nat.reduceLT, Nat.reduceLeDiff, Nat.reduceSub, Nat.reducePow, Nat.reduceBEq, Int.reduceToNat, List.reduceReplicate]
    repeat with_reducible refine cj ?_ ?_
    all_goals try first | omega
    refine hK4 _ _ _ ?_; clear hK4
    refine AW.ret ?_
    rw [← hQr]
    simp only [go_sem, reduceIte, reduceCtorEq, Nat.reduceAdd, Nat.reduceMul, Nat.reduceEqDiff, Nat.reduceLT, Nat.reduceLeDiff, Nat.reduceSub, Nat.reducePow, Nat.reduceBEq, Int.reduceToNat, List.reduceReplicate]
    exact Wk.of_eq (by congr 1; symm; simp [validS]; intros; omega)
  · intro hb
    try simp only [hB, decide_eq_true_eq, decide_eq_false_iff_not] at hb
    have hlen : (W.length : Int) = wordsN n := by omega
    have hNn : N = n := by omega
    obtain ⟨hti, htl⟩ := top_ix hn0 hlen hm
    have hdiv : 0 ≤ n.tdiv 64 ∧ n.tdiv 64 ≤ 512 := by rw [Int.tdiv_eq_ediv_of_nonneg (by omega)]; omega
    have hgw : (words W).getD (n.tdiv 64).toNat [] = [.int .u64 (W.getD (W.length - 1) 0)] := by rw [← hti]; exact words_getD (by omega)
    refine AW.skip ?_
    refine hK2 _ _ _ ?_; clear hK2
    refine AW.seq fun K5 hK5 => ?_
    -- region 3
    refine AW.regionK 0 (fun _ => none) [4] [] ?_
    simp only [go_sem, reduceIte, reduceCtorEq, Nat.reduceAdd, Nat.reduceMul, Nat.reduceEqDiff, Nat.reduceLT, Nat.reduceLeDiff, Nat.reduceSub, Nat.reducePow, Nat.reduceBEq, Int.reduceToNat, List.reduceReplicate, hgw]
    repeat with_reducible refine cj ?_ ?_
    all_goals try first | ((intro hh; (repeat' apply And.intro) <;> first | exact hh | omega)) | (intros; (repeat' apply And.intro) <;> first | assumption | ((intro hh; (repeat' apply And.intro) <;> first | exact hh | omega))) | omega | (intro hgd; exact absurd hgd (by decide)) | rfl | (simp only [go_sem, reduceIte, reduceCtorEq, Nat.reduceAdd, Nat.reduceMul, Nat.reduceEqDiff, Nat.reduceLT, Nat.reduceLeDiff, Nat.reduceSub, Nat.reducePow, Nat.reduceBEq, Int.reduceToNat, List.reduceReplicate, hgw]; done) | (intro _hgd; simp_all [go_sem]; done)
    refine hK5 _ _ _ ?_; clear hK5
    refine AW.ret ?_
    rw [← hQr]
    simp only [go_sem, reduceIte, reduceCtorEq, Nat.reduceAdd, Nat.reduceMul, Nat.reduceEqDiff, Nat.reduceLT, Nat.reduceLeDiff, Nat.reduceSub, Nat.reducePow, Nat.reduceBEq, Int.reduceToNat, List.reduceReplicate]
    exact Wk.of_eq (by simp [validS, topB, hm, hNn, hlen, hn0, hn1, hnz])
theorem formed_r (N n : Int) (W : List Int) (hl : W.length ≤ 9223372036854775807) (hn0 : 0 ≤ n) (hn1 : n ≤ 512) : Reads Try.prog 52 false [.agg [.int .i64 N, .rsl 1 (words W)], .int .i64 n] (.bool (decide (N = n) && validS n W)) := by
  by_cases hm : n.tmod 64 = 0
  · exact formed_a N n W hl hn0 hn1 hm
  · exact formed_b N n W hl hn0 hn1 hm
end Go.Proofs.F
namespace Go.Proofs.F
open Go.AM Go
set_option maxRecDepth 100000
set_option maxHeartbeats 1000000
theorem consB_succ (n : Net) (s t : Int) (fl : List Int) (j : Nat) : consB n s t fl (j + 1) = (consB n s t fl j && (decide ((j : Int) = s) || decide ((j : Int) = t) || decide (bal n fl j = 0))) := range_all_succ j
theorem consB_false {n : Net} {s t : Int} {fl : List Int} {j m : Nat} (h : j < m) (h1 : (j : Int) ≠ s) (h2 : (j : Int) ≠ t) (h3 : bal n fl j ≠ 0) : consB n s t fl m = false := range_all_false h (by simp [h1, h2, h3])
theorem worth_r (n : Net) (s t : Int) (fl : List Int) (hv : validB n = true) (he : endsB n s t = true) (hl : fl.length ≤ 9223372036854775807) :
    Reads Try.prog 49 false [netV n, .int .i64 s, .int .i64 t, .rsl 1 (ints fl)] (.tup [.int .i64 (if flowB n s t fl then bal n fl s else 0), .bool (flowB n s t fl)]) := by
  obtain ⟨hN1, hN2, hE⟩ := valid_size hv
  have hends : 0 ≤ s ∧ s < n.N ∧ 0 ≤ t ∧ t < n.N := by simp [endsB] at he; omega
  have hb0 := pbal_r n fl hv hl
  obtain ⟨ok, hok⟩ : ∃ ok, ok = (decide (fl.length = n.E.length) && capsB n.E fl n.E.length) := ⟨_, rfl⟩
  have hfb : flowB n s t fl = (ok && consB n s t fl n.N.toNat) := by rw [hok]; rfl
  rw [← hok] at hb0
  obtain ⟨L, hL⟩ : ∃ L, L = (if ok then balL n fl n.E.length else []) := ⟨_, rfl⟩
  rw [← hL] at hb0
  rw [hfb]
  unfold netV at *
  refine Reads.body (rs := [.tmp 8, .tmp 9]) Try.func49 rfl Try.ntmps49 rfl (by simp) ?_
  generalize hQr : retQ _ _ _ = Qr
  refine AW.seq fun K1 hK1 => ?_
  -- region 0
  refine AW.regionK 0 (fun _ => none) [1, 2, 3, 4] [4] ?_
  simp only [go_sem, reduceIte, reduceCtorEq, Nat.reduceAdd, Nat.reduceMul, Nat.reduceEqDiff, Nat.reduceLT, Nat.reduceLeDiff, Nat.reduceSub, Nat.reducePow, Nat.reduceBEq, Int.reduceToNat, List.reduceReplicate]
  repeat with_reducible refine cj ?_ ?_
  all_goals try first | omega
  refine hK1 _ _ _ ?_; clear hK1
  refine AW.seq fun K2 hK2 => ?_
  -- region 1
  refine AW.regionK 0 (fun ii => if ii = 2 then some (.reads true (.tup [.rsl 1 (ints L), .bool ok])) else none) [1, 2, 10, 11] [] ?_
  simp only [go_sem, reduceIte, reduceCtorEq, Nat.reduceAdd, Nat.reduceMul, Nat.reduceEqDiff, Nat.reduceLT, Nat.reduceLeDiff, Nat.reduceSub, Nat.reducePow, Nat.reduceBEq, Int.reduceToNat, List.reduceReplicate]
  repeat with_reducible refine cj ?_ ?_
  all_goals try first | (exact hb0) | omega | exact ent (by kernel_rfl)
  refine hK2 _ _ _ ?_; clear hK2
  refine AW.seq fun K3 hK3 => ?_
  refine AW.seq fun K4 hK4 => ?_
  -- region 2
  refine AW.regionK 0 (fun _ => none) [1, 2, 10, 21] [] ?_
  simp only [go_sem, reduceIte, reduceCtorEq, Nat.reduceAdd, Nat.reduceMul, Nat.reduceEqDiff, Nat.reduceLT, Nat.reduceLeDiff, Nat.reduceSub, Nat.reducePow, Nat.reduceBEq, Int.reduceToNat, List.reduceReplicate]
  repeat with_reducible refine cj ?_ ?_
  all_goals try first | omega
  refine hK4 _ _ _ ?_; clear hK4
  -- cond 1
  refine AW.cond rfl (by simp only [go_sem, reduceIte, reduceCtorEq, Nat.reduceAdd, Nat.reduceMul, Nat.reduceEqDiff, Nat.reduceLT, Nat.reduceLeDiff, Nat.reduceSub, Nat.reducePow, Nat.reduceBEq, Int.reduceToNat, List.reduceReplicate]) ?_ ?_
  · intro hb
    try simp only [hB, decide_eq_true_eq, decide_eq_false_iff_not] at hb
    refine AW.seq fun K5 hK5 => ?_
    -- region 3
    refine AW.regionK 0 (fun _ => none) [8, 9] [] ?_
    simp only [go_sem, reduceIte, reduceCtorEq, Nat.reduceAdd, Nat.reduceMul, Nat.reduceEqDiff, Nat.reduceLT, Nat.reduceLeDiff, Nat.reduceSub, Nat.reducePow, Nat.reduceBEq, Int.reduceToNat, List.reduceReplicate]
    repeat with_reducible refine cj ?_ ?_
    all_goals try first | omega
    refine hK5 _ _ _ ?_; clear hK5
    refine AW.ret ?_
    rw [← hQr]
    simp only [go_sem, reduceIte, reduceCtorEq, Nat.reduceAdd, Nat.reduceMul, Nat.reduceEqDiff, Nat.reduceLT, Nat.reduceLeDiff, Nat.reduceSub, Nat.reducePow, Nat.reduceBEq, Int.reduceToNat, List.reduceReplicate]
    exact Wk.of_eq (by simp [hb])
  · intro hb
    try simp only [hB, decide_eq_true_eq, decide_eq_false_iff_not] at hb
    have hok1 : ok = true := by simpa using hb
    rw [hok1, if_pos rfl] at hL
    have hLl : L.length = n.N.toNat := by rw [hL, balL_len]
    have hLg : ∀ i : Nat, i < n.N.toNat → L.getD i 0 = bal n fl i := fun i hi => by rw [hL, balL_get hi]
    refine AW.skip ?_
    refine hK3 _ _ _ ?_; clear hK3
    refine AW.seq fun K6 hK6 => ?_
    refine AW.seq fun K7 hK7 => ?_
    -- region 4
    refine AW.regionK 0 (fun _ => none) [1, 2, 10, 22, 23, 24] [] ?_
    simp only [go_sem, reduceIte, reduceCtorEq, Nat.reduceAdd, Nat.reduceMul, Nat.reduceEqDiff, Nat.reduceLT, Nat.reduceLeDiff, Nat.reduceSub, Nat.reducePow, Nat.reduceBEq, Int.reduceToNat, List.reduceReplicate]
    repeat with_reducible refine cj ?_ ?_
    all_goals try first | omega
    refine hK7 _ _ _ ?_; clear hK7
    refine AW.block ?_
    -- loop 1
    refine AW.loopE (fun mm ee ss kk => ∃ (j : Nat), L.length - j = mm ∧ ee = [(1, .int .i64 s), (2, .int .i64 t), (10, .rsl 1 (ints L)), (22, .rsl 1 (ints L)), (23, .int .i64 L.length), (24, .int .i64 (j : Nat))] ∧ ss = [] ∧ (j ≤ L.length ∧ consB n s t fl j = true)) ?_ ?_
    · refine ⟨_, 0, rfl, ?henv, ?hstore, ?hst⟩
      case henv =>
        repeat' (first | rfl | refine env_cons ?_ ?_ | refine st_cons ?_ ?_ ?_ ?_ | refine int_eq ?_ | refine bool_eq ?_ | refine rsl_eq ?_ | refine osl_eq ?_ | refine sl_eq ?_ ?_ ?_ | refine ptr_eq ?_ ?_ ?_ | refine agg_eq ?_ | refine es_cons ?_ ?_ | refine row_cons ?_ ?_)
        all_goals (first | (simp; done) | omega | (simp; omega))
      case hstore =>
        repeat' (first | rfl | refine env_cons ?_ ?_ | refine st_cons ?_ ?_ ?_ ?_ | refine int_eq ?_ | refine bool_eq ?_ | refine rsl_eq ?_ | refine osl_eq ?_ | refine sl_eq ?_ ?_ ?_ | refine ptr_eq ?_ ?_ ?_ | refine agg_eq ?_ | refine es_cons ?_ ?_ | refine row_cons ?_ ?_)
        all_goals (first | (simp; done) | omega | (simp; omega))
      case hst =>
        exact ⟨Nat.zero_le _, rfl⟩
    rintro mm ee ss kk ⟨j, rfl, rfl, rfl, hI⟩
    generalize hQl1 : thenQ _ _ = Ql1
    obtain ⟨hj, hc⟩ := hI
    refine AW.seq fun K8 hK8 => ?_
    -- region 5
    refine AW.regionK 0 (fun _ => none) [1, 2, 10, 22, 23, 24, 25] [] ?_
    simp only [go_sem, reduceIte, reduceCtorEq, Nat.reduceAdd, Nat.reduceMul, Nat.reduceEqDiff, Nat.reduceLT, Nat.reduceLeDiff, Nat.reduceSub, Nat.reducePow, Nat.reduceBEq, Int.reduceToNat, List.reduceReplicate]
    repeat with_reducible refine cj ?_ ?_
    all_goals try first | omega
    refine hK8 _ _ _ ?_; clear hK8
    refine AW.seq fun K9 hK9 => ?_
    -- cond 2
    refine AW.cond rfl (by simp only [go_sem, reduceIte, reduceCtorEq, Nat.reduceAdd, Nat.reduceMul, Nat.reduceEqDiff, Nat.reduceLT, Nat.reduceLeDiff, Nat.reduceSub, Nat.reducePow, Nat.reduceBEq, Int.reduceToNat, List.reduceReplicate]) ?_ ?_
    · intro hb
      try simp only [hB, decide_eq_true_eq, decide_eq_false_iff_not] at hb
      have hgl := ints_getD (l := L) (i := j) (by omega)
      have hbj := hLg j (by omega)
      have hcs := consB_succ n s t fl j
      rw [hc, ← hbj] at hcs
      refine AW.skip ?_
      refine hK9 _ _ _ ?_; clear hK9
      refine AW.seq fun K10 hK10 => ?_
      refine AW.block ?_
      refine AW.seq fun K11 hK11 => ?_
      -- region 6
      refine AW.regionK 0 (fun _ => none) [1, 2, 10, 12, 13, 22, 23, 24] [] ?_
      simp only [go_sem, reduceIte, reduceCtorEq, Nat.reduceAdd, Nat.reduceMul, Nat.reduceEqDiff, Nat.reduceLT, Nat.reduceLeDiff, Nat.reduceSub, Nat.reducePow, Nat.reduceBEq, Int.reduceToNat, List.reduceReplicate, hgl]
      repeat with_reducible refine cj ?_ ?_
      all_goals try first | omega
      refine hK11 _ _ _ ?_; clear hK11
      refine AW.seq fun K12 hK12 => ?_
      -- region 7
      refine AW.regionK 0 (fun _ => none) [1, 2, 10, 22, 23, 24, 40] [] ?_
      simp only [go_sem, reduceIte, reduceCtorEq, Nat.reduceAdd, Nat.reduceMul, Nat.reduceEqDiff, Nat.reduceLT, Nat.reduceLeDiff, Nat.reduceSub, Nat.reducePow, Nat.reduceBEq, Int.reduceToNat, List.reduceReplicate]
      repeat with_reducible refine cj ?_ ?_
      all_goals try first | omega | (intros; (repeat' apply And.intro) <;> first | assumption | omega | decide) | (intro hgd; exact absurd hgd (by decide)) | rfl | (simp only [go_sem, reduceIte, reduceCtorEq, Nat.reduceAdd, Nat.reduceMul, Nat.reduceEqDiff, Nat.reduceLT, Nat.reduceLeDiff, Nat.reduceSub, Nat.reducePow, Nat.reduceBEq, Int.reduceToNat, List.reduceReplicate]; done) | (intro _hgd; simp_all [go_sem]; done)
      refine hK12 _ _ _ ?_; clear hK12
      -- cond 3
      refine AW.cond rfl (by simp only [go_sem, reduceIte, reduceCtorEq, Nat.reduceAdd, Nat.reduceMul, Nat.reduceEqDiff, Nat.reduceLT, Nat.reduceLeDiff, Nat.reduceSub, Nat.reducePow, Nat.reduceBEq, Int.reduceToNat, List.reduceReplicate]) ?_ ?_
      · intro hb
        try simp only [hB, decide_eq_true_eq, decide_eq_false_iff_not] at hb
        refine AW.seq fun K13 hK13 => ?_
        -- region 8
        refine AW.regionK 0 (fun _ => none) [8, 9] [] ?_
        simp only [go_sem, reduceIte, reduceCtorEq, Nat.reduceAdd, Nat.reduceMul, Nat.reduceEqDiff, Nat.reduceLT, Nat.reduceLeDiff, Nat.reduceSub, Nat.reducePow, Nat.reduceBEq, Int.reduceToNat, List.reduceReplicate]
        repeat with_reducible refine cj ?_ ?_
        all_goals try first | omega
        refine hK13 _ _ _ ?_; clear hK13
        refine AW.ret ?_
        rw [← hQl1]
        rw [← hQr]
        simp only [go_sem, reduceIte, reduceCtorEq, Nat.reduceAdd, Nat.reduceMul, Nat.reduceEqDiff, Nat.reduceLT, Nat.reduceLeDiff, Nat.reduceSub, Nat.reducePow, Nat.reduceBEq, Int.reduceToNat, List.reduceReplicate]
        have hf := consB_false (n := n) (s := s) (t := t) (fl := fl) (j := j) (m := n.N.toNat) (by omega) (by omega) (by omega) (by rw [← hbj]; omega)
        exact Wk.of_eq (by simp [hf])
      · intro hb
        try simp only [hB, decide_eq_true_eq, decide_eq_false_iff_not] at hb
        refine AW.skip ?_
        refine hK10 _ _ _ ?_; clear hK10
        -- region 9
        refine AW.regionK 0 (fun _ => none) [1, 2, 10, 22, 23, 24] [] ?_
        simp only [go_sem, reduceIte, reduceCtorEq, Nat.reduceAdd, Nat.reduceMul, Nat.reduceEqDiff, Nat.reduceLT, Nat.reduceLeDiff, Nat.reduceSub, Nat.reducePow, Nat.reduceBEq, Int.reduceToNat, List.reduceReplicate]
        repeat with_reducible refine cj ?_ ?_
        all_goals try first | omega
        rw [← hQl1]
        change Exists _
        refine ⟨_, ?hm, j + 1, rfl, ?henv, ?hstore, ?hst⟩
        case henv =>
          repeat' (first | rfl | refine env_cons ?_ ?_ | refine st_cons ?_ ?_ ?_ ?_ | refine int_eq ?_ | refine bool_eq ?_ | refine rsl_eq ?_ | refine osl_eq ?_ | refine sl_eq ?_ ?_ ?_ | refine ptr_eq ?_ ?_ ?_ | refine agg_eq ?_ | refine es_cons ?_ ?_ | refine row_cons ?_ ?_)
          all_goals (first | (simp; done) | omega | (simp; omega))
        case hstore =>
          repeat' (first | rfl | refine env_cons ?_ ?_ | refine st_cons ?_ ?_ ?_ ?_ | refine int_eq ?_ | refine bool_eq ?_ | refine rsl_eq ?_ | refine osl_eq ?_ | refine sl_eq ?_ ?_ ?_ | refine ptr_eq ?_ ?_ ?_ | refine agg_eq ?_ | refine es_cons ?_ ?_ | refine row_cons ?_ ?_)
          all_goals (first | (simp; done) | omega | (simp; omega))
        case hst =>
          exact ⟨by omega, by rw [hcs, Bool.true_and]; simp only [Bool.or_eq_true, decide_eq_true_eq]; omega⟩
        case hm => omega
    · intro hb
      try simp only [hB, decide_eq_true_eq, decide_eq_false_iff_not] at hb
      have hj2 : j = n.N.toNat := by omega
      subst hj2
      have hgs := ints_getD (l := L) (i := s.toNat) (by omega)
      have hbs := hLg s.toNat (by omega)
      rw [Int.toNat_of_nonneg hends.1] at hbs
      refine AW.keep [1, 10] [] ?_
      try simp only [go_sem, reduceIte, reduceCtorEq, Nat.reduceAdd, Nat.reduceMul, Nat.reduceEqDiff, Nat.reduceLT, Nat.reduceLeDiff, Nat.reduceSub, Nat.reducePow, Nat.reduceBEq, Int.reduceToNat, List.reduceReplicate]
      refine AW.exit ?_
      rw [← hQl1]
      refine hK6 _ _ _ ?_; clear hK6
      refine AW.seq fun K14 hK14 => ?_
      -- region 10
      refine AW.regionK 0 (fun _ => none) [8, 9] [] ?_
      simp only [go_sem, reduceIte, reduceCtorEq, Nat.reduceAdd, Nat.reduceMul, Nat.reduceEqDiff, Nat.reduceLT, Nat.reduceLeDiff, Nat.reduceSub, Nat.reducePow, Nat.reduceBEq, Int.reduceToNat, List.reduceReplicate, hgs]
      repeat with_reducible refine cj ?_ ?_
      all_goals try first | omega
      refine hK14 _ _ _ ?_; clear hK14
      refine AW.ret ?_
      rw [← hQr]
      simp only [go_sem, reduceIte, reduceCtorEq, Nat.reduceAdd, Nat.reduceMul, Nat.reduceEqDiff, Nat.reduceLT, Nat.reduceLeDiff, Nat.reduceSub, Nat.reducePow, Nat.reduceBEq, Int.reduceToNat, List.reduceReplicate]
      exact Wk.of_eq (by rw [hok1, hc, hbs]; simp)
def checkS (n : Net) (s t : Int) (fl : List Int) (N : Int) (W : List Int) : Bool :=
  validB n && (endsB n s t && (flowB n s t fl && (validS N W && (decide (N = n.N) && (hasW W s && (!hasW W t && decide (bal n fl s = capAt n.E (hasW W) n.E.length)))))))
theorem memS_eq {N : Int} {W : List Int} {i : Int} (hv : validS N W = true) (h0 : 0 ≤ i) (h1 : i < N) : memS N W i = hasW W i := by simp [memS, hv, h0, h1]
theorem fcheck_r (n : Net) (s t : Int) (fl : List Int) (N : Int) (W : List Int) (hE0 : n.E.length ≤ 9223372036854775807) (hl : fl.length ≤ 9223372036854775807) (hl2 : W.length ≤ 9223372036854775807) (hW : okW W) :
    Reads Try.prog 31 false [netV n, .int .i64 s, .int .i64 t, .rsl 1 (ints fl), .agg [.int .i64 N, .rsl 1 (words W)]] (.bool (checkS n s t fl N W)) := by
  have hck := check_r n s t hE0
  have hvs := bvalid_r N W hl2
  have hhas := fun i => bhas_r N W i hW hl2
  have hwo := fun hv he => worth_r n s t fl hv he hl
  have hcb := fun hv j (hj : j ≤ n.E.length) => capAt_bnd (E := n.E) (S := hasW W) (B := 1125899906842624) (fun i hi => by have := valid_edge hv (eAt_get hi); omega) j hj
  have hchk : checkC n s t = 0 → validB n = true ∧ endsB n s t = true := by
    intro h; unfold checkC at h
    cases h1 : validB n <;> cases h2 : endsB n s t <;> simp_all
  have hchk2 : checkC n s t ≠ 0 → checkS n s t fl N W = false := by
    intro h; unfold checkS; unfold checkC at h
    cases h1 : validB n <;> cases h2 : endsB n s t <;> simp_all
  unfold netV at *
  refine Reads.body (rs := [.tmp 10]) Try.func31 rfl Try.ntmps31 rfl (by simp) ?_
  generalize hQr : retQ _ _ _ = Qr
  refine AW.seq fun K1 hK1 => ?_
  -- region 0
  refine AW.regionK 0 (fun _ => none) [1, 2, 3, 5, 9] [5, 9] ?_
  simp only [go_sem, reduceIte, reduceCtorEq, Nat.reduceAdd, Nat.reduceMul, Nat.reduceEqDiff, Nat.reduceLT, Nat.reduceLeDiff, Nat.reduceSub, Nat.reducePow, Nat.reduceBEq, Int.reduceToNat, List.reduceReplicate]
  repeat with_reducible refine cj ?_ ?_
  all_goals try first | omega
  refine hK1 _ _ _ ?_; clear hK1
  refine AW.seq fun K2 hK2 => ?_
  refine AW.seq fun K3 hK3 => ?_
  -- region 1
  refine AW.regionK 0 (fun ii => if ii = 3 then some (.reads false (.int .i64 (checkC n s t))) else none) [1, 2, 3, 5, 9, 20] [5, 9] ?_
  simp only [go_sem, reduceIte, reduceCtorEq, Nat.reduceAdd, Nat.reduceMul, Nat.reduceEqDiff, Nat.reduceLT, Nat.reduceLeDiff, Nat.reduceSub, Nat.reducePow, Nat.reduceBEq, Int.reduceToNat, List.reduceReplicate]
  repeat with_reducible refine cj ?_ ?_
  all_goals try first | (exact hck) | omega | exact ent (by kernel_rfl)
  refine hK3 _ _ _ ?_; clear hK3
  -- cond 1
  refine AW.cond rfl (by simp only [go_sem, reduceIte, reduceCtorEq, Nat.reduceAdd, Nat.reduceMul, Nat.reduceEqDiff, Nat.reduceLT, Nat.reduceLeDiff, Nat.reduceSub, Nat.reducePow, Nat.reduceBEq, Int.reduceToNat, List.reduceReplicate]) ?_ ?_
  · intro hb
    try simp only [hB, decide_eq_true_eq, decide_eq_false_iff_not] at hb
    refine AW.seq fun K4 hK4 => ?_
    -- region 2
    refine AW.regionK 0 (fun _ => none) [10] [] ?_
    simp only [go_sem, reduceIte, reduceCtorEq, Nat.reduceAdd, Nat.reduceMul, Nat.reduceEqDiff, Nat.reduceLT, Nat.reduceLeDiff, Nat.reduceSub, Nat.reducePow, Nat.reduceBEq, Int.reduceToNat, List.reduceReplicate]
    repeat with_reducible refine cj ?_ ?_
    all_goals try first | omega
    refine hK4 _ _ _ ?_; clear hK4
    refine AW.ret ?_
    rw [← hQr]
    simp only [go_sem, reduceIte, reduceCtorEq, Nat.reduceAdd, Nat.reduceMul, Nat.reduceEqDiff, Nat.reduceLT, Nat.reduceLeDiff, Nat.reduceSub, Nat.reducePow, Nat.reduceBEq, Int.reduceToNat, List.reduceReplicate]
    exact Wk.of_eq (by rw [hchk2 (by omega)])
  · intro hb
    try simp only [hB, decide_eq_true_eq, decide_eq_false_iff_not] at hb
    obtain ⟨hv, he⟩ := hchk (by omega)
    obtain ⟨hN1, hN2, hE⟩ := valid_size hv
    have hends : 0 ≤ s ∧ s < n.N ∧ 0 ≤ t ∧ t < n.N := by simp [endsB] at he; omega
    have hwo := hwo hv he
    have hcb := hcb hv
    refine AW.skip ?_
    refine hK2 _ _ _ ?_; clear hK2
    refine AW.seq fun K5 hK5 => ?_
    -- region 3
    refine AW.regionK 0 (fun ii => if ii = 4 then some (.reads false (.tup [.int .i64 (if flowB n s t fl then bal n fl s else 0), .bool (flowB n s t fl)])) else none) [1, 2, 5, 9, 11, 12] [5, 9] ?_
    simp only [go_sem, reduceIte, reduceCtorEq, Nat.reduceAdd, Nat.reduceMul, Nat.reduceEqDiff, Nat.reduceLT, Nat.reduceLeDiff, Nat.reduceSub, Nat.reducePow, Nat.reduceBEq, Int.reduceToNat, List.reduceReplicate]
    repeat with_reducible refine cj ?_ ?_
    all_goals try first | (exact hwo) | omega | exact ent (by kernel_rfl)
    refine hK5 _ _ _ ?_; clear hK5
    refine AW.seq fun K6 hK6 => ?_
    refine AW.seq fun K7 hK7 => ?_
    -- region 4
    refine AW.regionK 0 (fun ii => if ii = 4 then some (.reads false (.bool (validS N W))) else if ii = 17 then some (.reads false (.bool (memS N W s))) else if ii = 23 then some (.reads false (.bool (memS N W t))) else none) [5, 9, 11, 53] [5, 9] ?_
    simp only [go_sem, reduceIte, reduceCtorEq, Nat.reduceAdd, Nat.reduceMul, Nat.reduceEqDiff, Nat.reduceLT, Nat.reduceLeDiff, Nat.reduceSub, Nat.reducePow, Nat.reduceBEq, Int.reduceToNat, List.reduceReplicate]
    repeat with_reducible refine cj ?_ ?_
    all_goals try first | (first | (intro hh; exact ⟨hh, hvs⟩) | (intro hh; exact ⟨hh, hhas _⟩)) | (intros; (repeat' apply And.intro) <;> first | assumption | (first | (intro hh; exact ⟨hh, hvs⟩) | (intro hh; exact ⟨hh, hhas _⟩))) | omega | exact ent (by kernel_rfl) | (intro hgd; exact absurd hgd (by decide)) | rfl | (simp only [go_sem, reduceIte, reduceCtorEq, Nat.reduceAdd, Nat.reduceMul, Nat.reduceEqDiff, Nat.reduceLT, Nat.reduceLeDiff, Nat.reduceSub, Nat.reducePow, Nat.reduceBEq, Int.reduceToNat, List.reduceReplicate]; done) | (intro _hgd; simp_all [go_sem]; done)
    refine hK7 _ _ _ ?_; clear hK7
    -- cond 2
    refine AW.cond rfl (by simp only [go_sem, reduceIte, reduceCtorEq, Nat.reduceAdd, Nat.reduceMul, Nat.reduceEqDiff, Nat.reduceLT, Nat.reduceLeDiff, Nat.reduceSub, Nat.reducePow, Nat.reduceBEq, Int.reduceToNat, List.reduceReplicate]) ?_ ?_
    · intro hb
      try simp only [hB, decide_eq_true_eq, decide_eq_false_iff_not] at hb
      refine AW.seq fun K8 hK8 => ?_
      -- region 5
      refine AW.regionK 0 (fun _ => none) [10] [] ?_
      simp only [go_sem, reduceIte, reduceCtorEq, Nat.reduceAdd, Nat.reduceMul, Nat.reduceEqDiff, Nat.reduceLT, Nat.reduceLeDiff, Nat.reduceSub, Nat.reducePow, Nat.reduceBEq, Int.reduceToNat, List.reduceReplicate]
      repeat with_reducible refine cj ?_ ?_
      all_goals try first | omega
      refine hK8 _ _ _ ?_; clear hK8
      refine AW.ret ?_
      rw [← hQr]
      simp only [go_sem, reduceIte, reduceCtorEq, Nat.reduceAdd, Nat.reduceMul, Nat.reduceEqDiff, Nat.reduceLT, Nat.reduceLeDiff, Nat.reduceSub, Nat.reducePow, Nat.reduceBEq, Int.reduceToNat, List.reduceReplicate]
      exact Wk.of_eq (by unfold checkS; unfold memS at hb; cases h1 : flowB n s t fl <;> cases h2 : validS N W <;> cases h3 : hasW W s <;> cases h4 : hasW W t <;> simp_all <;> omega)
    · intro hb
      try simp only [hB, decide_eq_true_eq, decide_eq_false_iff_not] at hb
      have hfl : flowB n s t fl = true := by revert hb; cases flowB n s t fl <;> simp
      have hvW : validS N W = true := by revert hb; cases validS N W <;> simp
      have hNn : N = n.N := by simp only [hfl, hvW] at hb; simp at hb; omega
      have hm1 := memS_eq (i := s) hvW (by omega) (by omega)
      have hm2 := memS_eq (i := t) hvW (by omega) (by omega)
      rw [hm1, hm2, hfl, hvW] at hb
      have hs1 : hasW W s = true := by simp at hb; first | exact hb.1 | exact hb.1.2
      have ht1 : hasW W t = false := by simp at hb; exact hb.2
      have hmx := fun i h0 h1 => memS_eq (i := i) hvW h0 h1
      generalize hS : hasW W = S at *
      refine AW.skip ?_
      refine hK6 _ _ _ ?_; clear hK6
      refine AW.seq fun K9 hK9 => ?_
      -- region 6
      refine AW.regionK 0 (fun _ => none) [5, 9, 11, 13] [5, 9] ?_
      simp only [go_sem, reduceIte, reduceCtorEq, Nat.reduceAdd, Nat.reduceMul, Nat.reduceEqDiff, Nat.reduceLT, Nat.reduceLeDiff, Nat.reduceSub, Nat.reducePow, Nat.reduceBEq, Int.reduceToNat, List.reduceReplicate]
      repeat with_reducible refine cj ?_ ?_
      all_goals try first | omega
      refine hK9 _ _ _ ?_; clear hK9
      refine AW.seq fun K10 hK10 => ?_
      refine AW.seq fun K11 hK11 => ?_
      -- region 7
      refine AW.regionK 0 (fun _ => none) [9, 11, 13, 55, 56, 57] [9] ?_
      simp only [go_sem, reduceIte, reduceCtorEq, Nat.reduceAdd, Nat.reduceMul, Nat.reduceEqDiff, Nat.reduceLT, Nat.reduceLeDiff, Nat.reduceSub, Nat.reducePow, Nat.reduceBEq, Int.reduceToNat, List.reduceReplicate]
      repeat with_reducible refine cj ?_ ?_
      all_goals try first | omega
      refine hK11 _ _ _ ?_; clear hK11
      refine AW.block ?_
      -- loop 1
      refine AW.loopE (fun mm ee ss kk => ∃ (j g9 v9 : Nat), n.E.length - j = mm ∧ ee = [(9, .ptr ⟨9, g9, none⟩ 0 0), (11, .int .i64 (bal n fl s)), (13, .int .i64 (capAt n.E S j)), (55, .rsl 3 (n.E.map edgeV)), (56, .int .i64 n.E.length), (57, .int .i64 (j : Nat))] ∧ ss = [(9, some ⟨g9, v9, 2, [[.int .i64 N, .rsl 1 (words W)]]⟩)] ∧ (j ≤ n.E.length)) ?_ ?_
      · refine ⟨_, 0, ?_, ?_, rfl, ?henv, ?hstore, ?hst⟩
        case henv =>
          repeat' (first | rfl | refine env_cons ?_ ?_ | refine st_cons ?_ ?_ ?_ ?_ | refine int_eq ?_ | refine bool_eq ?_ | refine rsl_eq ?_ | refine osl_eq ?_ | refine sl_eq ?_ ?_ ?_ | refine ptr_eq ?_ ?_ ?_ | refine agg_eq ?_ | refine es_cons ?_ ?_ | refine row_cons ?_ ?_)
          all_goals (first | (rw [hfl]; rfl) | rfl)
        case hstore =>
          repeat' (first | rfl | refine env_cons ?_ ?_ | refine st_cons ?_ ?_ ?_ ?_ | refine int_eq ?_ | refine bool_eq ?_ | refine rsl_eq ?_ | refine osl_eq ?_ | refine sl_eq ?_ ?_ ?_ | refine ptr_eq ?_ ?_ ?_ | refine agg_eq ?_ | refine es_cons ?_ ?_ | refine row_cons ?_ ?_)
          all_goals (first | (simp; done) | omega | (simp; omega))
        case hst =>
          first | trivial | omega | (simp; done) | (simp; omega)
      rintro mm ee ss kk ⟨j, g9, v9, rfl, rfl, rfl, hI⟩
      generalize hQl1 : thenQ _ _ = Ql1
      refine AW.seq fun K12 hK12 => ?_
      -- region 8
      refine AW.regionK 0 (fun _ => none) [9, 11, 13, 55, 56, 57, 58] [9] ?_
      simp only [go_sem, reduceIte, reduceCtorEq, Nat.reduceAdd, Nat.reduceMul, Nat.reduceEqDiff, Nat.reduceLT, Nat.reduceLeDiff, Nat.reduceSub, Nat.reducePow, Nat.reduceBEq, Int.reduceToNat, List.reduceReplicate]
      repeat with_reducible refine cj ?_ ?_
      all_goals try first | omega
      refine hK12 _ _ _ ?_; clear hK12
      refine AW.seq fun K13 hK13 => ?_
      -- cond 3
      refine AW.cond rfl (by simp only [go_sem, reduceIte, reduceCtorEq, Nat.reduceAdd, Nat.reduceMul, Nat.reduceEqDiff, Nat.reduceLT, Nat.reduceLeDiff, Nat.reduceSub, Nat.reducePow, Nat.reduceBEq, Int.reduceToNat, List.reduceReplicate]) ?_ ?_
      · intro hb
        try simp only [hB, decide_eq_true_eq, decide_eq_false_iff_not] at hb
        obtain ⟨x, hx⟩ := getI (l := n.E) (j := j) (by omega)
        have hxv := getV (f := edgeV) hx
        have hea := eAt_of hx
        have hxr := valid_edge hv hx
        have hcs : capAt n.E S (j + 1) = capAt n.E S j + if S (eAt n.E j).fr = true ∧ S (eAt n.E j).to = false then (eAt n.E j).cap else 0 := rfl
        have hb0 := hcb j (by omega)
        rw [hea] at hcs
        have hj2 : (j : Int) < 2000 := by omega
        have hmf := hmx x.fr (by omega) (by omega)
        have hmt := hmx x.to (by omega) (by omega)
        have hhf := hhas x.fr
        have hht := hhas x.to
        rw [hmf] at hhf
        rw [hmt] at hht
        generalize capAt n.E S j = cq at *
        refine AW.skip ?_
        refine hK13 _ _ _ ?_; clear hK13
        refine AW.seq fun K14 hK14 => ?_
        refine AW.block ?_
        refine AW.seq fun K15 hK15 => ?_
        -- region 9
        refine AW.regionK 0 (fun _ => none) [9, 11, 13, 15, 55, 56, 57] [9, 15] ?_
        simp only [go_sem, reduceIte, reduceCtorEq, Nat.reduceAdd, Nat.reduceMul, Nat.reduceEqDiff, Nat.reduceLT, Nat.reduceLeDiff, Nat.reduceSub, Nat.reducePow, Nat.reduceBEq, Int.reduceToNat, List.reduceReplicate, hxv, edgeV]
        repeat with_reducible refine cj ?_ ?_
        all_goals try first | omega
        refine hK15 _ _ _ ?_; clear hK15
        refine AW.seq fun K16 hK16 => ?_
        -- region 10
        refine AW.regionK 0 (fun ii => if ii = 3 then some (.reads false (.bool (S x.fr))) else if ii = 8 then some (.reads false (.bool (S x.to))) else none) [9, 11, 13, 15, 55, 56, 57, 71] [9, 15] ?_
        simp only [go_sem, reduceIte, reduceCtorEq, Nat.reduceAdd, Nat.reduceMul, Nat.reduceEqDiff, Nat.reduceLT, Nat.reduceLeDiff, Nat.reduceSub, Nat.reducePow, Nat.reduceBEq, Int.reduceToNat, List.reduceReplicate, edgeV]
        repeat with_reducible refine cj ?_ ?_
        all_goals try first | (first | exact hhf | exact hht | (intro hh; exact ⟨hh, hht⟩)) | (intros; (repeat' apply And.intro) <;> first | assumption | (first | exact hhf | exact hht | (intro hh; exact ⟨hh, hht⟩))) | omega | exact ent (by kernel_rfl) | (intro hgd; exact absurd hgd (by decide)) | rfl | (simp only [go_sem, reduceIte, reduceCtorEq, Nat.reduceAdd, Nat.reduceMul, Nat.reduceEqDiff, Nat.reduceLT, Nat.reduceLeDiff, Nat.reduceSub, Nat.reducePow, Nat.reduceBEq, Int.reduceToNat, List.reduceReplicate, edgeV]; done) | (intro _hgd; simp_all [go_sem]; done)
        refine hK16 _ _ _ ?_; clear hK16
        -- cond 4
        refine AW.cond rfl (by simp only [go_sem, reduceIte, reduceCtorEq, Nat.reduceAdd, Nat.reduceMul, Nat.reduceEqDiff, Nat.reduceLT, Nat.reduceLeDiff, Nat.reduceSub, Nat.reducePow, Nat.reduceBEq, Int.reduceToNat, List.reduceReplicate]) ?_ ?_
        · intro hb
          try simp only [hB, decide_eq_true_eq, decide_eq_false_iff_not] at hb
          rw [if_pos hb] at hcs
          -- region 11
          refine AW.regionK 0 (fun _ => none) [9, 11, 13, 55, 56, 57] [9] ?_
          simp only [go_sem, reduceIte, reduceCtorEq, Nat.reduceAdd, Nat.reduceMul, Nat.reduceEqDiff, Nat.reduceLT, Nat.reduceLeDiff, Nat.reduceSub, Nat.reducePow, Nat.reduceBEq, Int.reduceToNat, List.reduceReplicate]
          repeat with_reducible refine cj ?_ ?_
          all_goals try first | omega
          refine hK14 _ _ _ ?_; clear hK14
          -- region 12
          refine AW.regionK 0 (fun _ => none) [9, 11, 13, 55, 56, 57] [9] ?_
          simp only [go_sem, reduceIte, reduceCtorEq, Nat.reduceAdd, Nat.reduceMul, Nat.reduceEqDiff, Nat.reduceLT, Nat.reduceLeDiff, Nat.reduceSub, Nat.reducePow, Nat.reduceBEq, Int.reduceToNat, List.reduceReplicate]
          repeat with_reducible refine cj ?_ ?_
          all_goals try first | omega
          rw [← hQl1]
          change Exists _
          refine ⟨_, ?hm, j + 1, ?_, ?_, rfl, ?henv, ?hstore, ?hst⟩
          case henv =>
            repeat' (first | rfl | refine env_cons ?_ ?_ | refine st_cons ?_ ?_ ?_ ?_ | refine int_eq ?_ | refine bool_eq ?_ | refine rsl_eq ?_ | refine osl_eq ?_ | refine sl_eq ?_ ?_ ?_ | refine ptr_eq ?_ ?_ ?_ | refine agg_eq ?_ | refine es_cons ?_ ?_ | refine row_cons ?_ ?_)
            all_goals (rw [hcs]; try omega)
          case hstore =>
            repeat' (first | rfl | refine env_cons ?_ ?_ | refine st_cons ?_ ?_ ?_ ?_ | refine int_eq ?_ | refine bool_eq ?_ | refine rsl_eq ?_ | refine osl_eq ?_ | refine sl_eq ?_ ?_ ?_ | refine ptr_eq ?_ ?_ ?_ | refine agg_eq ?_ | refine es_cons ?_ ?_ | refine row_cons ?_ ?_)
            all_goals (first | (simp; done) | omega | (simp; omega))
          case hst =>
            first | trivial | omega | (simp; done) | (simp; omega)
          case hm => omega
        · intro hb
          try simp only [hB, decide_eq_true_eq, decide_eq_false_iff_not] at hb
          rw [if_neg (by rintro ⟨a1, a2⟩; rcases hb with hb | hb; rw [a1] at hb; cases hb; rw [a2] at hb; cases hb)] at hcs
          refine AW.skip ?_
          refine hK14 _ _ _ ?_; clear hK14
          -- region 12
          refine AW.regionK 0 (fun _ => none) [9, 11, 13, 55, 56, 57] [9] ?_
          simp only [go_sem, reduceIte, reduceCtorEq, Nat.reduceAdd, Nat.reduceMul, Nat.reduceEqDiff, Nat.reduceLT, Nat.reduceLeDiff, Nat.reduceSub, Nat.reducePow, Nat.reduceBEq, Int.reduceToNat, List.reduceReplicate]
          repeat with_reducible refine cj ?_ ?_
          all_goals try first | omega
          rw [← hQl1]
          change Exists _
          refine ⟨_, ?hm, j + 1, ?_, ?_, rfl, ?henv, ?hstore, ?hst⟩
          case henv =>
            repeat' (first | rfl | refine env_cons ?_ ?_ | refine st_cons ?_ ?_ ?_ ?_ | refine int_eq ?_ | refine bool_eq ?_ | refine rsl_eq ?_ | refine osl_eq ?_ | refine sl_eq ?_ ?_ ?_ | refine ptr_eq ?_ ?_ ?_ | refine agg_eq ?_ | refine es_cons ?_ ?_ | refine row_cons ?_ ?_)
            all_goals (rw [hcs]; try omega)
          case hstore =>
            repeat' (first | rfl | refine env_cons ?_ ?_ | refine st_cons ?_ ?_ ?_ ?_ | refine int_eq ?_ | refine bool_eq ?_ | refine rsl_eq ?_ | refine osl_eq ?_ | refine sl_eq ?_ ?_ ?_ | refine ptr_eq ?_ ?_ ?_ | refine agg_eq ?_ | refine es_cons ?_ ?_ | refine row_cons ?_ ?_)
            all_goals (first | (simp; done) | omega | (simp; omega))
          case hst =>
            first | trivial | omega | (simp; done) | (simp; omega)
          case hm => omega
      · intro hb
        try simp only [hB, decide_eq_true_eq, decide_eq_false_iff_not] at hb
        have hj : j = n.E.length := by omega
        subst hj
        refine AW.keep [11, 13] [] ?_
        try simp only [go_sem, reduceIte, reduceCtorEq, Nat.reduceAdd, Nat.reduceMul, Nat.reduceEqDiff, Nat.reduceLT, Nat.reduceLeDiff, Nat.reduceSub, Nat.reducePow, Nat.reduceBEq, Int.reduceToNat, List.reduceReplicate]
        refine AW.exit ?_
        rw [← hQl1]
        refine hK10 _ _ _ ?_; clear hK10
        refine AW.seq fun K17 hK17 => ?_
        -- region 13
        refine AW.regionK 0 (fun _ => none) [10] [] ?_
        simp only [go_sem, reduceIte, reduceCtorEq, Nat.reduceAdd, Nat.reduceMul, Nat.reduceEqDiff, Nat.reduceLT, Nat.reduceLeDiff, Nat.reduceSub, Nat.reducePow, Nat.reduceBEq, Int.reduceToNat, List.reduceReplicate]
        repeat with_reducible refine cj ?_ ?_
        all_goals try first | omega
        refine hK17 _ _ _ ?_; clear hK17
        refine AW.ret ?_
        rw [← hQr]
        simp only [go_sem, reduceIte, reduceCtorEq, Nat.reduceAdd, Nat.reduceMul, Nat.reduceEqDiff, Nat.reduceLT, Nat.reduceLeDiff, Nat.reduceSub, Nat.reducePow, Nat.reduceBEq, Int.reduceToNat, List.reduceReplicate]
        exact Wk.of_eq (by unfold checkS; rw [hv, he, hfl, hvW, hS, hs1, ht1]; simp [hNn])
end Go.Proofs.F
namespace Go.Proofs.F
open Go.AM Go
set_option maxRecDepth 100000
set_option maxHeartbeats 1000000
theorem capw_r (n : Net) (W : List Int) (hv : validB n = true) (hwl : (W.length : Int) = wordsN n.N) : Reads Try.prog 22 false [netV n, .agg [.int .i64 n.N, .rsl 1 (words W)]] (.int .i64 (capAt n.E (hasW W) n.E.length)) := by
  obtain ⟨hN1, hN2, hE⟩ := valid_size hv
  have hcb := fun j (hj : j ≤ n.E.length) => capAt_bnd (E := n.E) (S := hasW W) (B := 1125899906842624) (fun i hi => by have := valid_edge hv (eAt_get hi); omega) j hj
  have hwn := wordsN_rng (n := n.N) (by omega)
  have hhas := fun (i : Int) (h0 : 0 ≤ i) (h1 : i < n.N) => has_r n.N W i h0 (by have := div64_rng (i := i) (n := n.N) h0 (by omega); omega) (by omega)
  unfold netV
  generalize hasW W = S at *
  refine Reads.body (rs := [.tmp 4]) Try.func22 rfl Try.ntmps22 rfl (by simp) ?_
  generalize hQr : retQ _ _ _ = Qr
  refine AW.seq fun K1 hK1 => ?_
  -- region 0
  refine AW.regionK 0 (fun _ => none) [2, 3] [2, 3] ?_
  simp only [go_sem, reduceIte, reduceCtorEq, Nat.reduceAdd, Nat.reduceMul, Nat.reduceEqDiff, Nat.reduceLT, Nat.reduceLeDiff, Nat.reduceSub, Nat.reducePow, Nat.reduceBEq, Int.reduceToNat, List.reduceReplicate]
  repeat with_reducible refine cj ?_ ?_
  all_goals try first | omega
  refine hK1 _ _ _ ?_; clear hK1
  refine AW.seq fun K2 hK2 => ?_
  -- region 1
  refine AW.regionK 0 (fun _ => none) [2, 3, 5] [2, 3] ?_
  simp only [go_sem, reduceIte, reduceCtorEq, Nat.reduceAdd, Nat.reduceMul, Nat.reduceEqDiff, Nat.reduceLT, Nat.reduceLeDiff, Nat.reduceSub, Nat.reducePow, Nat.reduceBEq, Int.reduceToNat, List.reduceReplicate]
  repeat with_reducible refine cj ?_ ?_
  all_goals try first | omega
  refine hK2 _ _ _ ?_; clear hK2
  refine AW.seq fun K3 hK3 => ?_
  refine AW.seq fun K4 hK4 => ?_
  -- region 2
  refine AW.regionK 0 (fun _ => none) [2, 3, 5, 6] [2, 3] ?_
  simp only [go_sem, reduceIte, reduceCtorEq, Nat.reduceAdd, Nat.reduceMul, Nat.reduceEqDiff, Nat.reduceLT, Nat.reduceLeDiff, Nat.reduceSub, Nat.reducePow, Nat.reduceBEq, Int.reduceToNat, List.reduceReplicate]
  repeat with_reducible refine cj ?_ ?_
  all_goals try first | omega
  refine hK4 _ _ _ ?_; clear hK4
  refine AW.block ?_
  -- loop 1
  refine AW.loopE (fun mm ee ss kk => ∃ (j g2 v2 g3 v3 : Nat), n.E.length - j = mm ∧ ee = [(2, .ptr ⟨2, g2, none⟩ 0 0), (3, .ptr ⟨3, g3, none⟩ 0 0), (5, .int .i64 (capAt n.E S j)), (6, .int .i64 (j : Nat))] ∧ ss = [(2, some ⟨g2, v2, 2, [[.int .i64 n.N, .rsl 3 (n.E.map edgeV)]]⟩), (3, some ⟨g3, v3, 2, [[.int .i64 n.N, .rsl 1 (words W)]]⟩)] ∧ (j ≤ n.E.length)) ?_ ?_
  · refine ⟨_, 0, ?_, ?_, ?_, ?_, rfl, ?henv, ?hstore, ?hst⟩
    case henv =>
      repeat' (first | rfl | refine env_cons ?_ ?_ | refine st_cons ?_ ?_ ?_ ?_ | refine int_eq ?_ | refine bool_eq ?_ | refine rsl_eq ?_ | refine osl_eq ?_ | refine sl_eq ?_ ?_ ?_ | refine ptr_eq ?_ ?_ ?_ | refine agg_eq ?_ | refine es_cons ?_ ?_ | refine row_cons ?_ ?_)
      all_goals (first | (simp; done) | omega | (simp; omega))
    case hstore =>
      repeat' (first | rfl | refine env_cons ?_ ?_ | refine st_cons ?_ ?_ ?_ ?_ | refine int_eq ?_ | refine bool_eq ?_ | refine rsl_eq ?_ | refine osl_eq ?_ | refine sl_eq ?_ ?_ ?_ | refine ptr_eq ?_ ?_ ?_ | refine agg_eq ?_ | refine es_cons ?_ ?_ | refine row_cons ?_ ?_)
      all_goals (first | (simp; done) | omega | (simp; omega))
    case hst =>
      first | trivial | omega | (simp; done) | (simp; omega)
  rintro mm ee ss kk ⟨j, g2, v2, g3, v3, rfl, rfl, rfl, hI⟩
  generalize hQl1 : thenQ _ _ = Ql1
  refine AW.seq fun K5 hK5 => ?_
  refine AW.seq fun K6 hK6 => ?_
  -- region 3
  refine AW.regionK 0 (fun _ => none) [2, 3, 5, 6, 11] [2, 3] ?_
  simp only [go_sem, reduceIte, reduceCtorEq, Nat.reduceAdd, Nat.reduceMul, Nat.reduceEqDiff, Nat.reduceLT, Nat.reduceLeDiff, Nat.reduceSub, Nat.reducePow, Nat.reduceBEq, Int.reduceToNat, List.reduceReplicate]
  repeat with_reducible refine cj ?_ ?_
  all_goals try first | omega
  refine hK6 _ _ _ ?_; clear hK6
  -- cond 1
  refine AW.cond rfl (by simp only [go_sem, reduceIte, reduceCtorEq, Nat.reduceAdd, Nat.reduceMul, Nat.reduceEqDiff, Nat.reduceLT, Nat.reduceLeDiff, Nat.reduceSub, Nat.reducePow, Nat.reduceBEq, Int.reduceToNat, List.reduceReplicate]) ?_ ?_
  · intro hb
    try simp only [hB, decide_eq_true_eq, decide_eq_false_iff_not] at hb
    obtain ⟨x, hx⟩ := getI (l := n.E) (j := j) (by omega)
    have hxv := getV (f := edgeV) hx
    have hea := eAt_of hx
    have hxr := valid_edge hv hx
    have hcs : capAt n.E S (j + 1) = capAt n.E S j + if S (eAt n.E j).fr = true ∧ S (eAt n.E j).to = false then (eAt n.E j).cap else 0 := rfl
    have hb0 := hcb j (by omega)
    rw [hea] at hcs
    have hj2 : (j : Int) < 2000 := by omega
    generalize capAt n.E S j = cq at *
    refine AW.skip ?_
    refine hK5 _ _ _ ?_; clear hK5
    refine AW.seq fun K7 hK7 => ?_
    refine AW.block ?_
    refine AW.seq fun K8 hK8 => ?_
    -- region 5
    refine AW.regionD mixed 0 (fun ii => if ii = 7 then some (.reads false (.bool (S x.fr))) else if ii = 16 then some (.reads false (.bool (S x.to))) else none) [2, 3, 5, 6, 32] [2, 3] ?_
    simp only [go_sem, reduceIte, reduceCtorEq, Nat.reduceAdd, Nat.reduceMul, Nat.reduceEqDiff, Nat.reduceLT, Nat.reduceLeDiff, Nat.reduceSub, Nat.reducePow, Nat.reduceBEq, Int.reduceToNat, List.reduceReplicate, hxv, edgeV]
    repeat with_reducible refine cj ?_ ?_
    all_goals try first | (first | exact hhas x.fr (by omega) (by omega) | exact hhas x.to (by omega) (by omega)) | (intros; (repeat' apply And.intro) <;> first | assumption | (first | exact hhas x.fr (by omega) (by omega) | exact hhas x.to (by omega) (by omega))) | omega | exact chk (by kernel_rfl) | exact ent (by kernel_rfl) | (intro hgd; exact absurd hgd (by decide)) | rfl | (simp only [go_sem, reduceIte, reduceCtorEq, Nat.reduceAdd, Nat.reduceMul, Nat.reduceEqDiff, Nat.reduceLT, Nat.reduceLeDiff, Nat.reduceSub, Nat.reducePow, Nat.reduceBEq, Int.reduceToNat, List.reduceReplicate, hxv, edgeV]; done) | (intro _hgd; simp_all [go_sem]; done)
    refine hK8 _ _ _ ?_; clear hK8
    -- cond 2
    refine AW.cond rfl (by simp only [go_sem, reduceIte, reduceCtorEq, Nat.reduceAdd, Nat.reduceMul, Nat.reduceEqDiff, Nat.reduceLT, Nat.reduceLeDiff, Nat.reduceSub, Nat.reducePow, Nat.reduceBEq, Int.reduceToNat, List.reduceReplicate]) ?_ ?_
    · intro hb
      try simp only [hB, decide_eq_true_eq, decide_eq_false_iff_not] at hb
      rw [if_pos hb] at hcs
      -- region 6
      refine AW.regionK 0 (fun _ => none) [2, 3, 5, 6] [2, 3] ?_
      simp only [go_sem, reduceIte, reduceCtorEq, Nat.reduceAdd, Nat.reduceMul, Nat.reduceEqDiff, Nat.reduceLT, Nat.reduceLeDiff, Nat.reduceSub, Nat.reducePow, Nat.reduceBEq, Int.reduceToNat, List.reduceReplicate, hxv, edgeV]
      repeat with_reducible refine cj ?_ ?_
      all_goals try first | omega
      refine hK7 _ _ _ ?_; clear hK7
      -- region 4
      refine AW.regionK 0 (fun _ => none) [2, 3, 5, 6] [2, 3] ?_
      simp only [go_sem, reduceIte, reduceCtorEq, Nat.reduceAdd, Nat.reduceMul, Nat.reduceEqDiff, Nat.reduceLT, Nat.reduceLeDiff, Nat.reduceSub, Nat.reducePow, Nat.reduceBEq, Int.reduceToNat, List.reduceReplicate]
      repeat with_reducible refine cj ?_ ?_
      all_goals try first | omega
      rw [← hQl1]
      change Exists _
      refine ⟨_, ?hm, j + 1, ?_, ?_, ?_, ?_, rfl, ?henv, ?hstore, ?hst⟩
      case henv =>
        repeat' (first | rfl | refine env_cons ?_ ?_ | refine st_cons ?_ ?_ ?_ ?_ | refine int_eq ?_ | refine bool_eq ?_ | refine rsl_eq ?_ | refine osl_eq ?_ | refine sl_eq ?_ ?_ ?_ | refine ptr_eq ?_ ?_ ?_ | refine agg_eq ?_ | refine es_cons ?_ ?_ | refine row_cons ?_ ?_)
        all_goals (rw [hcs]; try omega)
      case hstore =>
        repeat' (first | rfl | refine env_cons ?_ ?_ | refine st_cons ?_ ?_ ?_ ?_ | refine int_eq ?_ | refine bool_eq ?_ | refine rsl_eq ?_ | refine osl_eq ?_ | refine sl_eq ?_ ?_ ?_ | refine ptr_eq ?_ ?_ ?_ | refine agg_eq ?_ | refine es_cons ?_ ?_ | refine row_cons ?_ ?_)
        all_goals (first | (simp; done) | omega | (simp; omega))
      case hst =>
        first | trivial | omega | (simp; done) | (simp; omega)
      case hm => omega
    · intro hb
      try simp only [hB, decide_eq_true_eq, decide_eq_false_iff_not] at hb
      rw [if_neg (by rintro ⟨a1, a2⟩; rcases hb with hb | hb; rw [a1] at hb; cases hb; rw [a2] at hb; cases hb)] at hcs
      refine AW.skip ?_
      refine hK7 _ _ _ ?_; clear hK7
      -- region 4
      refine AW.regionK 0 (fun _ => none) [2, 3, 5, 6] [2, 3] ?_
      simp only [go_sem, reduceIte, reduceCtorEq, Nat.reduceAdd, Nat.reduceMul, Nat.reduceEqDiff, Nat.reduceLT, Nat.reduceLeDiff, Nat.reduceSub, Nat.reducePow, Nat.reduceBEq, Int.reduceToNat, List.reduceReplicate]
      repeat with_reducible refine cj ?_ ?_
      all_goals try first | omega
      rw [← hQl1]
      change Exists _
      refine ⟨_, ?hm, j + 1, ?_, ?_, ?_, ?_, rfl, ?henv, ?hstore, ?hst⟩
      case henv =>
        repeat' (first | rfl | refine env_cons ?_ ?_ | refine st_cons ?_ ?_ ?_ ?_ | refine int_eq ?_ | refine bool_eq ?_ | refine rsl_eq ?_ | refine osl_eq ?_ | refine sl_eq ?_ ?_ ?_ | refine ptr_eq ?_ ?_ ?_ | refine agg_eq ?_ | refine es_cons ?_ ?_ | refine row_cons ?_ ?_)
        all_goals (rw [hcs]; try omega)
      case hstore =>
        repeat' (first | rfl | refine env_cons ?_ ?_ | refine st_cons ?_ ?_ ?_ ?_ | refine int_eq ?_ | refine bool_eq ?_ | refine rsl_eq ?_ | refine osl_eq ?_ | refine sl_eq ?_ ?_ ?_ | refine ptr_eq ?_ ?_ ?_ | refine agg_eq ?_ | refine es_cons ?_ ?_ | refine row_cons ?_ ?_)
        all_goals (first | (simp; done) | omega | (simp; omega))
      case hst =>
        first | trivial | omega | (simp; done) | (simp; omega)
      case hm => omega
  · intro hb
    try simp only [hB, decide_eq_true_eq, decide_eq_false_iff_not] at hb
    refine AW.keep [5] [] ?_
    try simp only [go_sem, reduceIte, reduceCtorEq, Nat.reduceAdd, Nat.reduceMul, Nat.reduceEqDiff, Nat.reduceLT, Nat.reduceLeDiff, Nat.reduceSub, Nat.reducePow, Nat.reduceBEq, Int.reduceToNat, List.reduceReplicate]
    refine AW.exit ?_
    rw [← hQl1]
    refine hK3 _ _ _ ?_; clear hK3
    refine AW.seq fun K9 hK9 => ?_
    -- region 7
    refine AW.regionK 0 (fun _ => none) [4] [] ?_
    simp only [go_sem, reduceIte, reduceCtorEq, Nat.reduceAdd, Nat.reduceMul, Nat.reduceEqDiff, Nat.reduceLT, Nat.reduceLeDiff, Nat.reduceSub, Nat.reducePow, Nat.reduceBEq, Int.reduceToNat, List.reduceReplicate]
    repeat with_reducible refine cj ?_ ?_
    all_goals try first | omega
    refine hK9 _ _ _ ?_; clear hK9
    refine AW.ret ?_
    rw [← hQr]
    simp only [go_sem, reduceIte, reduceCtorEq, Nat.reduceAdd, Nat.reduceMul, Nat.reduceEqDiff, Nat.reduceLT, Nat.reduceLeDiff, Nat.reduceSub, Nat.reducePow, Nat.reduceBEq, Int.reduceToNat, List.reduceReplicate]
    have hj : j = n.E.length := by omega
    subst hj
    exact Wk.refl _
theorem rcheck_r (n : Net) (s t : Int) (fl : List Int) (N : Int) (W : List Int) (hE0 : n.E.length ≤ 9223372036854775807) (hl : fl.length ≤ 9223372036854775807) (hl2 : W.length ≤ 9223372036854775807) :
    Reads Try.prog 32 false [netV n, .int .i64 s, .int .i64 t, .rsl 1 (ints fl), .agg [.int .i64 N, .rsl 1 (words W)]] (.bool (checkS n s t fl N W)) := by
  have hval := rvalid_r n hE0
  have hend := rends_r n s t
  have hflow := fun hv => flow_r n s t fl hv hl
  have hfo := fun h0 h1 => formed_r N n.N W hl2 h0 h1
  have hhas := fun i h0 h1 => has_r N W i h0 h1 hl2
  have hcap := fun hv hw => capw_r n W hv hw
  have hvl := fun hE hl hB => val_r n fl s hE hl hB
  have hvz := fun h : validB n = true => valid_size h
  unfold netV at *
  refine Reads.body (rs := [.tmp 10]) Try.func32 rfl Try.ntmps32 rfl (by simp) ?_
  generalize hQr : retQ _ _ _ = Qr
  refine AW.seq fun K1 hK1 => ?_
  -- region 0
  refine AW.regionK 0 (fun _ => none) [1, 2, 3, 5, 9] [5, 9] ?_
  simp only [go_sem, reduceIte, reduceCtorEq, Nat.reduceAdd, Nat.reduceMul, Nat.reduceEqDiff, Nat.reduceLT, Nat.reduceLeDiff, Nat.reduceSub, Nat.reducePow, Nat.reduceBEq, Int.reduceToNat, List.reduceReplicate]
  repeat with_reducible refine cj ?_ ?_
  all_goals try first | omega
  refine hK1 _ _ _ ?_; clear hK1
  refine AW.seq fun K2 hK2 => ?_
  refine AW.seq fun K3 hK3 => ?_
  -- region 1
  refine AW.regionK 0 (fun ii => if ii = 1 then some (.reads false (.bool (validB n))) else if ii = 7 then some (.reads false (.bool (endsB n s t))) else if ii = 15 then some (.reads false (.bool (flowB n s t fl))) else if ii = 22 then some (.reads false (.bool (decide (N = n.N) && validS n.N W))) else if ii = 28 then some (.reads false (.bool (hasW W s))) else if ii = 34 then some (.reads false (.bool (hasW W t))) else none) [1, 3, 5, 9, 46] [5, 9] ?_
  simp only [go_sem, reduceIte, reduceCtorEq, Nat.reduceAdd, Nat.reduceMul, Nat.reduceEqDiff, Nat.reduceLT, Nat.reduceLeDiff, Nat.reduceSub, Nat.reducePow, Nat.reduceBEq, Int.reduceToNat, List.reduceReplicate]
  repeat with_reducible refine cj ?_ ?_
  all_goals try first | (first | exact hval | (intro hh; exact ⟨hh, hend⟩) | (intro hh; refine ⟨hh, ?_⟩; simp at hh; exact hflow hh.1) | (intro hh; refine ⟨hh, ?_⟩; simp at hh; have := hvz hh.1.1; exact hfo (by omega) (by omega)) | (intro hh; refine ⟨hh, ?_⟩; simp at hh; obtain ⟨⟨⟨h1, h2⟩, h3⟩, h4, h5⟩ := hh; have hs := validS_sz h5; have := hvz h1; simp [endsB] at h2; have hd := div64_rng (i := s) (n := n.N) (by omega) (by omega); exact hhas s (by omega) (by omega)) | (intro hh; refine ⟨hh, ?_⟩; simp at hh; obtain ⟨⟨⟨⟨h1, h2⟩, h3⟩, h4, h5⟩, h6⟩ := hh; have hs := validS_sz h5; have := hvz h1; simp [endsB] at h2; have hd := div64_rng (i := t) (n := n.N) (by omega) (by omega); exact hhas t (by omega) (by omega))) | (intros; (repeat' apply And.intro) <;> first | assumption | (first | exact hval | (intro hh; exact ⟨hh, hend⟩) | (intro hh; refine ⟨hh, ?_⟩; simp at hh; exact hflow hh.1) | (intro hh; refine ⟨hh, ?_⟩; simp at hh; have := hvz hh.1.1; exact hfo (by omega) (by omega)) | (intro hh; refine ⟨hh, ?_⟩; simp at hh; obtain ⟨⟨⟨h1, h2⟩, h3⟩, h4, h5⟩ := hh; have hs := validS_sz h5; have := hvz h1; simp [endsB] at h2; have hd := div64_rng (i := s) (n := n.N) (by omega) (by omega); exact hhas s (by omega) (by omega)) | (intro hh; refine ⟨hh, ?_⟩; simp at hh; obtain ⟨⟨⟨⟨h1, h2⟩, h3⟩, h4, h5⟩, h6⟩ := hh; have hs := validS_sz h5; have := hvz h1; simp [endsB] at h2; have hd := div64_rng (i := t) (n := n.N) (by omega) (by omega); exact hhas t (by omega) (by omega)))) | omega | exact ent (by kernel_rfl) | (intro hgd; exact absurd hgd (by decide)) | rfl | (simp only [go_sem, reduceIte, reduceCtorEq, Nat.reduceAdd, Nat.reduceMul, Nat.reduceEqDiff, Nat.reduceLT, Nat.reduceLeDiff, Nat.reduceSub, Nat.reducePow, Nat.reduceBEq, Int.reduceToNat, List.reduceReplicate]; done) | (intro _hgd; simp_all [go_sem]; done)
  refine hK3 _ _ _ ?_; clear hK3
  -- cond 1
  refine AW.cond rfl (by simp only [go_sem, reduceIte, reduceCtorEq, Nat.reduceAdd, Nat.reduceMul, Nat.reduceEqDiff, Nat.reduceLT, Nat.reduceLeDiff, Nat.reduceSub, Nat.reducePow, Nat.reduceBEq, Int.reduceToNat, List.reduceReplicate]) ?_ ?_
  · intro hb
    try simp only [hB, decide_eq_true_eq, decide_eq_false_iff_not] at hb
    refine AW.seq fun K4 hK4 => ?_
    -- region 2
    refine AW.regionK 0 (fun _ => none) [10] [] ?_
    simp only [go_sem, reduceIte, reduceCtorEq, Nat.reduceAdd, Nat.reduceMul, Nat.reduceEqDiff, Nat.reduceLT, Nat.reduceLeDiff, Nat.reduceSub, Nat.reducePow, Nat.reduceBEq, Int.reduceToNat, List.reduceReplicate]
    repeat with_reducible refine cj ?_ ?_
    all_goals try first | omega
    refine hK4 _ _ _ ?_; clear hK4
    refine AW.ret ?_
    rw [← hQr]
    simp only [go_sem, reduceIte, reduceCtorEq, Nat.reduceAdd, Nat.reduceMul, Nat.reduceEqDiff, Nat.reduceLT, Nat.reduceLeDiff, Nat.reduceSub, Nat.reducePow, Nat.reduceBEq, Int.reduceToNat, List.reduceReplicate]
    exact Wk.of_eq (by unfold checkS; cases h1 : validB n <;> cases h2 : endsB n s t <;> cases h3 : flowB n s t fl <;> cases h4 : hasW W s <;> cases h5 : hasW W t <;> simp_all <;> (intros; simp_all))
  · intro hb
    try simp only [hB, decide_eq_true_eq, decide_eq_false_iff_not] at hb
    have hv : validB n = true := by revert hb; cases validB n <;> simp
    have he : endsB n s t = true := by revert hb; cases endsB n s t <;> simp
    have hfl : flowB n s t fl = true := by revert hb; cases flowB n s t fl <;> simp
    have hs1 : hasW W s = true := by revert hb; cases hasW W s <;> simp
    have ht1 : hasW W t = false := by revert hb; cases hasW W t <;> simp
    have hNv : N = n.N ∧ validS n.N W = true := by simp only [hfl, hv, he, hs1, ht1] at hb; simp at hb; exact hb
    obtain ⟨hNn, hvW⟩ := hNv
    subst hNn
    have hsz := validS_sz hvW
    have hf := (flowB_iff (by omega)).1 hfl
    have hvl := hvl (hvz hv).2.2 hf.len (fun i => by have := flow_bnd hv hf i; omega)
    have hcap := hcap hv hsz.2.2
    refine AW.skip ?_
    refine hK2 _ _ _ ?_; clear hK2
    refine AW.seq fun K5 hK5 => ?_
    -- region 3
    refine AW.regionD mixed 0 (fun ii => if ii = 3 then some (.reads false (.int .i64 (bal n fl s))) else if ii = 6 then some (.reads false (.int .i64 (capAt n.E (hasW W) n.E.length))) else none) [10] [] ?_
    simp only [go_sem, reduceIte, reduceCtorEq, Nat.reduceAdd, Nat.reduceMul, Nat.reduceEqDiff, Nat.reduceLT, Nat.reduceLeDiff, Nat.reduceSub, Nat.reducePow, Nat.reduceBEq, Int.reduceToNat, List.reduceReplicate]
    repeat with_reducible refine cj ?_ ?_
    all_goals try first | (first | exact hvl | exact hcap) | omega | exact chk (by kernel_rfl) | exact ent (by kernel_rfl)
    refine hK5 _ _ _ ?_; clear hK5
    refine AW.ret ?_
    rw [← hQr]
    simp only [go_sem, reduceIte, reduceCtorEq, Nat.reduceAdd, Nat.reduceMul, Nat.reduceEqDiff, Nat.reduceLT, Nat.reduceLeDiff, Nat.reduceSub, Nat.reducePow, Nat.reduceBEq, Int.reduceToNat, List.reduceReplicate]
    exact Wk.of_eq (by unfold checkS; rw [hv, he, hfl, hvW, hs1, ht1]; simp)
theorem law_checks (n : Net) (s t : Int) (fl : List Int) (N : Int) (W : List Int) (hE0 : n.E.length ≤ 9223372036854775807) (hl : fl.length ≤ 9223372036854775807) (hl2 : W.length ≤ 9223372036854775807) (hW : okW W) :
    Reads Try.prog 7 false [netV n, .int .i64 s, .int .i64 t, .rsl 1 (ints fl), .agg [.int .i64 N, .rsl 1 (words W)]] (.bool true) := by
  have haw := awake_r
  have hfew := few_r n
  have hval := valid_r n hE0
  have hrval := rvalid_r n hE0
  have hc := fcheck_r n s t fl N W hE0 hl hl2 hW
  have hrc := rcheck_r n s t fl N W hE0 hl hl2
  unfold netV at *
  refine Reads.body (rs := [.tmp 10]) Try.func7 rfl Try.ntmps7 rfl (by simp) ?_
  generalize hQr : retQ _ _ _ = Qr
  refine AW.seq fun K1 hK1 => ?_
  -- region 0
  refine AW.regionK 0 (fun _ => none) [1, 2, 3, 5, 9] [5, 9] ?_
  simp only [go_sem, reduceIte, reduceCtorEq, Nat.reduceAdd, Nat.reduceMul, Nat.reduceEqDiff, Nat.reduceLT, Nat.reduceLeDiff, Nat.reduceSub, Nat.reducePow, Nat.reduceBEq, Int.reduceToNat, List.reduceReplicate]
  repeat with_reducible refine cj ?_ ?_
  all_goals try first | omega
  refine hK1 _ _ _ ?_; clear hK1
  refine AW.seq fun K2 hK2 => ?_
  refine AW.seq fun K3 hK3 => ?_
  -- region 1
  refine AW.regionK 0 (fun ii => if ii = 0 then some (.reads false (.bool true)) else none) [1, 2, 3, 5, 9, 12] [5, 9] ?_
  simp only [go_sem, reduceIte, reduceCtorEq, Nat.reduceAdd, Nat.reduceMul, Nat.reduceEqDiff, Nat.reduceLT, Nat.reduceLeDiff, Nat.reduceSub, Nat.reducePow, Nat.reduceBEq, Int.reduceToNat, List.reduceReplicate]
  repeat with_reducible refine cj ?_ ?_
  all_goals try first | (exact haw) | omega | exact ent (by kernel_rfl)
  refine hK3 _ _ _ ?_; clear hK3
  -- cond 1
  refine AW.cond rfl (by simp only [go_sem, reduceIte, reduceCtorEq, Nat.reduceAdd, Nat.reduceMul, Nat.reduceEqDiff, Nat.reduceLT, Nat.reduceLeDiff, Nat.reduceSub, Nat.reducePow, Nat.reduceBEq, Int.reduceToNat, List.reduceReplicate]) ?_ ?_
  · intro hb
    try simp only [hB, decide_eq_true_eq, decide_eq_false_iff_not] at hb
    simp at hb
  · intro hb
    try simp only [hB, decide_eq_true_eq, decide_eq_false_iff_not] at hb
    refine AW.skip ?_
    refine hK2 _ _ _ ?_; clear hK2
    refine AW.seq fun K4 hK4 => ?_
    refine AW.seq fun K5 hK5 => ?_
    -- region 3
    refine AW.regionK 0 (fun ii => if ii = 1 then some (.reads false (.bool (fewB n))) else none) [1, 2, 3, 5, 9, 26] [5, 9] ?_
    simp only [go_sem, reduceIte, reduceCtorEq, Nat.reduceAdd, Nat.reduceMul, Nat.reduceEqDiff, Nat.reduceLT, Nat.reduceLeDiff, Nat.reduceSub, Nat.reducePow, Nat.reduceBEq, Int.reduceToNat, List.reduceReplicate]
    repeat with_reducible refine cj ?_ ?_
    all_goals try first | (exact hfew) | (intros; (repeat' apply And.intro) <;> first | assumption | (exact hfew)) | omega | exact ent (by kernel_rfl) | (intro hgd; exact absurd hgd (by decide)) | rfl | (simp only [go_sem, reduceIte, reduceCtorEq, Nat.reduceAdd, Nat.reduceMul, Nat.reduceEqDiff, Nat.reduceLT, Nat.reduceLeDiff, Nat.reduceSub, Nat.reducePow, Nat.reduceBEq, Int.reduceToNat, List.reduceReplicate]; done) | (intro _hgd; simp_all [go_sem]; done)
    refine hK5 _ _ _ ?_; clear hK5
    -- cond 2
    refine AW.cond rfl (by simp only [go_sem, reduceIte, reduceCtorEq, Nat.reduceAdd, Nat.reduceMul, Nat.reduceEqDiff, Nat.reduceLT, Nat.reduceLeDiff, Nat.reduceSub, Nat.reducePow, Nat.reduceBEq, Int.reduceToNat, List.reduceReplicate]) ?_ ?_
    · intro hb
      try simp only [hB, decide_eq_true_eq, decide_eq_false_iff_not] at hb
      refine AW.seq fun K6 hK6 => ?_
      -- region 4
      refine AW.regionK 0 (fun _ => none) [10] [] ?_
      simp only [go_sem, reduceIte, reduceCtorEq, Nat.reduceAdd, Nat.reduceMul, Nat.reduceEqDiff, Nat.reduceLT, Nat.reduceLeDiff, Nat.reduceSub, Nat.reducePow, Nat.reduceBEq, Int.reduceToNat, List.reduceReplicate]
      repeat with_reducible refine cj ?_ ?_
      all_goals try first | omega
      refine hK6 _ _ _ ?_; clear hK6
      refine AW.ret ?_
      rw [← hQr]
      simp only [go_sem, reduceIte, reduceCtorEq, Nat.reduceAdd, Nat.reduceMul, Nat.reduceEqDiff, Nat.reduceLT, Nat.reduceLeDiff, Nat.reduceSub, Nat.reducePow, Nat.reduceBEq, Int.reduceToNat, List.reduceReplicate]
      exact Wk.refl _
    · intro hb
      try simp only [hB, decide_eq_true_eq, decide_eq_false_iff_not] at hb
      refine AW.skip ?_
      refine hK4 _ _ _ ?_; clear hK4
      refine AW.seq fun K7 hK7 => ?_
      -- region 5
      refine AW.regionD mixed 0 (fun ii => if ii = 1 then some (.reads false (.bool (validB n))) else if ii = 3 then some (.reads false (.bool (validB n))) else if ii = 11 then some (.reads false (.bool (checkS n s t fl N W))) else if ii = 17 then some (.reads false (.bool (checkS n s t fl N W))) else none) [10] [] ?_
      simp only [go_sem, reduceIte, reduceCtorEq, Nat.reduceAdd, Nat.reduceMul, Nat.reduceEqDiff, Nat.reduceLT, Nat.reduceLeDiff, Nat.reduceSub, Nat.reducePow, Nat.reduceBEq, Int.reduceToNat, List.reduceReplicate]
      repeat with_reducible refine cj ?_ ?_
      all_goals try first | (first | exact hval | exact hrval | (intro hh; exact ⟨hh, hc⟩) | (intro hh; exact ⟨hh, hrc⟩)) | (intros; (repeat' apply And.intro) <;> first | assumption | (first | exact hval | exact hrval | (intro hh; exact ⟨hh, hc⟩) | (intro hh; exact ⟨hh, hrc⟩))) | omega | exact chk (by kernel_rfl) | exact ent (by kernel_rfl) | (intro hgd; exact absurd hgd (by decide)) | rfl | (simp only [go_sem, reduceIte, reduceCtorEq, Nat.reduceAdd, Nat.reduceMul, Nat.reduceEqDiff, Nat.reduceLT, Nat.reduceLeDiff, Nat.reduceSub, Nat.reducePow, Nat.reduceBEq, Int.reduceToNat, List.reduceReplicate]; done) | (intro _hgd; simp_all [go_sem]; done)
      refine hK7 _ _ _ ?_; clear hK7
      refine AW.ret ?_
      rw [← hQr]
      simp only [go_sem, reduceIte, reduceCtorEq, Nat.reduceAdd, Nat.reduceMul, Nat.reduceEqDiff, Nat.reduceLT, Nat.reduceLeDiff, Nat.reduceSub, Nat.reducePow, Nat.reduceBEq, Int.reduceToNat, List.reduceReplicate]
      exact Wk.of_eq (by simp)
end Go.Proofs.F
namespace Go.Proofs.F
open Go.AM Go
set_option maxRecDepth 100000
set_option maxHeartbeats 1000000
theorem rcut_r (n : Net) (s t : Int) (hv : validB n = true) (r : List Int) (q : List Bool × List Int) (hl : q.1.length = n.N.toNat) (hR : Reads Try.prog 17 true [netV n, .int .i64 s, .int .i64 t] (.rsl 1 (ints r)))
    (hQ : Reads Try.prog 42 true [netV n, .int .i64 s, .rsl 1 (ints r)] (.tup [.rsl 1 (bools q.1), .rsl 1 (ints q.2)])) :
    Reads Try.prog 20 false [netV n, .int .i64 s, .int .i64 t] (.agg [.int .i64 n.N, .rsl 1 (words (setW q.1 q.1.length))]) := by
  obtain ⟨hN1, hN2, hE⟩ := valid_size hv
  have hS := rset_r q.1 (by omega)
  have hbn : (q.1.length : Int) = n.N := by omega
  rw [hbn] at hS
  unfold netV at *
  refine Reads.body (rs := [.cell 6 37]) Try.func20 rfl Try.ntmps20 rfl (by simp) ?_
  generalize hQr : retQ _ _ _ = Qr
  refine AW.seq fun K1 hK1 => ?_
  -- region 0
  refine AW.regionK 0 (fun _ => none) [1, 2, 3, 6] [3, 6] ?_
  simp only [go_sem, reduceIte, reduceCtorEq, Nat.reduceAdd, Nat.reduceMul, Nat.reduceEqDiff, Nat.reduceLT, Nat.reduceLeDiff, Nat.reduceSub, Nat.reducePow, Nat.reduceBEq, Int.reduceToNat, List.reduceReplicate]
  repeat with_reducible refine cj ?_ ?_
  all_goals try first | omega
  refine hK1 _ _ _ ?_; clear hK1
  refine AW.seq fun K2 hK2 => ?_
  -- region 1
  refine AW.regionD mixed 0 (fun i => if i = 5 then some (.reads true (.rsl 1 (ints r))) else if i = 6 then some (.reads true (.tup [.rsl 1 (bools q.1), .rsl 1 (ints q.2)])) else none) [6, 7] [6] ?_
  simp only [go_sem, reduceIte, reduceCtorEq, Nat.reduceAdd, Nat.reduceMul, Nat.reduceEqDiff, Nat.reduceLT, Nat.reduceLeDiff, Nat.reduceSub, Nat.reducePow, Nat.reduceBEq, Int.reduceToNat, List.reduceReplicate]
  repeat with_reducible refine cj ?_ ?_
  all_goals try first | (first | exact hR | exact hQ) | omega | exact chk (by kernel_rfl) | exact ent (by kernel_rfl)
  refine hK2 _ _ _ ?_; clear hK2
  refine AW.seq fun K3 hK3 => ?_
  -- region 2
  refine AW.regionK 0 (fun i => if i = 1 then some (.reads true (.agg [.int .i64 n.N, .rsl 1 (words (setW q.1 q.1.length))])) else none) [6] [6] ?_
  simp only [go_sem, reduceIte, reduceCtorEq, Nat.reduceAdd, Nat.reduceMul, Nat.reduceEqDiff, Nat.reduceLT, Nat.reduceLeDiff, Nat.reduceSub, Nat.reducePow, Nat.reduceBEq, Int.reduceToNat, List.reduceReplicate]
  repeat with_reducible refine cj ?_ ?_
  all_goals try first | (exact hS) | omega | exact ent (by kernel_rfl)
  refine hK3 _ _ _ ?_; clear hK3
  refine AW.ret ?_
  rw [← hQr]
  simp only [go_sem, reduceIte, reduceCtorEq, Nat.reduceAdd, Nat.reduceMul, Nat.reduceEqDiff, Nat.reduceLT, Nat.reduceLeDiff, Nat.reduceSub, Nat.reducePow, Nat.reduceBEq, Int.reduceToNat, List.reduceReplicate]
  exact Wk.refl _
theorem cut_spec (n : Net) (s t : Int) (hlen : n.E.length ≤ 9223372036854775807) : ∃ (N v : Int) (W : List Int) (e : Nat), Reads Try.prog 18 false [netV n, .int .i64 s, .int .i64 t] (.tup [.agg [.int .i64 N, .rsl 1 (words W)], .int .i64 v, .int .i64 e]) ∧ W.length ≤ 9223372036854775807 ∧
    (validB n = false → N = 0 ∧ W = [] ∧ v = 0 ∧ e = 1) ∧ (validB n = true → endsB n s t = false → N = 0 ∧ W = [] ∧ v = 0 ∧ e = 2) ∧
    (validB n = true → endsB n s t = true → e = 0 ∧ N = n.N ∧ ∃ fl b, IsFlow n s t fl ∧ v = bal n fl s ∧ (∀ g, IsFlow n s t g → bal n g s ≤ v) ∧ b.length = n.N.toNat ∧ W = setW b b.length ∧ Near n s fl (fun u => b.getD u.toNat false) ∧ b.getD t.toNat false = false) := by
  by_cases hv : validB n = true
  · by_cases he : endsB n s t = true
    · have hs := valid_size hv
      have hends := ends_of he
      obtain ⟨F, A', v', pr', h1, ⟨fl, h2, h3, h4, h5⟩, h6, h7⟩ := fill_total hv he 9223372036854775808 _ _ (fill_start (s := s) (t := t) hv) (by decide)
      obtain ⟨hpl, hnear⟩ := near_prog hv hends.1 hends.2.1 h2.caps h3 h6
      have hb : ∃ b : List Bool, b = pr'.map fun x => decide (x ≠ -1) := ⟨_, rfl⟩
      obtain ⟨b, hb⟩ := hb
      have hbl : b.length = n.N.toNat := by rw [hb, List.length_map, hpl]
      have hbg : ∀ i, i < n.N.toNat → b.getD i false = decide (pr'.getD i 0 ≠ -1) := fun i hi => by
        rw [hb, List.getD_eq_getElem?_getD, List.getElem?_map, List.getElem?_eq_getElem (by omega), List.getD_eq_getElem?_getD, List.getElem?_eq_getElem (by omega)]; rfl
      have hW : ofW n.N (memb pr' n.N.toNat) = setW b b.length := by
        rw [hbl, ← ofW_setW (l := pr') hbl (fun i hi => by rw [hbg i hi]; simp)]
        congr 1; omega
      have := cut_r n s t hv he _ (fill_ok hv he) (fill_start hv) F A' v' pr' h1 hpl
      rw [hW] at this
      refine ⟨n.N, v', _, 0, this, by rw [setW_len]; have := wordsN_rng (n := (b.length : Int)) (by omega); omega, fun h => (by rw [hv] at h; cases h), fun _ h => (by rw [he] at h; cases h), fun _ _ => ⟨rfl, rfl, fl, b, h2, h4, fun g hg => by rw [h4]; exact fill_best hv he h2 h3 h6 h7 g hg, hbl, rfl, ?_, ?_⟩⟩
      · refine ⟨?_, fun i hi => ?_, fun T hT hF u hu0 hu1 hu => ?_⟩
        · have := hnear.src; rw [hbg _ (by omega)]; exact this
        · have hin := edges_in hv i hi
          have := hnear.full i hi
          rw [hbg _ (by omega), hbg _ (by omega)]; exact this
        · rw [hbg _ (by omega)] at hu
          exact hnear.least T hT hF u hu0 hu1 hu
      · rw [hbg _ (by omega), h7]; simp
    · have he' : endsB n s t = false := by simpa using he
      refine ⟨0, 0, [], 2, ?_, by simp, fun h => (by rw [hv] at h; cases h), fun _ _ => ⟨rfl, rfl, rfl, rfl⟩, fun _ h => absurd h he⟩
      have := cut_err n s t hlen (by simp [checkC, hv, he'])
      simpa [checkC, hv, he', words] using this
  · have hv' : validB n = false := by simpa using hv
    refine ⟨0, 0, [], 1, ?_, by simp, fun _ => ⟨rfl, rfl, rfl, rfl⟩, fun h => absurd h hv, fun h => absurd h hv⟩
    have := cut_err n s t hlen (by simp [checkC, hv'])
    simpa [checkC, hv', words] using this
theorem rcut_spec (n : Net) (s t : Int) (hv : validB n = true) (he : endsB n s t = true) : ∃ r b, Reads Try.prog 20 false [netV n, .int .i64 s, .int .i64 t] (.agg [.int .i64 n.N, .rsl 1 (words (setW b b.length))]) ∧ IsFlow n s t r ∧ (∀ g, IsFlow n s t g → bal n g s ≤ bal n r s) ∧
    b.length = n.N.toNat ∧ Near n s r (fun u => b.getD u.toNat false) ∧ b.getD t.toNat false = false := by
  have hends := ends_of he
  obtain ⟨r, h1, h2, h3, q, h4, h5⟩ := rmax_spec n s t hv he
  obtain ⟨hl, hn⟩ := near_ref hv hends.1 hends.2.1 h2.caps h4
  exact ⟨r, q.1, rcut_r n s t hv r q hl h1 (rreach_r n s r hv hends.1 hends.2.1 h2.len q h4), h2, h3, hl, hn, h5⟩
theorem law_cuts (n : Net) (s t : Int) (hlen : n.E.length ≤ 9223372036854775807) : Reads Try.prog 4 false [netV n, .int .i64 s, .int .i64 t] (.bool true) := by
  obtain ⟨N, v, W, e, hM, hWl, hM1, hM2, hM3⟩ := cut_spec n s t hlen
  have haw := awake_r
  have hfew := few_r n
  have hval := rvalid_r n hlen
  have hend := rends_r n s t
  have hnone := none_r N (words W) (by rw [words_len]; exact hWl)
  obtain ⟨W2, hR⟩ : ∃ W2, validB n = true → endsB n s t = true → (Reads Try.prog 20 false [netV n, .int .i64 s, .int .i64 t] (.agg [.int .i64 n.N, .rsl 1 (words W2)]) ∧ W2 = W ∧ Reads Try.prog 22 false [netV n, .agg [.int .i64 n.N, .rsl 1 (words W2)]] (.int .i64 v)) := by
    by_cases hv : validB n = true
    · by_cases he : endsB n s t = true
      · obtain ⟨r, b, h1, h2, h3, h4, h5, h6⟩ := rcut_spec n s t hv he
        obtain ⟨_, _, fl, c, k1, k2, k3, k4, k5, k6, k7⟩ := hM3 hv he
        have hs := valid_size hv
        have hends := ends_of he
        have heq : bal n r s = bal n fl s := by have := h3 fl k1; have := k3 r h2; omega
        have hbc : c = b := by
          refine List.ext_getElem? fun i => ?_
          by_cases hi : i < n.N.toNat
          · have := near_uniq hv hends.1 hends.2.1 k1 h2 k6 h5 k7 h6 heq (i : Int) (by omega) (by omega)
            simp only [Int.toNat_natCast, List.getD_eq_getElem?_getD] at this
            rw [List.getElem?_eq_getElem (by omega), List.getElem?_eq_getElem (by omega)] at this ⊢
            exact congrArg some this
          · rw [List.getElem?_eq_none (by omega), List.getElem?_eq_none (by omega)]
        have hc := cap_r n b hv h4
        have hcap : capAt n.E (hasW (setW b b.length)) n.E.length = v := by
          rw [k2, near_val hv hends.1 hends.2.1 k1 k6 k7]
          refine capAt_congr (fun i hi => ?_) _ (Nat.le_refl _)
          have := edges_in hv i hi
          rw [setW_mem (by omega) (by omega), setW_mem (by omega) (by omega), hbc]
          exact ⟨rfl, rfl⟩
        rw [hcap] at hc
        exact ⟨setW b b.length, fun _ _ => ⟨h1, by rw [k5, hbc], hc⟩⟩
      · exact ⟨[], fun _ h => absurd h he⟩
    · exact ⟨[], fun h => absurd h hv⟩
  have hsame := same_r N n.N W W2
  unfold netV at *
  refine Reads.body (rs := [.tmp 6]) Try.func4 rfl Try.ntmps4 rfl (by simp) ?_
  generalize hQr : retQ _ _ _ = Qr
  refine AW.seq fun K1 hK1 => ?_
  -- region 0
  refine AW.regionK 0 (fun _ => none) [1, 2, 3] [3] ?_
  simp only [go_sem, reduceIte, reduceCtorEq, Nat.reduceAdd, Nat.reduceMul, Nat.reduceEqDiff, Nat.reduceLT, Nat.reduceLeDiff, Nat.reduceSub, Nat.reducePow, Nat.reduceBEq, Int.reduceToNat, List.reduceReplicate]
  repeat with_reducible refine cj ?_ ?_
  all_goals try first | omega
  refine hK1 _ _ _ ?_; clear hK1
  refine AW.seq fun K2 hK2 => ?_
  refine AW.seq fun K3 hK3 => ?_
  -- region 1
  refine AW.regionK 0 (fun i => if i = 0 then some (.reads false (.bool true)) else none) [1, 2, 3, 12] [3] ?_
  simp only [go_sem, reduceIte, reduceCtorEq, Nat.reduceAdd, Nat.reduceMul, Nat.reduceEqDiff, Nat.reduceLT, Nat.reduceLeDiff, Nat.reduceSub, Nat.reducePow, Nat.reduceBEq, Int.reduceToNat, List.reduceReplicate]
  repeat with_reducible refine cj ?_ ?_
  all_goals try first | (exact haw) | omega | exact ent (by kernel_rfl)
  refine hK3 _ _ _ ?_; clear hK3
  -- cond 1
  refine AW.cond rfl (by simp only [go_sem, reduceIte, reduceCtorEq, Nat.reduceAdd, Nat.reduceMul, Nat.reduceEqDiff, Nat.reduceLT, Nat.reduceLeDiff, Nat.reduceSub, Nat.reducePow, Nat.reduceBEq, Int.reduceToNat, List.reduceReplicate]) ?_ ?_
  · intro hb
    try simp only [hB, decide_eq_true_eq, decide_eq_false_iff_not] at hb
    simp at hb
  · intro hb
    try simp only [hB, decide_eq_true_eq, decide_eq_false_iff_not] at hb
    refine AW.skip ?_
    refine hK2 _ _ _ ?_; clear hK2
    refine AW.seq fun K4 hK4 => ?_
    refine AW.seq fun K5 hK5 => ?_
    -- region 3
    refine AW.regionK 0 (fun i => if i = 1 then some (.reads false (.bool (fewB n))) else none) [1, 2, 3, 15] [3] ?_
    simp only [go_sem, reduceIte, reduceCtorEq, Nat.reduceAdd, Nat.reduceMul, Nat.reduceEqDiff, Nat.reduceLT, Nat.reduceLeDiff, Nat.reduceSub, Nat.reducePow, Nat.reduceBEq, Int.reduceToNat, List.reduceReplicate]
    repeat with_reducible refine cj ?_ ?_
    all_goals try first | (exact hfew) | omega | exact ent (by kernel_rfl)
    refine hK5 _ _ _ ?_; clear hK5
    -- cond 2
    refine AW.cond rfl (by simp only [go_sem, reduceIte, reduceCtorEq, Nat.reduceAdd, Nat.reduceMul, Nat.reduceEqDiff, Nat.reduceLT, Nat.reduceLeDiff, Nat.reduceSub, Nat.reducePow, Nat.reduceBEq, Int.reduceToNat, List.reduceReplicate]) ?_ ?_
    · intro hb
      try simp only [hB, decide_eq_true_eq, decide_eq_false_iff_not] at hb
      refine AW.seq fun K6 hK6 => ?_
      -- region 4
      refine AW.regionK 0 (fun _ => none) [6] [] ?_
      simp only [go_sem, reduceIte, reduceCtorEq, Nat.reduceAdd, Nat.reduceMul, Nat.reduceEqDiff, Nat.reduceLT, Nat.reduceLeDiff, Nat.reduceSub, Nat.reducePow, Nat.reduceBEq, Int.reduceToNat, List.reduceReplicate]
      repeat with_reducible refine cj ?_ ?_
      all_goals try first | omega
      refine hK6 _ _ _ ?_; clear hK6
      refine AW.ret ?_
      rw [← hQr]
      simp only [go_sem, reduceIte, reduceCtorEq, Nat.reduceAdd, Nat.reduceMul, Nat.reduceEqDiff, Nat.reduceLT, Nat.reduceLeDiff, Nat.reduceSub, Nat.reducePow, Nat.reduceBEq, Int.reduceToNat, List.reduceReplicate]
      exact Wk.refl _
    · intro hb
      try simp only [hB, decide_eq_true_eq, decide_eq_false_iff_not] at hb
      refine AW.skip ?_
      refine hK4 _ _ _ ?_; clear hK4
      refine AW.seq fun K7 hK7 => ?_
      -- region 5
      refine AW.regionK 0 (fun i => if i = 3 then some (.reads false (.tup [.agg [.int .i64 N, .rsl 1 (words W)], .int .i64 v, .int .i64 e])) else none) [1, 2, 3, 7, 8, 9] [3, 7] ?_
      simp only [go_sem, reduceIte, reduceCtorEq, Nat.reduceAdd, Nat.reduceMul, Nat.reduceEqDiff, Nat.reduceLT, Nat.reduceLeDiff, Nat.reduceSub, Nat.reducePow, Nat.reduceBEq, Int.reduceToNat, List.reduceReplicate]
      repeat with_reducible refine cj ?_ ?_
      all_goals try first | (exact hM) | omega | exact ent (by kernel_rfl)
      refine hK7 _ _ _ ?_; clear hK7
      refine AW.seq fun K8 hK8 => ?_
      refine AW.block ?_
      refine AW.seq fun K9 hK9 => ?_
      -- region 6
      refine AW.regionK 0 (fun i => if i = 1 then some (.reads false (.bool (validB n))) else none) [1, 2, 3, 7, 8, 9, 24] [3, 7] ?_
      simp only [go_sem, reduceIte, reduceCtorEq, Nat.reduceAdd, Nat.reduceMul, Nat.reduceEqDiff, Nat.reduceLT, Nat.reduceLeDiff, Nat.reduceSub, Nat.reducePow, Nat.reduceBEq, Int.reduceToNat, List.reduceReplicate]
      repeat with_reducible refine cj ?_ ?_
      all_goals try first | (exact hval) | omega | exact ent (by kernel_rfl)
      refine hK9 _ _ _ ?_; clear hK9
      -- cond 3
      refine AW.cond rfl (by simp only [go_sem, reduceIte, reduceCtorEq, Nat.reduceAdd, Nat.reduceMul, Nat.reduceEqDiff, Nat.reduceLT, Nat.reduceLeDiff, Nat.reduceSub, Nat.reducePow, Nat.reduceBEq, Int.reduceToNat, List.reduceReplicate]) ?_ ?_
      · intro hb
        try simp only [hB, decide_eq_true_eq, decide_eq_false_iff_not] at hb
        obtain ⟨rfl, rfl, rfl, rfl⟩ := hM1 hb
        refine AW.seq fun K10 hK10 => ?_
        -- region 7
        refine AW.regionK 0 (fun i => if i = 1 then some (.reads false (.bool (decide ((0 : Int) = 0) && decide ((words []).length = 0)))) else none) [6] [] ?_
        simp only [go_sem, reduceIte, reduceCtorEq, Nat.reduceAdd, Nat.reduceMul, Nat.reduceEqDiff, Nat.reduceLT, Nat.reduceLeDiff, Nat.reduceSub, Nat.reducePow, Nat.reduceBEq, Int.reduceToNat, List.reduceReplicate]
        repeat with_reducible refine cj ?_ ?_
        all_goals try first | (exact hnone) | (intros; (repeat' apply And.intro) <;> first | assumption | (exact hnone)) | omega | exact ent (by kernel_rfl) | (simp only [go_sem, reduceIte, reduceCtorEq, Nat.reduceAdd, Nat.reduceMul, Nat.reduceEqDiff, Nat.reduceLT, Nat.reduceLeDiff, Nat.reduceSub, Nat.reducePow, Nat.reduceBEq, Int.reduceToNat, List.reduceReplicate]; done) | (simp_all [go_sem]; done)
        refine hK10 _ _ _ ?_; clear hK10
        refine AW.ret ?_
        rw [← hQr]
        simp only [go_sem, reduceIte, reduceCtorEq, Nat.reduceAdd, Nat.reduceMul, Nat.reduceEqDiff, Nat.reduceLT, Nat.reduceLeDiff, Nat.reduceSub, Nat.reducePow, Nat.reduceBEq, Int.reduceToNat, List.reduceReplicate]
        exact Wk.of_eq (by simp [words])
      · intro hb
        try simp only [hB, decide_eq_true_eq, decide_eq_false_iff_not] at hb
        have hv := hb
        refine AW.seq fun K11 hK11 => ?_
        -- region 8
        refine AW.regionK 0 (fun i => if i = 3 then some (.reads false (.bool (endsB n s t))) else none) [1, 2, 3, 7, 8, 9, 38] [3, 7] ?_
        simp only [go_sem, reduceIte, reduceCtorEq, Nat.reduceAdd, Nat.reduceMul, Nat.reduceEqDiff, Nat.reduceLT, Nat.reduceLeDiff, Nat.reduceSub, Nat.reducePow, Nat.reduceBEq, Int.reduceToNat, List.reduceReplicate]
        repeat with_reducible refine cj ?_ ?_
        all_goals try first | (exact hend) | omega | exact ent (by kernel_rfl)
        refine hK11 _ _ _ ?_; clear hK11
        -- cond 4
        refine AW.cond rfl (by simp only [go_sem, reduceIte, reduceCtorEq, Nat.reduceAdd, Nat.reduceMul, Nat.reduceEqDiff, Nat.reduceLT, Nat.reduceLeDiff, Nat.reduceSub, Nat.reducePow, Nat.reduceBEq, Int.reduceToNat, List.reduceReplicate]) ?_ ?_
        · intro hb
          try simp only [hB, decide_eq_true_eq, decide_eq_false_iff_not] at hb
          obtain ⟨rfl, rfl, rfl, rfl⟩ := hM2 hv hb
          refine AW.seq fun K12 hK12 => ?_
          -- region 9
          refine AW.regionK 0 (fun i => if i = 1 then some (.reads false (.bool (decide ((0 : Int) = 0) && decide ((words []).length = 0)))) else none) [6] [] ?_
          simp only [go_sem, reduceIte, reduceCtorEq, Nat.reduceAdd, Nat.reduceMul, Nat.reduceEqDiff, Nat.reduceLT, Nat.reduceLeDiff, Nat.reduceSub, Nat.reducePow, Nat.reduceBEq, Int.reduceToNat, List.reduceReplicate]
          repeat with_reducible refine cj ?_ ?_
          all_goals try first | (exact hnone) | (intros; (repeat' apply And.intro) <;> first | assumption | (exact hnone)) | omega | exact ent (by kernel_rfl) | (simp only [go_sem, reduceIte, reduceCtorEq, Nat.reduceAdd, Nat.reduceMul, Nat.reduceEqDiff, Nat.reduceLT, Nat.reduceLeDiff, Nat.reduceSub, Nat.reducePow, Nat.reduceBEq, Int.reduceToNat, List.reduceReplicate]; done) | (simp_all [go_sem]; done)
          refine hK12 _ _ _ ?_; clear hK12
          refine AW.ret ?_
          rw [← hQr]
          simp only [go_sem, reduceIte, reduceCtorEq, Nat.reduceAdd, Nat.reduceMul, Nat.reduceEqDiff, Nat.reduceLT, Nat.reduceLeDiff, Nat.reduceSub, Nat.reducePow, Nat.reduceBEq, Int.reduceToNat, List.reduceReplicate]
          exact Wk.of_eq (by simp [words])
        · intro hb
          try simp only [hB, decide_eq_true_eq, decide_eq_false_iff_not] at hb
          obtain ⟨he0, hN0, _⟩ := hM3 hv hb
          subst he0
          subst hN0
          obtain ⟨hr1, hr2, hr3⟩ := hR hv hb
          subst hr2
          refine AW.skip ?_
          refine hK8 _ _ _ ?_; clear hK8
          refine AW.seq fun K13 hK13 => ?_
          -- region 10
          refine AW.regionK 0 (fun i => if i = 3 then some (.reads false (.agg [.int .i64 n.N, .rsl 1 (words W2)])) else none) [3, 7, 8, 9, 10] [3, 7, 10] ?_
          simp only [go_sem, reduceIte, reduceCtorEq, Nat.reduceAdd, Nat.reduceMul, Nat.reduceEqDiff, Nat.reduceLT, Nat.reduceLeDiff, Nat.reduceSub, Nat.reducePow, Nat.reduceBEq, Int.reduceToNat, List.reduceReplicate]
          repeat with_reducible refine cj ?_ ?_
          all_goals try first | (exact hr1) | omega | exact ent (by kernel_rfl)
          refine hK13 _ _ _ ?_; clear hK13
          refine AW.seq fun K14 hK14 => ?_
          -- region 11
          refine AW.regionK 0 (fun i => if i = 5 then some (.reads false (.bool (decide (n.N = n.N) && (W2 == W2)))) else if i = 11 then some (.reads false (.int .i64 v)) else none) [6] [] ?_
          simp only [go_sem, reduceIte, reduceCtorEq, Nat.reduceAdd, Nat.reduceMul, Nat.reduceEqDiff, Nat.reduceLT, Nat.reduceLeDiff, Nat.reduceSub, Nat.reducePow, Nat.reduceBEq, Int.reduceToNat, List.reduceReplicate]
          repeat with_reducible refine cj ?_ ?_
          all_goals try first | (first | exact hsame hWl hWl | exact hr3) | (intros; (repeat' apply And.intro) <;> first | assumption | (first | exact hsame hWl hWl | exact hr3)) | omega | exact ent (by kernel_rfl) | (simp only [go_sem, reduceIte, reduceCtorEq, Nat.reduceAdd, Nat.reduceMul, Nat.reduceEqDiff, Nat.reduceLT, Nat.reduceLeDiff, Nat.reduceSub, Nat.reducePow, Nat.reduceBEq, Int.reduceToNat, List.reduceReplicate]; done) | (simp_all [go_sem]; done)
          refine hK14 _ _ _ ?_; clear hK14
          refine AW.ret ?_
          rw [← hQr]
          simp only [go_sem, reduceIte, reduceCtorEq, Nat.reduceAdd, Nat.reduceMul, Nat.reduceEqDiff, Nat.reduceLT, Nat.reduceLeDiff, Nat.reduceSub, Nat.reducePow, Nat.reduceBEq, Int.reduceToNat, List.reduceReplicate]
          exact Wk.of_eq (by simp)
end Go.Proofs.F
namespace Go.Proofs.F
open Go.AM Go
set_option maxRecDepth 100000
set_option maxHeartbeats 1000000
theorem badw_r (x : Int) : Reads Try.prog 25 false [.int .i64 x] (.bool (badW x)) := by
  refine Reads.body (rs := [.tmp 2]) Try.func25 rfl Try.ntmps25 rfl (by simp) ?_
  generalize hQr : retQ _ _ _ = Qr
  refine AW.seq fun K1 hK1 => ?_
  -- region 0
  refine AW.regionK 0 (fun _ => none) [0] [] ?_
  simp only [go_sem, reduceIte, reduceCtorEq, Nat.reduceAdd, Nat.reduceMul, Nat.reduceEqDiff, Nat.reduceLT, Nat.reduceLeDiff, Nat.reduceSub, Nat.reducePow, Nat.reduceBEq, Int.reduceToNat, List.reduceReplicate]
  repeat with_reducible refine cj ?_ ?_
  all_goals try first | omega
  refine hK1 _ _ _ ?_; clear hK1
  refine AW.seq fun K2 hK2 => ?_
  -- region 1
  refine AW.regionK 0 (fun _ => none) [2] [] ?_
  simp only [go_sem, reduceIte, reduceCtorEq, Nat.reduceAdd, Nat.reduceMul, Nat.reduceEqDiff, Nat.reduceLT, Nat.reduceLeDiff, Nat.reduceSub, Nat.reducePow, Nat.reduceBEq, Int.reduceToNat, List.reduceReplicate]
  repeat with_reducible refine cj ?_ ?_
  all_goals try first | omega | (simp only [go_sem, reduceIte, reduceCtorEq, Nat.reduceAdd, Nat.reduceMul, Nat.reduceEqDiff, Nat.reduceLT, Nat.reduceLeDiff, Nat.reduceSub, Nat.reducePow, Nat.reduceBEq, Int.reduceToNat, List.reduceReplicate]; done) | (simp_all [go_sem]; done)
  refine hK2 _ _ _ ?_; clear hK2
  refine AW.ret ?_
  rw [← hQr]
  simp only [go_sem, reduceIte, reduceCtorEq, Nat.reduceAdd, Nat.reduceMul, Nat.reduceEqDiff, Nat.reduceLT, Nat.reduceLeDiff, Nat.reduceSub, Nat.reducePow, Nat.reduceBEq, Int.reduceToNat, List.reduceReplicate]
  exact Wk.of_eq (by simp [badW])
theorem badp_r (ws : List Int) (p : Int × Int) (hl : ws.length ≤ 9223372036854775807) : Reads Try.prog 27 false [.agg (pairV p), .rptr [.rsl 1 (ints ws)]] (.bool (badP ws.length p)) := by
  unfold pairV
  refine Reads.body (rs := [.tmp 3]) Try.func27 rfl Try.ntmps27 rfl (by simp) ?_
  generalize hQr : retQ _ _ _ = Qr
  refine AW.seq fun K1 hK1 => ?_
  -- region 0
  refine AW.regionK 0 (fun _ => none) [1, 2] [2] ?_
  simp only [go_sem, reduceIte, reduceCtorEq, Nat.reduceAdd, Nat.reduceMul, Nat.reduceEqDiff, Nat.reduceLT, Nat.reduceLeDiff, Nat.reduceSub, Nat.reducePow, Nat.reduceBEq, Int.reduceToNat, List.reduceReplicate]
  repeat with_reducible refine cj ?_ ?_
  all_goals try first | omega
  refine hK1 _ _ _ ?_; clear hK1
  refine AW.seq fun K2 hK2 => ?_
  -- region 1
  refine AW.regionK 0 (fun _ => none) [3] [] ?_
  simp only [go_sem, reduceIte, reduceCtorEq, Nat.reduceAdd, Nat.reduceMul, Nat.reduceEqDiff, Nat.reduceLT, Nat.reduceLeDiff, Nat.reduceSub, Nat.reducePow, Nat.reduceBEq, Int.reduceToNat, List.reduceReplicate]
  repeat with_reducible refine cj ?_ ?_
  all_goals try first | omega | (simp only [go_sem, reduceIte, reduceCtorEq, Nat.reduceAdd, Nat.reduceMul, Nat.reduceEqDiff, Nat.reduceLT, Nat.reduceLeDiff, Nat.reduceSub, Nat.reducePow, Nat.reduceBEq, Int.reduceToNat, List.reduceReplicate]; done) | (simp_all [go_sem]; done)
  refine hK2 _ _ _ ?_; clear hK2
  refine AW.ret ?_
  rw [← hQr]
  simp only [go_sem, reduceIte, reduceCtorEq, Nat.reduceAdd, Nat.reduceMul, Nat.reduceEqDiff, Nat.reduceLT, Nat.reduceLeDiff, Nat.reduceSub, Nat.reducePow, Nat.reduceBEq, Int.reduceToNat, List.reduceReplicate]
  exact Wk.of_eq (by simp [badP, Bool.or_assoc])
theorem ixw_r (ws : List Int) (hl : ws.length ≤ 9223372036854775807) : Reads Try.prog 47 false [.rsl 1 (ints ws), .fn 25 []] (.int .i64 (ixf badW ws)) := by
  have hbw := badw_r
  refine Reads.body (rs := [.tmp 4]) Try.func47 rfl Try.ntmps47 rfl (by simp) ?_
  generalize hQr : retQ _ _ _ = Qr
  refine AW.seq fun K1 hK1 => ?_
  -- region 0
  refine AW.regionK 0 (fun _ => none) [0, 1] [] ?_
  simp only [go_sem, reduceIte, reduceCtorEq, Nat.reduceAdd, Nat.reduceMul, Nat.reduceEqDiff, Nat.reduceLT, Nat.reduceLeDiff, Nat.reduceSub, Nat.reducePow, Nat.reduceBEq, Int.reduceToNat, List.reduceReplicate]
  repeat with_reducible refine cj ?_ ?_
  all_goals try first | omega
  refine hK1 _ _ _ ?_; clear hK1
  refine AW.seq fun K2 hK2 => ?_
  refine AW.seq fun K3 hK3 => ?_
  -- region 1
  refine AW.regionK 0 (fun _ => none) [0, 1, 7, 8] [] ?_
  simp only [go_sem, reduceIte, reduceCtorEq, Nat.reduceAdd, Nat.reduceMul, Nat.reduceEqDiff, Nat.reduceLT, Nat.reduceLeDiff, Nat.reduceSub, Nat.reducePow, Nat.reduceBEq, Int.reduceToNat, List.reduceReplicate]
  repeat with_reducible refine cj ?_ ?_
  all_goals try first | omega
  refine hK3 _ _ _ ?_; clear hK3
  refine AW.block ?_
  -- loop 1
  refine AW.loopE (fun mm ee ss kk => ∃ (j : Nat), ws.length - j = mm ∧ ee = [(0, .rsl 1 (ints ws)), (1, .fn 25 []), (7, .int .i64 ws.length), (8, .int .i64 (j : Nat))] ∧ ss = [] ∧ (j ≤ ws.length ∧ (ws.take j).any badW = false)) ?_ ?_
  · refine ⟨_, 0, rfl, ?henv, ?hstore, ?hst⟩
    case henv =>
      repeat' (first | rfl | refine env_cons ?_ ?_ | refine st_cons ?_ ?_ ?_ ?_ | refine int_eq ?_ | refine bool_eq ?_ | refine rsl_eq ?_ | refine osl_eq ?_ | refine sl_eq ?_ ?_ ?_ | refine ptr_eq ?_ ?_ ?_ | refine agg_eq ?_ | refine es_cons ?_ ?_ | refine row_cons ?_ ?_)
      all_goals (first | (simp; done) | omega | (simp; omega))
    case hstore =>
      repeat' (first | rfl | refine env_cons ?_ ?_ | refine st_cons ?_ ?_ ?_ ?_ | refine int_eq ?_ | refine bool_eq ?_ | refine rsl_eq ?_ | refine osl_eq ?_ | refine sl_eq ?_ ?_ ?_ | refine ptr_eq ?_ ?_ ?_ | refine agg_eq ?_ | refine es_cons ?_ ?_ | refine row_cons ?_ ?_)
      all_goals (first | (simp; done) | omega | (simp; omega))
    case hst =>
      first | trivial | omega | (simp; done) | (simp; omega)
  rintro mm ee ss kk ⟨j, rfl, rfl, rfl, hI⟩
  generalize hQl1 : thenQ _ _ = Ql1
  obtain ⟨hj, hall⟩ := hI
  refine AW.seq fun K4 hK4 => ?_
  -- region 2
  refine AW.regionK 0 (fun _ => none) [0, 1, 7, 8, 9] [] ?_
  simp only [go_sem, reduceIte, reduceCtorEq, Nat.reduceAdd, Nat.reduceMul, Nat.reduceEqDiff, Nat.reduceLT, Nat.reduceLeDiff, Nat.reduceSub, Nat.reducePow, Nat.reduceBEq, Int.reduceToNat, List.reduceReplicate]
  repeat with_reducible refine cj ?_ ?_
  all_goals try first | omega
  refine hK4 _ _ _ ?_; clear hK4
  refine AW.seq fun K5 hK5 => ?_
  -- cond 1
  refine AW.cond rfl (by simp only [go_sem, reduceIte, reduceCtorEq, Nat.reduceAdd, Nat.reduceMul, Nat.reduceEqDiff, Nat.reduceLT, Nat.reduceLeDiff, Nat.reduceSub, Nat.reducePow, Nat.reduceBEq, Int.reduceToNat, List.reduceReplicate]) ?_ ?_
  · intro hb
    try simp only [hB, decide_eq_true_eq, decide_eq_false_iff_not] at hb
    obtain ⟨x, hx⟩ := getI (l := ws) (j := j) (by omega)
    have hgx := ints_get hx
    have hats := any_take_succ (p := badW) hx
    refine AW.skip ?_
    refine hK5 _ _ _ ?_; clear hK5
    refine AW.seq fun K6 hK6 => ?_
    refine AW.block ?_
    refine AW.seq fun K7 hK7 => ?_
    -- region 3
    refine AW.regionK 0 (fun _ => none) [0, 1, 5, 7, 8] [] ?_
    simp only [go_sem, reduceIte, reduceCtorEq, Nat.reduceAdd, Nat.reduceMul, Nat.reduceEqDiff, Nat.reduceLT, Nat.reduceLeDiff, Nat.reduceSub, Nat.reducePow, Nat.reduceBEq, Int.reduceToNat, List.reduceReplicate]
    repeat with_reducible refine cj ?_ ?_
    all_goals try first | omega
    refine hK7 _ _ _ ?_; clear hK7
    refine AW.seq fun K8 hK8 => ?_
    -- region 4
    refine AW.regionK 0 (fun i => if i = 5 then some (.reads false (.bool (badW x))) else none) [0, 1, 5, 7, 8, 16] [] ?_
    simp only [go_sem, reduceIte, reduceCtorEq, Nat.reduceAdd, Nat.reduceMul, Nat.reduceEqDiff, Nat.reduceLT, Nat.reduceLeDiff, Nat.reduceSub, Nat.reducePow, Nat.reduceBEq, Int.reduceToNat, List.reduceReplicate, hgx]
    repeat with_reducible refine cj ?_ ?_
    all_goals try first | (exact hbw x) | omega | exact ent (by kernel_rfl)
    refine hK8 _ _ _ ?_; clear hK8
    -- cond 2
    refine AW.cond rfl (by simp only [go_sem, reduceIte, reduceCtorEq, Nat.reduceAdd, Nat.reduceMul, Nat.reduceEqDiff, Nat.reduceLT, Nat.reduceLeDiff, Nat.reduceSub, Nat.reducePow, Nat.reduceBEq, Int.reduceToNat, List.reduceReplicate]) ?_ ?_
    · intro hb
      try simp only [hB, decide_eq_true_eq, decide_eq_false_iff_not] at hb
      refine AW.seq fun K9 hK9 => ?_
      -- region 5
      refine AW.regionK 0 (fun _ => none) [4] [] ?_
      simp only [go_sem, reduceIte, reduceCtorEq, Nat.reduceAdd, Nat.reduceMul, Nat.reduceEqDiff, Nat.reduceLT, Nat.reduceLeDiff, Nat.reduceSub, Nat.reducePow, Nat.reduceBEq, Int.reduceToNat, List.reduceReplicate]
      repeat with_reducible refine cj ?_ ?_
      all_goals try first | omega
      refine hK9 _ _ _ ?_; clear hK9
      refine AW.ret ?_
      rw [← hQl1]
      rw [← hQr]
      simp only [go_sem, reduceIte, reduceCtorEq, Nat.reduceAdd, Nat.reduceMul, Nat.reduceEqDiff, Nat.reduceLT, Nat.reduceLeDiff, Nat.reduceSub, Nat.reducePow, Nat.reduceBEq, Int.reduceToNat, List.reduceReplicate]
      exact Wk.of_eq (by rw [ixf_at hx hb hall])
    · intro hb
      try simp only [hB, decide_eq_true_eq, decide_eq_false_iff_not] at hb
      refine AW.skip ?_
      refine hK6 _ _ _ ?_; clear hK6
      -- region 6
      refine AW.regionK 0 (fun _ => none) [0, 1, 7, 8] [] ?_
      simp only [go_sem, reduceIte, reduceCtorEq, Nat.reduceAdd, Nat.reduceMul, Nat.reduceEqDiff, Nat.reduceLT, Nat.reduceLeDiff, Nat.reduceSub, Nat.reducePow, Nat.reduceBEq, Int.reduceToNat, List.reduceReplicate]
      repeat with_reducible refine cj ?_ ?_
      all_goals try first | omega
      rw [← hQl1]
      change Exists _
      refine ⟨_, ?hm, j + 1, rfl, ?henv, ?hstore, ?hst⟩
      case henv =>
        repeat' (first | rfl | refine env_cons ?_ ?_ | refine st_cons ?_ ?_ ?_ ?_ | refine int_eq ?_ | refine bool_eq ?_ | refine rsl_eq ?_ | refine osl_eq ?_ | refine sl_eq ?_ ?_ ?_ | refine ptr_eq ?_ ?_ ?_ | refine agg_eq ?_ | refine es_cons ?_ ?_ | refine row_cons ?_ ?_)
        all_goals (first | (simp; done) | omega | (simp; omega))
      case hstore =>
        repeat' (first | rfl | refine env_cons ?_ ?_ | refine st_cons ?_ ?_ ?_ ?_ | refine int_eq ?_ | refine bool_eq ?_ | refine rsl_eq ?_ | refine osl_eq ?_ | refine sl_eq ?_ ?_ ?_ | refine ptr_eq ?_ ?_ ?_ | refine agg_eq ?_ | refine es_cons ?_ ?_ | refine row_cons ?_ ?_)
        all_goals (first | (simp; done) | omega | (simp; omega))
      case hst =>
        exact ⟨by omega, by rw [hats, hall, hb]; rfl⟩
      case hm => omega
  · intro hb
    try simp only [hB, decide_eq_true_eq, decide_eq_false_iff_not] at hb
    refine AW.keep [] [] ?_
    try simp only [go_sem, reduceIte, reduceCtorEq, Nat.reduceAdd, Nat.reduceMul, Nat.reduceEqDiff, Nat.reduceLT, Nat.reduceLeDiff, Nat.reduceSub, Nat.reducePow, Nat.reduceBEq, Int.reduceToNat, List.reduceReplicate]
    refine AW.exit ?_
    rw [← hQl1]
    refine hK2 _ _ _ ?_; clear hK2
    refine AW.seq fun K10 hK10 => ?_
    -- region 7
    refine AW.regionK 0 (fun _ => none) [4] [] ?_
    simp only [go_sem, reduceIte, reduceCtorEq, Nat.reduceAdd, Nat.reduceMul, Nat.reduceEqDiff, Nat.reduceLT, Nat.reduceLeDiff, Nat.reduceSub, Nat.reducePow, Nat.reduceBEq, Int.reduceToNat, List.reduceReplicate]
    repeat with_reducible refine cj ?_ ?_
    all_goals try first | omega
    refine hK10 _ _ _ ?_; clear hK10
    refine AW.ret ?_
    rw [← hQr]
    simp only [go_sem, reduceIte, reduceCtorEq, Nat.reduceAdd, Nat.reduceMul, Nat.reduceEqDiff, Nat.reduceLT, Nat.reduceLeDiff, Nat.reduceSub, Nat.reducePow, Nat.reduceBEq, Int.reduceToNat, List.reduceReplicate]
    exact Wk.of_eq (by rw [List.take_of_length_le (by omega)] at hall; rw [ixf_none hall])
theorem ixp_r (ws : List Int) (ns : List (Int × Int)) (hl : ws.length ≤ 9223372036854775807) (hl2 : ns.length ≤ 9223372036854775807) : Reads Try.prog 48 false [.rsl 2 (ns.map pairV), .fn 27 [.rptr [.rsl 1 (ints ws)]]] (.int .i64 (ixf (badP ws.length) ns)) := by
  have hbp := fun p => badp_r ws p hl
  refine Reads.body (rs := [.tmp 4]) Try.func48 rfl Try.ntmps48 rfl (by simp) ?_
  generalize hQr : retQ _ _ _ = Qr
  refine AW.seq fun K1 hK1 => ?_
  -- region 0
  refine AW.regionK 0 (fun _ => none) [0, 1] [] ?_
  simp only [go_sem, reduceIte, reduceCtorEq, Nat.reduceAdd, Nat.reduceMul, Nat.reduceEqDiff, Nat.reduceLT, Nat.reduceLeDiff, Nat.reduceSub, Nat.reducePow, Nat.reduceBEq, Int.reduceToNat, List.reduceReplicate]
  repeat with_reducible refine cj ?_ ?_
  all_goals try first | omega
  refine hK1 _ _ _ ?_; clear hK1
  refine AW.seq fun K2 hK2 => ?_
  refine AW.seq fun K3 hK3 => ?_
  -- region 1
  refine AW.regionK 0 (fun _ => none) [0, 1, 7, 8] [] ?_
  simp only [go_sem, reduceIte, reduceCtorEq, Nat.reduceAdd, Nat.reduceMul, Nat.reduceEqDiff, Nat.reduceLT, Nat.reduceLeDiff, Nat.reduceSub, Nat.reducePow, Nat.reduceBEq, Int.reduceToNat, List.reduceReplicate]
  repeat with_reducible refine cj ?_ ?_
  all_goals try first | omega
  refine hK3 _ _ _ ?_; clear hK3
  refine AW.block ?_
  -- loop 1
  refine AW.loopE (fun mm ee ss kk => ∃ (j : Nat), ns.length - j = mm ∧ ee = [(0, .rsl 2 (ns.map pairV)), (1, .fn 27 [.rptr [.rsl 1 (ints ws)]]), (7, .int .i64 ns.length), (8, .int .i64 (j : Nat))] ∧ ss = [] ∧ (j ≤ ns.length ∧ (ns.take j).any (badP ws.length) = false)) ?_ ?_
  · refine ⟨_, 0, rfl, ?henv, ?hstore, ?hst⟩
    case henv =>
      repeat' (first | rfl | refine env_cons ?_ ?_ | refine st_cons ?_ ?_ ?_ ?_ | refine int_eq ?_ | refine bool_eq ?_ | refine rsl_eq ?_ | refine osl_eq ?_ | refine sl_eq ?_ ?_ ?_ | refine ptr_eq ?_ ?_ ?_ | refine agg_eq ?_ | refine es_cons ?_ ?_ | refine row_cons ?_ ?_)
      all_goals (first | (simp; done) | omega | (simp; omega))
    case hstore =>
      repeat' (first | rfl | refine env_cons ?_ ?_ | refine st_cons ?_ ?_ ?_ ?_ | refine int_eq ?_ | refine bool_eq ?_ | refine rsl_eq ?_ | refine osl_eq ?_ | refine sl_eq ?_ ?_ ?_ | refine ptr_eq ?_ ?_ ?_ | refine agg_eq ?_ | refine es_cons ?_ ?_ | refine row_cons ?_ ?_)
      all_goals (first | (simp; done) | omega | (simp; omega))
    case hst =>
      first | trivial | omega | (simp; done) | (simp; omega)
  rintro mm ee ss kk ⟨j, rfl, rfl, rfl, hI⟩
  generalize hQl1 : thenQ _ _ = Ql1
  obtain ⟨hj, hall⟩ := hI
  refine AW.seq fun K4 hK4 => ?_
  -- region 2
  refine AW.regionK 0 (fun _ => none) [0, 1, 7, 8, 9] [] ?_
  simp only [go_sem, reduceIte, reduceCtorEq, Nat.reduceAdd, Nat.reduceMul, Nat.reduceEqDiff, Nat.reduceLT, Nat.reduceLeDiff, Nat.reduceSub, Nat.reducePow, Nat.reduceBEq, Int.reduceToNat, List.reduceReplicate]
  repeat with_reducible refine cj ?_ ?_
  all_goals try first | omega
  refine hK4 _ _ _ ?_; clear hK4
  refine AW.seq fun K5 hK5 => ?_
  -- cond 1
  refine AW.cond rfl (by simp only [go_sem, reduceIte, reduceCtorEq, Nat.reduceAdd, Nat.reduceMul, Nat.reduceEqDiff, Nat.reduceLT, Nat.reduceLeDiff, Nat.reduceSub, Nat.reducePow, Nat.reduceBEq, Int.reduceToNat, List.reduceReplicate]) ?_ ?_
  · intro hb
    try simp only [hB, decide_eq_true_eq, decide_eq_false_iff_not] at hb
    obtain ⟨x, hx⟩ := getI (l := ns) (j := j) (by omega)
    have hgx := getV (f := pairV) hx
    have hats := any_take_succ (p := badP ws.length) hx
    have hbx := hbp x
    unfold pairV at hbx
    refine AW.skip ?_
    refine hK5 _ _ _ ?_; clear hK5
    refine AW.seq fun K6 hK6 => ?_
    refine AW.block ?_
    refine AW.seq fun K7 hK7 => ?_
    -- region 3
    refine AW.regionK 0 (fun _ => none) [0, 1, 5, 7, 8] [] ?_
    simp only [go_sem, reduceIte, reduceCtorEq, Nat.reduceAdd, Nat.reduceMul, Nat.reduceEqDiff, Nat.reduceLT, Nat.reduceLeDiff, Nat.reduceSub, Nat.reducePow, Nat.reduceBEq, Int.reduceToNat, List.reduceReplicate]
    repeat with_reducible refine cj ?_ ?_
    all_goals try first | omega
    refine hK7 _ _ _ ?_; clear hK7
    refine AW.seq fun K8 hK8 => ?_
    -- region 4
    refine AW.regionK 0 (fun i => if i = 5 then some (.reads false (.bool (badP ws.length x))) else none) [0, 1, 5, 7, 8, 16] [] ?_
    simp only [go_sem, reduceIte, reduceCtorEq, Nat.reduceAdd, Nat.reduceMul, Nat.reduceEqDiff, Nat.reduceLT, Nat.reduceLeDiff, Nat.reduceSub, Nat.reducePow, Nat.reduceBEq, Int.reduceToNat, List.reduceReplicate, hgx, pairV]
    repeat with_reducible refine cj ?_ ?_
    all_goals try first | (exact hbx) | omega | exact ent (by kernel_rfl)
    refine hK8 _ _ _ ?_; clear hK8
    -- cond 2
    refine AW.cond rfl (by simp only [go_sem, reduceIte, reduceCtorEq, Nat.reduceAdd, Nat.reduceMul, Nat.reduceEqDiff, Nat.reduceLT, Nat.reduceLeDiff, Nat.reduceSub, Nat.reducePow, Nat.reduceBEq, Int.reduceToNat, List.reduceReplicate]) ?_ ?_
    · intro hb
      try simp only [hB, decide_eq_true_eq, decide_eq_false_iff_not] at hb
      refine AW.seq fun K9 hK9 => ?_
      -- region 5
      refine AW.regionK 0 (fun _ => none) [4] [] ?_
      simp only [go_sem, reduceIte, reduceCtorEq, Nat.reduceAdd, Nat.reduceMul, Nat.reduceEqDiff, Nat.reduceLT, Nat.reduceLeDiff, Nat.reduceSub, Nat.reducePow, Nat.reduceBEq, Int.reduceToNat, List.reduceReplicate]
      repeat with_reducible refine cj ?_ ?_
      all_goals try first | omega
      refine hK9 _ _ _ ?_; clear hK9
      refine AW.ret ?_
      rw [← hQl1]
      rw [← hQr]
      simp only [go_sem, reduceIte, reduceCtorEq, Nat.reduceAdd, Nat.reduceMul, Nat.reduceEqDiff, Nat.reduceLT, Nat.reduceLeDiff, Nat.reduceSub, Nat.reducePow, Nat.reduceBEq, Int.reduceToNat, List.reduceReplicate]
      exact Wk.of_eq (by rw [ixf_at hx hb hall])
    · intro hb
      try simp only [hB, decide_eq_true_eq, decide_eq_false_iff_not] at hb
      refine AW.skip ?_
      refine hK6 _ _ _ ?_; clear hK6
      -- region 6
      refine AW.regionK 0 (fun _ => none) [0, 1, 7, 8] [] ?_
      simp only [go_sem, reduceIte, reduceCtorEq, Nat.reduceAdd, Nat.reduceMul, Nat.reduceEqDiff, Nat.reduceLT, Nat.reduceLeDiff, Nat.reduceSub, Nat.reducePow, Nat.reduceBEq, Int.reduceToNat, List.reduceReplicate]
      repeat with_reducible refine cj ?_ ?_
      all_goals try first | omega
      rw [← hQl1]
      change Exists _
      refine ⟨_, ?hm, j + 1, rfl, ?henv, ?hstore, ?hst⟩
      case henv =>
        repeat' (first | rfl | refine env_cons ?_ ?_ | refine st_cons ?_ ?_ ?_ ?_ | refine int_eq ?_ | refine bool_eq ?_ | refine rsl_eq ?_ | refine osl_eq ?_ | refine sl_eq ?_ ?_ ?_ | refine ptr_eq ?_ ?_ ?_ | refine agg_eq ?_ | refine es_cons ?_ ?_ | refine row_cons ?_ ?_)
        all_goals (first | (simp; done) | omega | (simp; omega))
      case hstore =>
        repeat' (first | rfl | refine env_cons ?_ ?_ | refine st_cons ?_ ?_ ?_ ?_ | refine int_eq ?_ | refine bool_eq ?_ | refine rsl_eq ?_ | refine osl_eq ?_ | refine sl_eq ?_ ?_ ?_ | refine ptr_eq ?_ ?_ ?_ | refine agg_eq ?_ | refine es_cons ?_ ?_ | refine row_cons ?_ ?_)
        all_goals (first | (simp; done) | omega | (simp; omega))
      case hst =>
        exact ⟨by omega, by rw [hats, hall, hb]; rfl⟩
      case hm => omega
  · intro hb
    try simp only [hB, decide_eq_true_eq, decide_eq_false_iff_not] at hb
    refine AW.keep [] [] ?_
    try simp only [go_sem, reduceIte, reduceCtorEq, Nat.reduceAdd, Nat.reduceMul, Nat.reduceEqDiff, Nat.reduceLT, Nat.reduceLeDiff, Nat.reduceSub, Nat.reducePow, Nat.reduceBEq, Int.reduceToNat, List.reduceReplicate]
    refine AW.exit ?_
    rw [← hQl1]
    refine hK2 _ _ _ ?_; clear hK2
    refine AW.seq fun K10 hK10 => ?_
    -- region 7
    refine AW.regionK 0 (fun _ => none) [4] [] ?_
    simp only [go_sem, reduceIte, reduceCtorEq, Nat.reduceAdd, Nat.reduceMul, Nat.reduceEqDiff, Nat.reduceLT, Nat.reduceLeDiff, Nat.reduceSub, Nat.reducePow, Nat.reduceBEq, Int.reduceToNat, List.reduceReplicate]
    repeat with_reducible refine cj ?_ ?_
    all_goals try first | omega
    refine hK10 _ _ _ ?_; clear hK10
    refine AW.ret ?_
    rw [← hQr]
    simp only [go_sem, reduceIte, reduceCtorEq, Nat.reduceAdd, Nat.reduceMul, Nat.reduceEqDiff, Nat.reduceLT, Nat.reduceLeDiff, Nat.reduceSub, Nat.reducePow, Nat.reduceBEq, Int.reduceToNat, List.reduceReplicate]
    exact Wk.of_eq (by rw [List.take_of_length_le (by omega)] at hall; rw [ixf_none hall])
theorem ctw_r (ws : List Int) (hl : ws.length ≤ 9223372036854775807) : Reads Try.prog 24 false [.rsl 1 (ints ws), .fn 25 []] (.bool (ws.any badW)) := by
  have h := ixw_r ws hl
  have hge := ixf_ge badW ws
  refine Reads.body (rs := [.tmp 4]) Try.func24 rfl Try.ntmps24 rfl (by simp) ?_
  generalize hQr : retQ _ _ _ = Qr
  refine AW.seq fun K1 hK1 => ?_
  -- region 0
  refine AW.regionK 0 (fun _ => none) [0, 1] [] ?_
  simp only [go_sem, reduceIte, reduceCtorEq, Nat.reduceAdd, Nat.reduceMul, Nat.reduceEqDiff, Nat.reduceLT, Nat.reduceLeDiff, Nat.reduceSub, Nat.reducePow, Nat.reduceBEq, Int.reduceToNat, List.reduceReplicate]
  repeat with_reducible refine cj ?_ ?_
  all_goals try first | omega
  refine hK1 _ _ _ ?_; clear hK1
  refine AW.seq fun K2 hK2 => ?_
  -- region 1
  refine AW.regionK 0 (fun i => if i = 2 then some (.reads false (.int .i64 (ixf badW ws))) else none) [4] [] ?_
  simp only [go_sem, reduceIte, reduceCtorEq, Nat.reduceAdd, Nat.reduceMul, Nat.reduceEqDiff, Nat.reduceLT, Nat.reduceLeDiff, Nat.reduceSub, Nat.reducePow, Nat.reduceBEq, Int.reduceToNat, List.reduceReplicate]
  repeat with_reducible refine cj ?_ ?_
  all_goals try first | (exact h) | omega | exact ent (by kernel_rfl)
  refine hK2 _ _ _ ?_; clear hK2
  refine AW.ret ?_
  rw [← hQr]
  simp only [go_sem, reduceIte, reduceCtorEq, Nat.reduceAdd, Nat.reduceMul, Nat.reduceEqDiff, Nat.reduceLT, Nat.reduceLeDiff, Nat.reduceSub, Nat.reducePow, Nat.reduceBEq, Int.reduceToNat, List.reduceReplicate]
  exact Wk.of_eq (by rw [hge])
theorem ctp_r (ws : List Int) (ns : List (Int × Int)) (hl : ws.length ≤ 9223372036854775807) (hl2 : ns.length ≤ 9223372036854775807) : Reads Try.prog 26 false [.rsl 2 (ns.map pairV), .fn 27 [.rptr [.rsl 1 (ints ws)]]] (.bool (ns.any (badP ws.length))) := by
  have h := ixp_r ws ns hl hl2
  have hge := ixf_ge (badP ws.length) ns
  refine Reads.body (rs := [.tmp 4]) Try.func26 rfl Try.ntmps26 rfl (by simp) ?_
  generalize hQr : retQ _ _ _ = Qr
  refine AW.seq fun K1 hK1 => ?_
  -- region 0
  refine AW.regionK 0 (fun _ => none) [0, 1] [] ?_
  simp only [go_sem, reduceIte, reduceCtorEq, Nat.reduceAdd, Nat.reduceMul, Nat.reduceEqDiff, Nat.reduceLT, Nat.reduceLeDiff, Nat.reduceSub, Nat.reducePow, Nat.reduceBEq, Int.reduceToNat, List.reduceReplicate]
  repeat with_reducible refine cj ?_ ?_
  all_goals try first | omega
  refine hK1 _ _ _ ?_; clear hK1
  refine AW.seq fun K2 hK2 => ?_
  -- region 1
  refine AW.regionK 0 (fun i => if i = 2 then some (.reads false (.int .i64 (ixf (badP ws.length) ns))) else none) [4] [] ?_
  simp only [go_sem, reduceIte, reduceCtorEq, Nat.reduceAdd, Nat.reduceMul, Nat.reduceEqDiff, Nat.reduceLT, Nat.reduceLeDiff, Nat.reduceSub, Nat.reducePow, Nat.reduceBEq, Int.reduceToNat, List.reduceReplicate]
  repeat with_reducible refine cj ?_ ?_
  all_goals try first | (exact h) | omega | exact ent (by kernel_rfl)
  refine hK2 _ _ _ ?_; clear hK2
  refine AW.ret ?_
  rw [← hQr]
  simp only [go_sem, reduceIte, reduceCtorEq, Nat.reduceAdd, Nat.reduceMul, Nat.reduceEqDiff, Nat.reduceLT, Nat.reduceLeDiff, Nat.reduceSub, Nat.reducePow, Nat.reduceBEq, Int.reduceToNat, List.reduceReplicate]
  exact Wk.of_eq (by rw [hge])
end Go.Proofs.F
namespace Go.Proofs.F
open Go.AM Go
set_option maxRecDepth 100000
set_option maxHeartbeats 1000000
theorem clo_err5 (ws : List Int) (ns : List (Int × Int)) (hl : ws.length ≤ 9223372036854775807) (hl2 : ns.length ≤ 9223372036854775807) (h : 500 < ws.length ∨ 1000 < ns.length) :
    Reads Try.prog 23 false [.rsl 1 (ints ws), .rsl 2 (ns.map pairV)] (.tup [.agg [.int .i64 0, .rsl 1 []], .int .i64 0, .int .i64 5]) := by
  refine Reads.body (rs := [.cell 4 37, .tmp 5, .tmp 6]) Try.func23 rfl Try.ntmps23 rfl (by simp) ?_
  generalize hQr : retQ _ _ _ = Qr
  refine AW.seq fun K1 hK1 => ?_
  -- region 0
  refine AW.regionK 0 (fun _ => none) [0, 1, 4, 5] [4] ?_
  simp only [go_sem, reduceIte, reduceCtorEq, Nat.reduceAdd, Nat.reduceMul, Nat.reduceEqDiff, Nat.reduceLT, Nat.reduceLeDiff, Nat.reduceSub, Nat.reducePow, Nat.reduceBEq, Int.reduceToNat, List.reduceReplicate]
  repeat with_reducible refine cj ?_ ?_
  all_goals try first | omega
  refine hK1 _ _ _ ?_; clear hK1
  refine AW.seq fun K2 hK2 => ?_
  refine AW.seq fun K3 hK3 => ?_
  -- region 1
  refine AW.regionK 0 (fun _ => none) [0, 1, 4, 5, 27] [4] ?_
  simp only [go_sem, reduceIte, reduceCtorEq, Nat.reduceAdd, Nat.reduceMul, Nat.reduceEqDiff, Nat.reduceLT, Nat.reduceLeDiff, Nat.reduceSub, Nat.reducePow, Nat.reduceBEq, Int.reduceToNat, List.reduceReplicate]
  repeat with_reducible refine cj ?_ ?_
  all_goals try first | omega | (simp only [go_sem, reduceIte, reduceCtorEq, Nat.reduceAdd, Nat.reduceMul, Nat.reduceEqDiff, Nat.reduceLT, Nat.reduceLeDiff, Nat.reduceSub, Nat.reducePow, Nat.reduceBEq, Int.reduceToNat, List.reduceReplicate]; done) | (simp_all [go_sem]; done)
  refine hK3 _ _ _ ?_; clear hK3
  -- cond 1
  refine AW.cond rfl (by simp only [go_sem, reduceIte, reduceCtorEq, Nat.reduceAdd, Nat.reduceMul, Nat.reduceEqDiff, Nat.reduceLT, Nat.reduceLeDiff, Nat.reduceSub, Nat.reducePow, Nat.reduceBEq, Int.reduceToNat, List.reduceReplicate]) ?_ ?_
  · intro hb
    try simp only [hB, decide_eq_true_eq, decide_eq_false_iff_not] at hb
    refine AW.seq fun K4 hK4 => ?_
    -- region 2
    refine AW.regionK 0 (fun _ => none) [4, 5, 6] [4] ?_
    simp only [go_sem, reduceIte, reduceCtorEq, Nat.reduceAdd, Nat.reduceMul, Nat.reduceEqDiff, Nat.reduceLT, Nat.reduceLeDiff, Nat.reduceSub, Nat.reducePow, Nat.reduceBEq, Int.reduceToNat, List.reduceReplicate]
    repeat with_reducible refine cj ?_ ?_
    all_goals try first | omega
    refine hK4 _ _ _ ?_; clear hK4
    refine AW.ret ?_
    rw [← hQr]
    simp only [go_sem, reduceIte, reduceCtorEq, Nat.reduceAdd, Nat.reduceMul, Nat.reduceEqDiff, Nat.reduceLT, Nat.reduceLeDiff, Nat.reduceSub, Nat.reducePow, Nat.reduceBEq, Int.reduceToNat, List.reduceReplicate]
    exact Wk.tup3 (Wk.agg2 (Wk.refl _) (Wk.nil 1)) (Wk.refl _) (Wk.refl _)
  · intro hb
    try simp only [hB, decide_eq_true_eq, decide_eq_false_iff_not] at hb
    exfalso; omega
theorem clo_err2 (ws : List Int) (ns : List (Int × Int)) (h1 : ws.length ≤ 500) (h2 : ns.length ≤ 1000) (hbad : ws.any badW = true ∨ ns.any (badP ws.length) = true) :
    Reads Try.prog 23 false [.rsl 1 (ints ws), .rsl 2 (ns.map pairV)] (.tup [.agg [.int .i64 0, .rsl 1 []], .int .i64 0, .int .i64 2]) := by
  refine Reads.body (rs := [.cell 4 37, .tmp 5, .tmp 6]) Try.func23 rfl Try.ntmps23 rfl (by simp) ?_
  generalize hQr : retQ _ _ _ = Qr
  refine AW.seq fun K1 hK1 => ?_
  -- region 0
  refine AW.regionK 0 (fun _ => none) [0, 1, 4, 5] [4] ?_
  simp only [go_sem, reduceIte, reduceCtorEq, Nat.reduceAdd, Nat.reduceMul, Nat.reduceEqDiff, Nat.reduceLT, Nat.reduceLeDiff, Nat.reduceSub, Nat.reducePow, Nat.reduceBEq, Int.reduceToNat, List.reduceReplicate]
  repeat with_reducible refine cj ?_ ?_
  all_goals try first | omega
  refine hK1 _ _ _ ?_; clear hK1
  refine AW.seq fun K2 hK2 => ?_
  refine AW.seq fun K3 hK3 => ?_
  -- region 1
  refine AW.regionK 0 (fun _ => none) [0, 1, 4, 5, 27] [4] ?_
  simp only [go_sem, reduceIte, reduceCtorEq, Nat.reduceAdd, Nat.reduceMul, Nat.reduceEqDiff, Nat.reduceLT, Nat.reduceLeDiff, Nat.reduceSub, Nat.reducePow, Nat.reduceBEq, Int.reduceToNat, List.reduceReplicate]
  repeat with_reducible refine cj ?_ ?_
  all_goals try first | omega | (simp only [go_sem, reduceIte, reduceCtorEq, Nat.reduceAdd, Nat.reduceMul, Nat.reduceEqDiff, Nat.reduceLT, Nat.reduceLeDiff, Nat.reduceSub, Nat.reducePow, Nat.reduceBEq, Int.reduceToNat, List.reduceReplicate]; done) | (simp_all [go_sem]; done)
  refine hK3 _ _ _ ?_; clear hK3
  -- cond 1
  refine AW.cond rfl (by simp only [go_sem, reduceIte, reduceCtorEq, Nat.reduceAdd, Nat.reduceMul, Nat.reduceEqDiff, Nat.reduceLT, Nat.reduceLeDiff, Nat.reduceSub, Nat.reducePow, Nat.reduceBEq, Int.reduceToNat, List.reduceReplicate]) ?_ ?_
  · intro hb
    try simp only [hB, decide_eq_true_eq, decide_eq_false_iff_not] at hb
    exfalso; omega
  · intro hb
    try simp only [hB, decide_eq_true_eq, decide_eq_false_iff_not] at hb
    refine AW.skip ?_
    refine hK2 _ _ _ ?_; clear hK2
    refine AW.seq fun K4 hK4 => ?_
    -- region 3
    refine AW.regionK 0 (fun _ => none) [0, 1, 4, 5, 7] [4] ?_
    simp only [go_sem, reduceIte, reduceCtorEq, Nat.reduceAdd, Nat.reduceMul, Nat.reduceEqDiff, Nat.reduceLT, Nat.reduceLeDiff, Nat.reduceSub, Nat.reducePow, Nat.reduceBEq, Int.reduceToNat, List.reduceReplicate]
    repeat with_reducible refine cj ?_ ?_
    all_goals try first | omega
    refine hK4 _ _ _ ?_; clear hK4
    refine AW.seq fun K5 hK5 => ?_
    -- region 4
    refine AW.regionK 0 (fun _ => none) [0, 1, 4, 5, 7, 8, 9] [4] ?_
    simp only [go_sem, reduceIte, reduceCtorEq, Nat.reduceAdd, Nat.reduceMul, Nat.reduceEqDiff, Nat.reduceLT, Nat.reduceLeDiff, Nat.reduceSub, Nat.reducePow, Nat.reduceBEq, Int.reduceToNat, List.reduceReplicate]
    repeat with_reducible refine cj ?_ ?_
    all_goals try first | omega
    refine hK5 _ _ _ ?_; clear hK5
    refine AW.seq fun K6 hK6 => ?_
    -- region 5
    refine AW.regionK 0 (fun _ => none) [0, 1, 4, 5, 7, 8, 9, 10] [4, 10] ?_
    simp only [go_sem, reduceIte, reduceCtorEq, Nat.reduceAdd, Nat.reduceMul, Nat.reduceEqDiff, Nat.reduceLT, Nat.reduceLeDiff, Nat.reduceSub, Nat.reducePow, Nat.reduceBEq, Int.reduceToNat, List.reduceReplicate]
    repeat with_reducible refine cj ?_ ?_
    all_goals try first | omega
    refine hK6 _ _ _ ?_; clear hK6
    refine AW.seq fun K7 hK7 => ?_
    refine AW.seq fun K8 hK8 => ?_
    -- region 6
    refine AW.regionK 0 (fun _ => none) [0, 1, 4, 5, 7, 8, 9, 10, 37, 38, 39] [4, 10] ?_
    simp only [go_sem, reduceIte, reduceCtorEq, Nat.reduceAdd, Nat.reduceMul, Nat.reduceEqDiff, Nat.reduceLT, Nat.reduceLeDiff, Nat.reduceSub, Nat.reducePow, Nat.reduceBEq, Int.reduceToNat, List.reduceReplicate]
    repeat with_reducible refine cj ?_ ?_
    all_goals try first | omega
    refine hK8 _ _ _ ?_; clear hK8
    refine AW.block ?_
    refine AW.nilCellK 10 0 1 200 3 ?_
    simp only [go_sem, reduceIte, Nat.reduceEqDiff]
    repeat refine cj ?_ ?_
    rotate_left
    · decide
    · decide
    · decide
    refine AW.keep [0, 1, 4, 5, 7, 8, 9, 10, 37, 38, 39] [4, 10, 200] ?_
    simp only [go_sem, reduceIte, Nat.reduceEqDiff]
    -- loop 1
    refine AW.loopE (fun mm ee ss kk => ∃ (j g10 v10 g v : Nat), ws.length - j = mm ∧ ee = [(0, .rsl 1 (ints ws)), (1, .rsl 2 (ns.map pairV)), (4, .ptr ⟨4, 0, none⟩ 0 0), (5, .int .i64 0), (7, .int .i64 ws.length), (8, .int .i64 ws.length), (9, .int .i64 (ws.length + 1)), (10, .ptr ⟨10, g10, none⟩ 0 0), (37, .rsl 1 (ints ws)), (38, .int .i64 ws.length), (39, .int .i64 (j : Nat))] ∧ ss = [(4, some ⟨0, 0, 2, [[.int .i64 0, .nilsl]]⟩), (10, some ⟨g10, v10, 2, [[.int .i64 (ws.length + 2), .sl ⟨200, g, none⟩ 0 (wEdges ws j).length none]]⟩), (200, some ⟨g, v, 3, (wEdges ws j).map edgeV⟩)] ∧ (j ≤ ws.length ∧ (ws.take j).any badW = false)) ?_ ?_
    · refine ⟨_, 0, ?_, ?_, ?_, ?_, rfl, ?henv, ?hstore, ?hst⟩
      case henv =>
        repeat' (first | rfl | refine env_cons ?_ ?_ | refine st_cons ?_ ?_ ?_ ?_ | refine int_eq ?_ | refine bool_eq ?_ | refine rsl_eq ?_ | refine osl_eq ?_ | refine sl_eq ?_ ?_ ?_ | refine ptr_eq ?_ ?_ ?_ | refine agg_eq ?_ | refine es_cons ?_ ?_ | refine row_cons ?_ ?_)
        all_goals (first | (simp; done) | omega | (simp; omega))
      case hstore =>
        repeat' (first | rfl | refine env_cons ?_ ?_ | refine st_cons ?_ ?_ ?_ ?_ | refine int_eq ?_ | refine bool_eq ?_ | refine rsl_eq ?_ | refine osl_eq ?_ | refine sl_eq ?_ ?_ ?_ | refine ptr_eq ?_ ?_ ?_ | refine agg_eq ?_ | refine es_cons ?_ ?_ | refine row_cons ?_ ?_)
        all_goals (first | (simp; done) | omega | (simp; omega))
      case hst =>
        first | trivial | omega | (simp; done) | (simp; omega)
    rintro mm ee ss kk ⟨j, g10, v10, g, v, rfl, rfl, rfl, hI⟩
    generalize hQl1 : thenQ _ _ = Ql1
    obtain ⟨hj, hall⟩ := hI
    refine AW.seq fun K9 hK9 => ?_
    -- region 7
    refine AW.regionK 0 (fun _ => none) [0, 1, 4, 5, 7, 8, 9, 10, 37, 38, 39, 40] [4, 10, 200] ?_
    simp only [go_sem, reduceIte, reduceCtorEq, Nat.reduceAdd, Nat.reduceMul, Nat.reduceEqDiff, Nat.reduceLT, Nat.reduceLeDiff, Nat.reduceSub, Nat.reducePow, Nat.reduceBEq, Int.reduceToNat, List.reduceReplicate]
    repeat with_reducible refine cj ?_ ?_
    all_goals try first | omega
    refine hK9 _ _ _ ?_; clear hK9
    refine AW.seq fun K10 hK10 => ?_
    -- cond 2
    refine AW.cond rfl (by simp only [go_sem, reduceIte, reduceCtorEq, Nat.reduceAdd, Nat.reduceMul, Nat.reduceEqDiff, Nat.reduceLT, Nat.reduceLeDiff, Nat.reduceSub, Nat.reducePow, Nat.reduceBEq, Int.reduceToNat, List.reduceReplicate]) ?_ ?_
    · intro hb
      try simp only [hB, decide_eq_true_eq, decide_eq_false_iff_not] at hb
      obtain ⟨x, hx⟩ := getI (l := ws) (j := j) (by omega)
      have hgx := ints_get hx
      have hats := any_take_succ (p := badW) hx
      have hxd := getD_of hx 0
      have hes := wEdges_succ ws j
      have hel := wEdges_len ws j
      rw [hxd] at hes
      unfold wEdge at hes
      refine AW.skip ?_
      refine hK10 _ _ _ ?_; clear hK10
      refine AW.seq fun K11 hK11 => ?_
      refine AW.block ?_
      refine AW.seq fun K12 hK12 => ?_
      -- region 8
      refine AW.regionK 0 (fun _ => none) [0, 1, 4, 5, 7, 8, 9, 10, 11, 12, 37, 38, 39] [4, 10, 200] ?_
      simp only [go_sem, reduceIte, reduceCtorEq, Nat.reduceAdd, Nat.reduceMul, Nat.reduceEqDiff, Nat.reduceLT, Nat.reduceLeDiff, Nat.reduceSub, Nat.reducePow, Nat.reduceBEq, Int.reduceToNat, List.reduceReplicate, hgx]
      repeat with_reducible refine cj ?_ ?_
      all_goals try first | omega
      refine hK12 _ _ _ ?_; clear hK12
      refine AW.block ?_
      refine AW.seq fun K13 hK13 => ?_
      -- region 9
      refine AW.regionK 0 (fun _ => none) [0, 1, 4, 5, 7, 8, 9, 10, 11, 12, 37, 38, 39, 44] [4, 10, 200] ?_
      simp only [go_sem, reduceIte, reduceCtorEq, Nat.reduceAdd, Nat.reduceMul, Nat.reduceEqDiff, Nat.reduceLT, Nat.reduceLeDiff, Nat.reduceSub, Nat.reducePow, Nat.reduceBEq, Int.reduceToNat, List.reduceReplicate]
      repeat with_reducible refine cj ?_ ?_
      all_goals try first | omega | (simp only [go_sem, reduceIte, reduceCtorEq, Nat.reduceAdd, Nat.reduceMul, Nat.reduceEqDiff, Nat.reduceLT, Nat.reduceLeDiff, Nat.reduceSub, Nat.reducePow, Nat.reduceBEq, Int.reduceToNat, List.reduceReplicate]; done) | (simp_all [go_sem]; done)
      refine hK13 _ _ _ ?_; clear hK13
      -- cond 3
      refine AW.cond rfl (by simp only [go_sem, reduceIte, reduceCtorEq, Nat.reduceAdd, Nat.reduceMul, Nat.reduceEqDiff, Nat.reduceLT, Nat.reduceLeDiff, Nat.reduceSub, Nat.reducePow, Nat.reduceBEq, Int.reduceToNat, List.reduceReplicate]) ?_ ?_
      · intro hb
        try simp only [hB, decide_eq_true_eq, decide_eq_false_iff_not] at hb
        refine AW.seq fun K14 hK14 => ?_
        -- region 10
        refine AW.regionK 0 (fun _ => none) [4, 5, 6] [4] ?_
        simp only [go_sem, reduceIte, reduceCtorEq, Nat.reduceAdd, Nat.reduceMul, Nat.reduceEqDiff, Nat.reduceLT, Nat.reduceLeDiff, Nat.reduceSub, Nat.reducePow, Nat.reduceBEq, Int.reduceToNat, List.reduceReplicate]
        repeat with_reducible refine cj ?_ ?_
        all_goals try first | omega
        refine hK14 _ _ _ ?_; clear hK14
        refine AW.ret ?_
        rw [← hQl1]
        rw [← hQr]
        simp only [go_sem, reduceIte, reduceCtorEq, Nat.reduceAdd, Nat.reduceMul, Nat.reduceEqDiff, Nat.reduceLT, Nat.reduceLeDiff, Nat.reduceSub, Nat.reducePow, Nat.reduceBEq, Int.reduceToNat, List.reduceReplicate]
        exact Wk.tup3 (Wk.agg2 (Wk.refl _) (Wk.nil 1)) (Wk.refl _) (Wk.refl _)
      · intro hb
        try simp only [hB, decide_eq_true_eq, decide_eq_false_iff_not] at hb
        have hbx : badW x = false := by simp [badW]; omega
        refine AW.seq fun K15 hK15 => ?_
        -- region 11
        refine AW.regionK 0 (fun _ => none) [0, 1, 4, 5, 7, 8, 9, 10, 11, 12, 37, 38, 39, 52] [4, 10, 200] ?_
        simp only [go_sem, reduceIte, reduceCtorEq, Nat.reduceAdd, Nat.reduceMul, Nat.reduceEqDiff, Nat.reduceLT, Nat.reduceLeDiff, Nat.reduceSub, Nat.reducePow, Nat.reduceBEq, Int.reduceToNat, List.reduceReplicate]
        repeat with_reducible refine cj ?_ ?_
        all_goals try first | omega
        refine hK15 _ _ _ ?_; clear hK15
        -- cond 4
        refine AW.cond rfl (by simp only [go_sem, reduceIte, reduceCtorEq, Nat.reduceAdd, Nat.reduceMul, Nat.reduceEqDiff, Nat.reduceLT, Nat.reduceLeDiff, Nat.reduceSub, Nat.reducePow, Nat.reduceBEq, Int.reduceToNat, List.reduceReplicate]) ?_ ?_
        · intro hb
          try simp only [hB, decide_eq_true_eq, decide_eq_false_iff_not] at hb
          rw [if_pos hb] at hes
          -- region 12
          refine AW.regionK 0 (fun _ => none) [0, 1, 4, 5, 7, 8, 9, 10, 37, 38, 39] [4, 10, 200] ?_
          simp only [go_sem, reduceIte, reduceCtorEq, Nat.reduceAdd, Nat.reduceMul, Nat.reduceEqDiff, Nat.reduceLT, Nat.reduceLeDiff, Nat.reduceSub, Nat.reducePow, Nat.reduceBEq, Int.reduceToNat, List.reduceReplicate]
          repeat with_reducible refine cj ?_ ?_
          all_goals try first | omega | (simp [scP, scalar]; done)
          refine hK11 _ _ _ ?_; clear hK11
          -- region 15
          refine AW.regionK 0 (fun _ => none) [0, 1, 4, 5, 7, 8, 9, 10, 37, 38, 39] [4, 10, 200] ?_
          simp only [go_sem, reduceIte, reduceCtorEq, Nat.reduceAdd, Nat.reduceMul, Nat.reduceEqDiff, Nat.reduceLT, Nat.reduceLeDiff, Nat.reduceSub, Nat.reducePow, Nat.reduceBEq, Int.reduceToNat, List.reduceReplicate]
          repeat with_reducible refine cj ?_ ?_
          all_goals try first | omega
          rw [← hQl1]
          change Exists _
          refine ⟨_, ?hm, j + 1, ?_, ?_, ?_, ?_, rfl, ?henv, ?hstore, ?hst⟩
          case henv =>
            repeat' (first | rfl | refine env_cons ?_ ?_ | refine st_cons ?_ ?_ ?_ ?_ | refine int_eq ?_ | refine bool_eq ?_ | refine rsl_eq ?_ | refine osl_eq ?_ | refine sl_eq ?_ ?_ ?_ | refine ptr_eq ?_ ?_ ?_ | refine agg_eq ?_ | refine es_cons ?_ ?_ | refine row_cons ?_ ?_)
            all_goals (first | (simp; done) | omega | (simp; omega))
          case hstore =>
            repeat' (first | rfl | refine env_cons ?_ ?_ | refine st_cons ?_ ?_ ?_ ?_ | refine int_eq ?_ | refine bool_eq ?_ | refine rsl_eq ?_ | refine osl_eq ?_ | refine sl_eq ?_ ?_ ?_ | refine ptr_eq ?_ ?_ ?_ | refine agg_eq ?_ | refine es_cons ?_ ?_ | refine row_cons ?_ ?_)
            all_goals (rw [hes]; try simp)
          case hst =>
            exact ⟨by omega, by rw [hats, hall, hbx]; rfl⟩
          case hm => omega
        · intro hb
          try simp only [hB, decide_eq_true_eq, decide_eq_false_iff_not] at hb
          refine AW.seq fun K16 hK16 => ?_
          -- region 13
          refine AW.regionK 0 (fun _ => none) [0, 1, 4, 5, 7, 8, 9, 10, 11, 12, 37, 38, 39, 64] [4, 10, 200] ?_
          simp only [go_sem, reduceIte, reduceCtorEq, Nat.reduceAdd, Nat.reduceMul, Nat.reduceEqDiff, Nat.reduceLT, Nat.reduceLeDiff, Nat.reduceSub, Nat.reducePow, Nat.reduceBEq, Int.reduceToNat, List.reduceReplicate]
          repeat with_reducible refine cj ?_ ?_
          all_goals try first | omega
          refine hK16 _ _ _ ?_; clear hK16
          -- cond 5
          refine AW.cond rfl (by simp only [go_sem, reduceIte, reduceCtorEq, Nat.reduceAdd, Nat.reduceMul, Nat.reduceEqDiff, Nat.reduceLT, Nat.reduceLeDiff, Nat.reduceSub, Nat.reducePow, Nat.reduceBEq, Int.reduceToNat, List.reduceReplicate]) ?_ ?_
          · intro hb
            try simp only [hB, decide_eq_true_eq, decide_eq_false_iff_not] at hb
            rw [if_neg (by omega), if_pos hb] at hes
            -- region 14
            refine AW.regionK 0 (fun _ => none) [0, 1, 4, 5, 7, 8, 9, 10, 37, 38, 39] [4, 10, 200] ?_
            simp only [go_sem, reduceIte, reduceCtorEq, Nat.reduceAdd, Nat.reduceMul, Nat.reduceEqDiff, Nat.reduceLT, Nat.reduceLeDiff, Nat.reduceSub, Nat.reducePow, Nat.reduceBEq, Int.reduceToNat, List.reduceReplicate]
            repeat with_reducible refine cj ?_ ?_
            all_goals try first | omega | (simp [scP, scalar]; done)
            refine hK11 _ _ _ ?_; clear hK11
            -- region 15
            refine AW.regionK 0 (fun _ => none) [0, 1, 4, 5, 7, 8, 9, 10, 37, 38, 39] [4, 10, 200] ?_
            simp only [go_sem, reduceIte, reduceCtorEq, Nat.reduceAdd, Nat.reduceMul, Nat.reduceEqDiff, Nat.reduceLT, Nat.reduceLeDiff, Nat.reduceSub, Nat.reducePow, Nat.reduceBEq, Int.reduceToNat, List.reduceReplicate]
            repeat with_reducible refine cj ?_ ?_
            all_goals try first | omega
            rw [← hQl1]
            change Exists _
            refine ⟨_, ?hm, j + 1, ?_, ?_, ?_, ?_, rfl, ?henv, ?hstore, ?hst⟩
            case henv =>
              repeat' (first | rfl | refine env_cons ?_ ?_ | refine st_cons ?_ ?_ ?_ ?_ | refine int_eq ?_ | refine bool_eq ?_ | refine rsl_eq ?_ | refine osl_eq ?_ | refine sl_eq ?_ ?_ ?_ | refine ptr_eq ?_ ?_ ?_ | refine agg_eq ?_ | refine es_cons ?_ ?_ | refine row_cons ?_ ?_)
              all_goals (first | (simp; done) | omega | (simp; omega))
            case hstore =>
              repeat' (first | rfl | refine env_cons ?_ ?_ | refine st_cons ?_ ?_ ?_ ?_ | refine int_eq ?_ | refine bool_eq ?_ | refine rsl_eq ?_ | refine osl_eq ?_ | refine sl_eq ?_ ?_ ?_ | refine ptr_eq ?_ ?_ ?_ | refine agg_eq ?_ | refine es_cons ?_ ?_ | refine row_cons ?_ ?_)
              all_goals (rw [hes]; try simp)
            case hst =>
              exact ⟨by omega, by rw [hats, hall, hbx]; rfl⟩
            case hm => omega
          · intro hb
            try simp only [hB, decide_eq_true_eq, decide_eq_false_iff_not] at hb
            rw [if_neg (by omega), if_neg (by omega), List.append_nil] at hes
            refine AW.skip ?_
            refine hK11 _ _ _ ?_; clear hK11
            -- region 15
            refine AW.regionK 0 (fun _ => none) [0, 1, 4, 5, 7, 8, 9, 10, 37, 38, 39] [4, 10, 200] ?_
            simp only [go_sem, reduceIte, reduceCtorEq, Nat.reduceAdd, Nat.reduceMul, Nat.reduceEqDiff, Nat.reduceLT, Nat.reduceLeDiff, Nat.reduceSub, Nat.reducePow, Nat.reduceBEq, Int.reduceToNat, List.reduceReplicate]
            repeat with_reducible refine cj ?_ ?_
            all_goals try first | omega
            rw [← hQl1]
            change Exists _
            refine ⟨_, ?hm, j + 1, ?_, ?_, ?_, ?_, rfl, ?henv, ?hstore, ?hst⟩
            case henv =>
              repeat' (first | rfl | refine env_cons ?_ ?_ | refine st_cons ?_ ?_ ?_ ?_ | refine int_eq ?_ | refine bool_eq ?_ | refine rsl_eq ?_ | refine osl_eq ?_ | refine sl_eq ?_ ?_ ?_ | refine ptr_eq ?_ ?_ ?_ | refine agg_eq ?_ | refine es_cons ?_ ?_ | refine row_cons ?_ ?_)
              all_goals (first | (simp; done) | omega | (simp; omega))
            case hstore =>
              repeat' (first | rfl | refine env_cons ?_ ?_ | refine st_cons ?_ ?_ ?_ ?_ | refine int_eq ?_ | refine bool_eq ?_ | refine rsl_eq ?_ | refine osl_eq ?_ | refine sl_eq ?_ ?_ ?_ | refine ptr_eq ?_ ?_ ?_ | refine agg_eq ?_ | refine es_cons ?_ ?_ | refine row_cons ?_ ?_)
              all_goals (rw [hes]; try simp)
            case hst =>
              exact ⟨by omega, by rw [hats, hall, hbx]; rfl⟩
            case hm => omega
    · intro hb
      try simp only [hB, decide_eq_true_eq, decide_eq_false_iff_not] at hb
      refine AW.exit ?_
      rw [← hQl1]
      refine hK7 _ _ _ ?_; clear hK7
      refine AW.seq fun K17 hK17 => ?_
      refine AW.seq fun K18 hK18 => ?_
      -- region 16
      refine AW.regionK 0 (fun _ => none) [0, 4, 5, 7, 8, 9, 10, 78, 79, 80] [4, 10, 200] ?_
      simp only [go_sem, reduceIte, reduceCtorEq, Nat.reduceAdd, Nat.reduceMul, Nat.reduceEqDiff, Nat.reduceLT, Nat.reduceLeDiff, Nat.reduceSub, Nat.reducePow, Nat.reduceBEq, Int.reduceToNat, List.reduceReplicate]
      repeat with_reducible refine cj ?_ ?_
      all_goals try first | omega
      refine hK18 _ _ _ ?_; clear hK18
      refine AW.block ?_
      obtain rfl : j = ws.length := by omega
      rw [List.take_length] at hall
      have hbad2 := hbad.resolve_left (by rw [hall]; simp)
      -- loop 2
      refine AW.loopE (fun mm ee ss kk => ∃ (j g10 v10 g v : Nat), ns.length - j = mm ∧ ee = [(0, .rsl 1 (ints ws)), (4, .ptr ⟨4, 0, none⟩ 0 0), (5, .int .i64 0), (7, .int .i64 ws.length), (8, .int .i64 ws.length), (9, .int .i64 (ws.length + 1)), (10, .ptr ⟨10, g10, none⟩ 0 0), (78, .rsl 2 (ns.map pairV)), (79, .int .i64 ns.length), (80, .int .i64 (j : Nat))] ∧ ss = [(4, some ⟨0, 0, 2, [[.int .i64 0, .nilsl]]⟩), (10, some ⟨g10, v10, 2, [[.int .i64 (ws.length + 2), .sl ⟨200, g, none⟩ 0 (wEdges ws ws.length ++ nEdges (ns.take j)).length none]]⟩), (200, some ⟨g, v, 3, (wEdges ws ws.length ++ nEdges (ns.take j)).map edgeV⟩)] ∧ (j ≤ ns.length ∧ (ns.take j).any (badP ws.length) = false)) ?_ ?_
      · refine ⟨_, 0, ?_, ?_, ?_, ?_, rfl, ?henv, ?hstore, ?hst⟩
        case henv =>
          repeat' (first | rfl | refine env_cons ?_ ?_ | refine st_cons ?_ ?_ ?_ ?_ | refine int_eq ?_ | refine bool_eq ?_ | refine rsl_eq ?_ | refine osl_eq ?_ | refine sl_eq ?_ ?_ ?_ | refine ptr_eq ?_ ?_ ?_ | refine agg_eq ?_ | refine es_cons ?_ ?_ | refine row_cons ?_ ?_)
          all_goals (first | (simp; done) | omega | (simp; omega))
        case hstore =>
          repeat' (first | rfl | refine env_cons ?_ ?_ | refine st_cons ?_ ?_ ?_ ?_ | refine int_eq ?_ | refine bool_eq ?_ | refine rsl_eq ?_ | refine osl_eq ?_ | refine sl_eq ?_ ?_ ?_ | refine ptr_eq ?_ ?_ ?_ | refine agg_eq ?_ | refine es_cons ?_ ?_ | refine row_cons ?_ ?_)
          all_goals simp [nEdges]
        case hst =>
          first | trivial | omega | (simp; done) | (simp; omega)
      rintro mm ee ss kk ⟨j, g10, v10, g, v, rfl, rfl, rfl, hI⟩
      generalize hQl2 : thenQ _ _ = Ql2
      obtain ⟨hj2, hall2⟩ := hI
      refine AW.seq fun K19 hK19 => ?_
      -- region 17
      refine AW.regionK 0 (fun _ => none) [0, 4, 5, 7, 8, 9, 10, 78, 79, 80, 81] [4, 10, 200] ?_
      simp only [go_sem, reduceIte, reduceCtorEq, Nat.reduceAdd, Nat.reduceMul, Nat.reduceEqDiff, Nat.reduceLT, Nat.reduceLeDiff, Nat.reduceSub, Nat.reducePow, Nat.reduceBEq, Int.reduceToNat, List.reduceReplicate]
      repeat with_reducible refine cj ?_ ?_
      all_goals try first | omega
      refine hK19 _ _ _ ?_; clear hK19
      refine AW.seq fun K20 hK20 => ?_
      -- cond 6
      refine AW.cond rfl (by simp only [go_sem, reduceIte, reduceCtorEq, Nat.reduceAdd, Nat.reduceMul, Nat.reduceEqDiff, Nat.reduceLT, Nat.reduceLeDiff, Nat.reduceSub, Nat.reducePow, Nat.reduceBEq, Int.reduceToNat, List.reduceReplicate]) ?_ ?_
      · intro hb
        try simp only [hB, decide_eq_true_eq, decide_eq_false_iff_not] at hb
        obtain ⟨p, hp⟩ := getI (l := ns) (j := j) (by omega)
        have hgp := getV (f := pairV) hp
        have hats2 := any_take_succ (p := badP ws.length) hp
        have hes := nEdges_succ hp
        have hel := wEdges_len ws ws.length
        have hel2 := nEdges_len (ns.take j)
        have hel3 : (ns.take j).length ≤ 1000 := by simp; omega
        unfold nEdge at hes
        refine AW.skip ?_
        refine hK20 _ _ _ ?_; clear hK20
        refine AW.seq fun K21 hK21 => ?_
        refine AW.block ?_
        refine AW.seq fun K22 hK22 => ?_
        -- region 18
        refine AW.regionK 0 (fun _ => none) [0, 4, 5, 7, 8, 9, 10, 14, 78, 79, 80] [4, 10, 14, 200] ?_
        simp only [go_sem, reduceIte, reduceCtorEq, Nat.reduceAdd, Nat.reduceMul, Nat.reduceEqDiff, Nat.reduceLT, Nat.reduceLeDiff, Nat.reduceSub, Nat.reducePow, Nat.reduceBEq, Int.reduceToNat, List.reduceReplicate, hgp, pairV]
        repeat with_reducible refine cj ?_ ?_
        all_goals try first | omega
        refine hK22 _ _ _ ?_; clear hK22
        refine AW.seq fun K23 hK23 => ?_
        refine AW.seq fun K24 hK24 => ?_
        -- region 19
        refine AW.regionK 0 (fun _ => none) [0, 4, 5, 7, 8, 9, 10, 14, 78, 79, 80, 103] [4, 10, 14, 200] ?_
        simp only [go_sem, reduceIte, reduceCtorEq, Nat.reduceAdd, Nat.reduceMul, Nat.reduceEqDiff, Nat.reduceLT, Nat.reduceLeDiff, Nat.reduceSub, Nat.reducePow, Nat.reduceBEq, Int.reduceToNat, List.reduceReplicate]
        repeat with_reducible refine cj ?_ ?_
        all_goals try first | omega | (simp only [go_sem, reduceIte, reduceCtorEq, Nat.reduceAdd, Nat.reduceMul, Nat.reduceEqDiff, Nat.reduceLT, Nat.reduceLeDiff, Nat.reduceSub, Nat.reducePow, Nat.reduceBEq, Int.reduceToNat, List.reduceReplicate]; done) | (simp_all [go_sem]; done)
        refine hK24 _ _ _ ?_; clear hK24
        -- cond 7
        refine AW.cond rfl (by simp only [go_sem, reduceIte, reduceCtorEq, Nat.reduceAdd, Nat.reduceMul, Nat.reduceEqDiff, Nat.reduceLT, Nat.reduceLeDiff, Nat.reduceSub, Nat.reducePow, Nat.reduceBEq, Int.reduceToNat, List.reduceReplicate]) ?_ ?_
        · intro hb
          try simp only [hB, decide_eq_true_eq, decide_eq_false_iff_not] at hb
          refine AW.seq fun K25 hK25 => ?_
          -- region 20
          refine AW.regionK 0 (fun _ => none) [4, 5, 6] [4] ?_
          simp only [go_sem, reduceIte, reduceCtorEq, Nat.reduceAdd, Nat.reduceMul, Nat.reduceEqDiff, Nat.reduceLT, Nat.reduceLeDiff, Nat.reduceSub, Nat.reducePow, Nat.reduceBEq, Int.reduceToNat, List.reduceReplicate]
          repeat with_reducible refine cj ?_ ?_
          all_goals try first | omega
          refine hK25 _ _ _ ?_; clear hK25
          refine AW.ret ?_
          rw [← hQl2]
          rw [← hQr]
          simp only [go_sem, reduceIte, reduceCtorEq, Nat.reduceAdd, Nat.reduceMul, Nat.reduceEqDiff, Nat.reduceLT, Nat.reduceLeDiff, Nat.reduceSub, Nat.reducePow, Nat.reduceBEq, Int.reduceToNat, List.reduceReplicate]
          exact Wk.tup3 (Wk.agg2 (Wk.refl _) (Wk.nil 1)) (Wk.refl _) (Wk.refl _)
        · intro hb
          try simp only [hB, decide_eq_true_eq, decide_eq_false_iff_not] at hb
          have hbx : badP ws.length p = false := by simp [badP]; omega
          refine AW.skip ?_
          refine hK23 _ _ _ ?_; clear hK23
          refine AW.seq fun K26 hK26 => ?_
          -- region 21
          refine AW.regionK 0 (fun _ => none) [0, 4, 5, 7, 8, 9, 10, 14, 78, 79, 80, 109] [4, 10, 14, 200] ?_
          simp only [go_sem, reduceIte, reduceCtorEq, Nat.reduceAdd, Nat.reduceMul, Nat.reduceEqDiff, Nat.reduceLT, Nat.reduceLeDiff, Nat.reduceSub, Nat.reducePow, Nat.reduceBEq, Int.reduceToNat, List.reduceReplicate]
          repeat with_reducible refine cj ?_ ?_
          all_goals try first | omega
          refine hK26 _ _ _ ?_; clear hK26
          -- cond 8
          refine AW.cond rfl (by simp only [go_sem, reduceIte, reduceCtorEq, Nat.reduceAdd, Nat.reduceMul, Nat.reduceEqDiff, Nat.reduceLT, Nat.reduceLeDiff, Nat.reduceSub, Nat.reducePow, Nat.reduceBEq, Int.reduceToNat, List.reduceReplicate]) ?_ ?_
          · intro hb
            try simp only [hB, decide_eq_true_eq, decide_eq_false_iff_not] at hb
            rw [if_neg hb] at hes
            -- region 22
            refine AW.regionK 0 (fun _ => none) [0, 4, 5, 7, 8, 9, 10, 78, 79, 80] [4, 10, 200] ?_
            simp only [go_sem, reduceIte, reduceCtorEq, Nat.reduceAdd, Nat.reduceMul, Nat.reduceEqDiff, Nat.reduceLT, Nat.reduceLeDiff, Nat.reduceSub, Nat.reducePow, Nat.reduceBEq, Int.reduceToNat, List.reduceReplicate]
            repeat with_reducible refine cj ?_ ?_
            all_goals try first | ((simp only [List.length_append]; omega)) | omega | (simp [scP, scalar]; done)
            refine hK21 _ _ _ ?_; clear hK21
            -- region 23
            refine AW.regionK 0 (fun _ => none) [0, 4, 5, 7, 8, 9, 10, 78, 79, 80] [4, 10, 200] ?_
            simp only [go_sem, reduceIte, reduceCtorEq, Nat.reduceAdd, Nat.reduceMul, Nat.reduceEqDiff, Nat.reduceLT, Nat.reduceLeDiff, Nat.reduceSub, Nat.reducePow, Nat.reduceBEq, Int.reduceToNat, List.reduceReplicate]
            repeat with_reducible refine cj ?_ ?_
            all_goals try first | omega
            rw [← hQl2]
            change Exists _
            refine ⟨_, ?hm, j + 1, ?_, ?_, ?_, ?_, rfl, ?henv, ?hstore, ?hst⟩
            case henv =>
              repeat' (first | rfl | refine env_cons ?_ ?_ | refine st_cons ?_ ?_ ?_ ?_ | refine int_eq ?_ | refine bool_eq ?_ | refine rsl_eq ?_ | refine osl_eq ?_ | refine sl_eq ?_ ?_ ?_ | refine ptr_eq ?_ ?_ ?_ | refine agg_eq ?_ | refine es_cons ?_ ?_ | refine row_cons ?_ ?_)
              all_goals (first | (simp; done) | omega | (simp; omega))
            case hstore =>
              repeat' (first | rfl | refine env_cons ?_ ?_ | refine st_cons ?_ ?_ ?_ ?_ | refine int_eq ?_ | refine bool_eq ?_ | refine rsl_eq ?_ | refine osl_eq ?_ | refine sl_eq ?_ ?_ ?_ | refine ptr_eq ?_ ?_ ?_ | refine agg_eq ?_ | refine es_cons ?_ ?_ | refine row_cons ?_ ?_)
              all_goals (rw [hes]; try rw [← List.append_assoc]; try simp [edgeV]; try omega)
            case hst =>
              exact ⟨by omega, by rw [hats2, hall2, hbx]; rfl⟩
            case hm => omega
          · intro hb
            try simp only [hB, decide_eq_true_eq, decide_eq_false_iff_not] at hb
            rw [if_pos (by omega), List.append_nil] at hes
            refine AW.skip ?_
            refine hK21 _ _ _ ?_; clear hK21
            -- region 23
            refine AW.regionK 0 (fun _ => none) [0, 4, 5, 7, 8, 9, 10, 78, 79, 80] [4, 10, 200] ?_
            simp only [go_sem, reduceIte, reduceCtorEq, Nat.reduceAdd, Nat.reduceMul, Nat.reduceEqDiff, Nat.reduceLT, Nat.reduceLeDiff, Nat.reduceSub, Nat.reducePow, Nat.reduceBEq, Int.reduceToNat, List.reduceReplicate]
            repeat with_reducible refine cj ?_ ?_
            all_goals try first | omega
            rw [← hQl2]
            change Exists _
            refine ⟨_, ?hm, j + 1, ?_, ?_, ?_, ?_, rfl, ?henv, ?hstore, ?hst⟩
            case henv =>
              repeat' (first | rfl | refine env_cons ?_ ?_ | refine st_cons ?_ ?_ ?_ ?_ | refine int_eq ?_ | refine bool_eq ?_ | refine rsl_eq ?_ | refine osl_eq ?_ | refine sl_eq ?_ ?_ ?_ | refine ptr_eq ?_ ?_ ?_ | refine agg_eq ?_ | refine es_cons ?_ ?_ | refine row_cons ?_ ?_)
              all_goals (first | (simp; done) | omega | (simp; omega))
            case hstore =>
              repeat' (first | rfl | refine env_cons ?_ ?_ | refine st_cons ?_ ?_ ?_ ?_ | refine int_eq ?_ | refine bool_eq ?_ | refine rsl_eq ?_ | refine osl_eq ?_ | refine sl_eq ?_ ?_ ?_ | refine ptr_eq ?_ ?_ ?_ | refine agg_eq ?_ | refine es_cons ?_ ?_ | refine row_cons ?_ ?_)
              all_goals (rw [hes]; try rw [← List.append_assoc]; try simp [edgeV]; try omega)
            case hst =>
              exact ⟨by omega, by rw [hats2, hall2, hbx]; rfl⟩
            case hm => omega
      · intro hb
        try simp only [hB, decide_eq_true_eq, decide_eq_false_iff_not] at hb
        exfalso; rw [List.take_of_length_le (by omega)] at hall2; rw [hall2] at hbad2; cases hbad2
end Go.Proofs.F
namespace Go.Proofs.F
open Go.AM Go
set_option maxRecDepth 100000
set_option maxHeartbeats 1000000
theorem rclo_r (ws : List Int) (ns : List (Int × Int)) (h1 : ws.length ≤ 500) (h2 : ns.length ≤ 1000) (hw : ∀ w ∈ ws, -1073741824 ≤ w ∧ w ≤ 1073741824) (b : List Bool) (hbl : b.length = ws.length + 2)
    (hC : Reads Try.prog 20 false [netV (rNet ws ns), .int .i64 ws.length, .int .i64 (ws.length + 1)] (.agg [.int .i64 (ws.length + 2), .rsl 1 (words (setW b b.length))])) :
    Reads Try.prog 28 false [.rsl 1 (ints ws), .rsl 2 (ns.map pairV)] (.tup [.agg [.int .i64 ws.length, .rsl 1 (words (setW (b.take ws.length) ws.length))], .int .i64 (sumB ws b ws.length)]) := by
  have hbt : (b.take ws.length).length = ws.length := by simp; omega
  have hst := rset_r (b.take ws.length) (by omega)
  rw [hbt] at hst
  have hwl := setW_len b b.length
  have hhas := fun (i : Int) (h0 : 0 ≤ i) (h1 : i < b.length) => has_r (ws.length + 2) (setW b b.length) i h0 (by have := div64_rng (i := i) (n := b.length) h0 (by omega); have := wordsN_rng (n := (b.length : Int)) (by omega); omega) (by have := wordsN_rng (n := (b.length : Int)) (by omega); omega)
  have hbig := bigAt_bnd (by decide : (0 : Int) ≤ 1073741824) hw
  have hsum := sumB_bnd (b := b) (by decide : (0 : Int) ≤ 1073741824) hw
  unfold netV rNet at hC
  generalize hW : setW b b.length = W at *
  refine Reads.body (rs := [.cell 4 37, .tmp 5]) Try.func28 rfl Try.ntmps28 rfl (by simp) ?_
  generalize hQr : retQ _ _ _ = Qr
  refine AW.seq fun K1 hK1 => ?_
  -- region 0
  refine AW.regionK 0 (fun _ => none) [0, 1, 4] [4] ?_
  simp only [go_sem, reduceIte, reduceCtorEq, Nat.reduceAdd, Nat.reduceMul, Nat.reduceEqDiff, Nat.reduceLT, Nat.reduceLeDiff, Nat.reduceSub, Nat.reducePow, Nat.reduceBEq, Int.reduceToNat, List.reduceReplicate]
  repeat with_reducible refine cj ?_ ?_
  all_goals try first | omega
  refine hK1 _ _ _ ?_; clear hK1
  refine AW.seq fun K2 hK2 => ?_
  -- region 1
  refine AW.regionK 0 (fun _ => none) [0, 1, 4, 6] [4] ?_
  simp only [go_sem, reduceIte, reduceCtorEq, Nat.reduceAdd, Nat.reduceMul, Nat.reduceEqDiff, Nat.reduceLT, Nat.reduceLeDiff, Nat.reduceSub, Nat.reducePow, Nat.reduceBEq, Int.reduceToNat, List.reduceReplicate]
  repeat with_reducible refine cj ?_ ?_
  all_goals try first | omega
  refine hK2 _ _ _ ?_; clear hK2
  refine AW.seq fun K3 hK3 => ?_
  -- region 2
  refine AW.regionK 0 (fun _ => none) [0, 1, 4, 6, 7] [4, 7] ?_
  simp only [go_sem, reduceIte, reduceCtorEq, Nat.reduceAdd, Nat.reduceMul, Nat.reduceEqDiff, Nat.reduceLT, Nat.reduceLeDiff, Nat.reduceSub, Nat.reducePow, Nat.reduceBEq, Int.reduceToNat, List.reduceReplicate]
  repeat with_reducible refine cj ?_ ?_
  all_goals try first | omega
  refine hK3 _ _ _ ?_; clear hK3
  refine AW.seq fun K4 hK4 => ?_
  -- region 3
  refine AW.regionK 0 (fun _ => none) [0, 1, 4, 6, 7, 8] [4, 7] ?_
  simp only [go_sem, reduceIte, reduceCtorEq, Nat.reduceAdd, Nat.reduceMul, Nat.reduceEqDiff, Nat.reduceLT, Nat.reduceLeDiff, Nat.reduceSub, Nat.reducePow, Nat.reduceBEq, Int.reduceToNat, List.reduceReplicate]
  repeat with_reducible refine cj ?_ ?_
  all_goals try first | omega
  refine hK4 _ _ _ ?_; clear hK4
  refine AW.seq fun K5 hK5 => ?_
  refine AW.seq fun K6 hK6 => ?_
  -- region 4
  refine AW.regionK 0 (fun _ => none) [0, 1, 4, 6, 7, 8, 9] [4, 7] ?_
  simp only [go_sem, reduceIte, reduceCtorEq, Nat.reduceAdd, Nat.reduceMul, Nat.reduceEqDiff, Nat.reduceLT, Nat.reduceLeDiff, Nat.reduceSub, Nat.reducePow, Nat.reduceBEq, Int.reduceToNat, List.reduceReplicate]
  repeat with_reducible refine cj ?_ ?_
  all_goals try first | omega
  refine hK6 _ _ _ ?_; clear hK6
  refine AW.block ?_
  refine AW.nilCellK 7 0 1 200 3 ?_
  simp only [go_sem, reduceIte, Nat.reduceEqDiff]
  repeat refine cj ?_ ?_
  rotate_left
  · decide
  · decide
  · decide
  refine AW.keep [0, 1, 4, 6, 7, 8, 9] [4, 7, 200] ?_
  simp only [go_sem, reduceIte, Nat.reduceEqDiff]
  -- loop 1
  refine AW.loopE (fun mm ee ss kk => ∃ (j g7 v7 g v : Nat), ws.length - j = mm ∧ ee = [(0, .rsl 1 (ints ws)), (1, .rsl 2 (ns.map pairV)), (4, .ptr ⟨4, 0, none⟩ 0 0), (6, .int .i64 ws.length), (7, .ptr ⟨7, g7, none⟩ 0 0), (8, .int .i64 (bigAt ws j)), (9, .int .i64 (j : Nat))] ∧ ss = [(4, some ⟨0, 0, 2, [[.int .i64 0, .nilsl]]⟩), (7, some ⟨g7, v7, 2, [[.int .i64 (ws.length + 2), .sl ⟨200, g, none⟩ 0 (rwEdges ws j).length none]]⟩), (200, some ⟨g, v, 3, (rwEdges ws j).map edgeV⟩)] ∧ (j ≤ ws.length)) ?_ ?_
  · refine ⟨_, 0, ?_, ?_, ?_, ?_, rfl, ?henv, ?hstore, ?hst⟩
    case henv =>
      repeat' (first | rfl | refine env_cons ?_ ?_ | refine st_cons ?_ ?_ ?_ ?_ | refine int_eq ?_ | refine bool_eq ?_ | refine rsl_eq ?_ | refine osl_eq ?_ | refine sl_eq ?_ ?_ ?_ | refine ptr_eq ?_ ?_ ?_ | refine agg_eq ?_ | refine es_cons ?_ ?_ | refine row_cons ?_ ?_)
      all_goals (first | (simp; done) | omega | (simp; omega))
    case hstore =>
      repeat' (first | rfl | refine env_cons ?_ ?_ | refine st_cons ?_ ?_ ?_ ?_ | refine int_eq ?_ | refine bool_eq ?_ | refine rsl_eq ?_ | refine osl_eq ?_ | refine sl_eq ?_ ?_ ?_ | refine ptr_eq ?_ ?_ ?_ | refine agg_eq ?_ | refine es_cons ?_ ?_ | refine row_cons ?_ ?_)
      all_goals (first | (simp; done) | omega | (simp; omega))
    case hst =>
      first | trivial | omega | (simp; done) | (simp; omega)
  rintro mm ee ss kk ⟨j, g7, v7, g, v, rfl, rfl, rfl, hI⟩
  generalize hQl1 : thenQ _ _ = Ql1
  refine AW.seq fun K7 hK7 => ?_
  refine AW.seq fun K8 hK8 => ?_
  -- region 5
  refine AW.regionK 0 (fun _ => none) [0, 1, 4, 6, 7, 8, 9, 22] [4, 7, 200] ?_
  simp only [go_sem, reduceIte, reduceCtorEq, Nat.reduceAdd, Nat.reduceMul, Nat.reduceEqDiff, Nat.reduceLT, Nat.reduceLeDiff, Nat.reduceSub, Nat.reducePow, Nat.reduceBEq, Int.reduceToNat, List.reduceReplicate]
  repeat with_reducible refine cj ?_ ?_
  all_goals try first | omega
  refine hK8 _ _ _ ?_; clear hK8
  -- cond 1
  refine AW.cond rfl (by simp only [go_sem, reduceIte, reduceCtorEq, Nat.reduceAdd, Nat.reduceMul, Nat.reduceEqDiff, Nat.reduceLT, Nat.reduceLeDiff, Nat.reduceSub, Nat.reducePow, Nat.reduceBEq, Int.reduceToNat, List.reduceReplicate]) ?_ ?_
  · intro hb
    try simp only [hB, decide_eq_true_eq, decide_eq_false_iff_not] at hb
    obtain ⟨x, hx⟩ := getI (l := ws) (j := j) (by omega)
    have hgx := ints_get hx
    have hxw := hw x (List.mem_of_getElem? hx)
    have hxd := getD_of hx 0
    have hes := rwEdges_succ ws j
    have hel := rwEdges_len ws j
    have hb0 := hbig j
    have hbs : bigAt ws (j + 1) = bigAt ws j + if 0 < ws.getD j 0 then ws.getD j 0 else 0 := rfl
    rw [hxd] at hes hbs
    unfold rwEdge at hes
    refine AW.skip ?_
    refine hK7 _ _ _ ?_; clear hK7
    refine AW.seq fun K9 hK9 => ?_
    refine AW.block ?_
    refine AW.seq fun K10 hK10 => ?_
    -- region 7
    refine AW.regionK 0 (fun _ => none) [0, 1, 4, 6, 7, 8, 9, 29] [4, 7, 200] ?_
    simp only [go_sem, reduceIte, reduceCtorEq, Nat.reduceAdd, Nat.reduceMul, Nat.reduceEqDiff, Nat.reduceLT, Nat.reduceLeDiff, Nat.reduceSub, Nat.reducePow, Nat.reduceBEq, Int.reduceToNat, List.reduceReplicate, hgx]
    repeat with_reducible refine cj ?_ ?_
    all_goals try first | omega
    refine hK10 _ _ _ ?_; clear hK10
    -- cond 2
    refine AW.cond rfl (by simp only [go_sem, reduceIte, reduceCtorEq, Nat.reduceAdd, Nat.reduceMul, Nat.reduceEqDiff, Nat.reduceLT, Nat.reduceLeDiff, Nat.reduceSub, Nat.reducePow, Nat.reduceBEq, Int.reduceToNat, List.reduceReplicate]) ?_ ?_
    · intro hb
      try simp only [hB, decide_eq_true_eq, decide_eq_false_iff_not] at hb
      rw [if_pos hb] at hes hbs
      refine AW.seq fun K11 hK11 => ?_
      -- region 8
      refine AW.regionD mixed 0 (fun _ => none) [0, 1, 4, 6, 7, 8, 9] [4, 7, 200] ?_
      simp only [go_sem, reduceIte, reduceCtorEq, Nat.reduceAdd, Nat.reduceMul, Nat.reduceEqDiff, Nat.reduceLT, Nat.reduceLeDiff, Nat.reduceSub, Nat.reducePow, Nat.reduceBEq, Int.reduceToNat, List.reduceReplicate, hgx]
      repeat with_reducible refine cj ?_ ?_
      all_goals try first | omega | exact chk (by kernel_rfl) | (simp [scP, scalar]; done)
      refine hK11 _ _ _ ?_; clear hK11
      -- region 9
      refine AW.regionK 0 (fun _ => none) [0, 1, 4, 6, 7, 8, 9] [4, 7, 200] ?_
      simp only [go_sem, reduceIte, reduceCtorEq, Nat.reduceAdd, Nat.reduceMul, Nat.reduceEqDiff, Nat.reduceLT, Nat.reduceLeDiff, Nat.reduceSub, Nat.reducePow, Nat.reduceBEq, Int.reduceToNat, List.reduceReplicate, hgx]
      repeat with_reducible refine cj ?_ ?_
      all_goals try first | omega
      refine hK9 _ _ _ ?_; clear hK9
      -- region 6
      refine AW.regionK 0 (fun _ => none) [0, 1, 4, 6, 7, 8, 9] [4, 7, 200] ?_
      simp only [go_sem, reduceIte, reduceCtorEq, Nat.reduceAdd, Nat.reduceMul, Nat.reduceEqDiff, Nat.reduceLT, Nat.reduceLeDiff, Nat.reduceSub, Nat.reducePow, Nat.reduceBEq, Int.reduceToNat, List.reduceReplicate]
      repeat with_reducible refine cj ?_ ?_
      all_goals try first | omega
      rw [← hQl1]
      change Exists _
      refine ⟨_, ?hm, j + 1, ?_, ?_, ?_, ?_, rfl, ?henv, ?hstore, ?hst⟩
      case henv =>
        repeat' (first | rfl | refine env_cons ?_ ?_ | refine st_cons ?_ ?_ ?_ ?_ | refine int_eq ?_ | refine bool_eq ?_ | refine rsl_eq ?_ | refine osl_eq ?_ | refine sl_eq ?_ ?_ ?_ | refine ptr_eq ?_ ?_ ?_ | refine agg_eq ?_ | refine es_cons ?_ ?_ | refine row_cons ?_ ?_)
        all_goals (rw [hbs]; try omega)
      case hstore =>
        repeat' (first | rfl | refine env_cons ?_ ?_ | refine st_cons ?_ ?_ ?_ ?_ | refine int_eq ?_ | refine bool_eq ?_ | refine rsl_eq ?_ | refine osl_eq ?_ | refine sl_eq ?_ ?_ ?_ | refine ptr_eq ?_ ?_ ?_ | refine agg_eq ?_ | refine es_cons ?_ ?_ | refine row_cons ?_ ?_)
        all_goals (rw [hes]; try simp)
      case hst =>
        first | trivial | omega | (simp; done) | (simp; omega)
      case hm => omega
    · intro hb
      try simp only [hB, decide_eq_true_eq, decide_eq_false_iff_not] at hb
      rw [if_neg (by omega)] at hes hbs
      -- region 10
      refine AW.regionD mixed 0 (fun _ => none) [0, 1, 4, 6, 7, 8, 9] [4, 7, 200] ?_
      simp only [go_sem, reduceIte, reduceCtorEq, Nat.reduceAdd, Nat.reduceMul, Nat.reduceEqDiff, Nat.reduceLT, Nat.reduceLeDiff, Nat.reduceSub, Nat.reducePow, Nat.reduceBEq, Int.reduceToNat, List.reduceReplicate, hgx]
      repeat with_reducible refine cj ?_ ?_
      all_goals try first | omega | exact chk (by kernel_rfl) | (simp [scP, scalar]; done)
      refine hK9 _ _ _ ?_; clear hK9
      -- region 6
      refine AW.regionK 0 (fun _ => none) [0, 1, 4, 6, 7, 8, 9] [4, 7, 200] ?_
      simp only [go_sem, reduceIte, reduceCtorEq, Nat.reduceAdd, Nat.reduceMul, Nat.reduceEqDiff, Nat.reduceLT, Nat.reduceLeDiff, Nat.reduceSub, Nat.reducePow, Nat.reduceBEq, Int.reduceToNat, List.reduceReplicate]
      repeat with_reducible refine cj ?_ ?_
      all_goals try first | omega
      rw [← hQl1]
      change Exists _
      refine ⟨_, ?hm, j + 1, ?_, ?_, ?_, ?_, rfl, ?henv, ?hstore, ?hst⟩
      case henv =>
        repeat' (first | rfl | refine env_cons ?_ ?_ | refine st_cons ?_ ?_ ?_ ?_ | refine int_eq ?_ | refine bool_eq ?_ | refine rsl_eq ?_ | refine osl_eq ?_ | refine sl_eq ?_ ?_ ?_ | refine ptr_eq ?_ ?_ ?_ | refine agg_eq ?_ | refine es_cons ?_ ?_ | refine row_cons ?_ ?_)
        all_goals (rw [hbs]; try omega)
      case hstore =>
        repeat' (first | rfl | refine env_cons ?_ ?_ | refine st_cons ?_ ?_ ?_ ?_ | refine int_eq ?_ | refine bool_eq ?_ | refine rsl_eq ?_ | refine osl_eq ?_ | refine sl_eq ?_ ?_ ?_ | refine ptr_eq ?_ ?_ ?_ | refine agg_eq ?_ | refine es_cons ?_ ?_ | refine row_cons ?_ ?_)
        all_goals (rw [hes]; try simp)
      case hst =>
        first | trivial | omega | (simp; done) | (simp; omega)
      case hm => omega
  · intro hb
    try simp only [hB, decide_eq_true_eq, decide_eq_false_iff_not] at hb
    refine AW.exit ?_
    rw [← hQl1]
    refine hK5 _ _ _ ?_; clear hK5
    refine AW.seq fun K12 hK12 => ?_
    refine AW.seq fun K13 hK13 => ?_
    -- region 11
    refine AW.regionK 0 (fun _ => none) [0, 1, 4, 6, 7, 8, 10] [4, 7, 200] ?_
    simp only [go_sem, reduceIte, reduceCtorEq, Nat.reduceAdd, Nat.reduceMul, Nat.reduceEqDiff, Nat.reduceLT, Nat.reduceLeDiff, Nat.reduceSub, Nat.reducePow, Nat.reduceBEq, Int.reduceToNat, List.reduceReplicate]
    repeat with_reducible refine cj ?_ ?_
    all_goals try first | omega
    refine hK13 _ _ _ ?_; clear hK13
    refine AW.block ?_
    obtain rfl : j = ws.length := by omega
    -- loop 2
    refine AW.loopE (fun mm ee ss kk => ∃ (j g7 v7 g v : Nat), ns.length - j = mm ∧ ee = [(0, .rsl 1 (ints ws)), (1, .rsl 2 (ns.map pairV)), (4, .ptr ⟨4, 0, none⟩ 0 0), (6, .int .i64 ws.length), (7, .ptr ⟨7, g7, none⟩ 0 0), (8, .int .i64 (bigAt ws ws.length)), (10, .int .i64 (j : Nat))] ∧ ss = [(4, some ⟨0, 0, 2, [[.int .i64 0, .nilsl]]⟩), (7, some ⟨g7, v7, 2, [[.int .i64 (ws.length + 2), .sl ⟨200, g, none⟩ 0 (rwEdges ws ws.length ++ rnEdges (bigAt ws ws.length) (ns.take j)).length none]]⟩), (200, some ⟨g, v, 3, (rwEdges ws ws.length ++ rnEdges (bigAt ws ws.length) (ns.take j)).map edgeV⟩)] ∧ (j ≤ ns.length)) ?_ ?_
    · refine ⟨_, 0, ?_, ?_, ?_, ?_, rfl, ?henv, ?hstore, ?hst⟩
      case henv =>
        repeat' (first | rfl | refine env_cons ?_ ?_ | refine st_cons ?_ ?_ ?_ ?_ | refine int_eq ?_ | refine bool_eq ?_ | refine rsl_eq ?_ | refine osl_eq ?_ | refine sl_eq ?_ ?_ ?_ | refine ptr_eq ?_ ?_ ?_ | refine agg_eq ?_ | refine es_cons ?_ ?_ | refine row_cons ?_ ?_)
        all_goals (first | (simp; done) | omega | (simp; omega))
      case hstore =>
        repeat' (first | rfl | refine env_cons ?_ ?_ | refine st_cons ?_ ?_ ?_ ?_ | refine int_eq ?_ | refine bool_eq ?_ | refine rsl_eq ?_ | refine osl_eq ?_ | refine sl_eq ?_ ?_ ?_ | refine ptr_eq ?_ ?_ ?_ | refine agg_eq ?_ | refine es_cons ?_ ?_ | refine row_cons ?_ ?_)
        all_goals simp [rnEdges]
      case hst =>
        first | trivial | omega | (simp; done) | (simp; omega)
    rintro mm ee ss kk ⟨j, g7, v7, g, v, rfl, rfl, rfl, hI⟩
    generalize hQl2 : thenQ _ _ = Ql2
    refine AW.seq fun K14 hK14 => ?_
    refine AW.seq fun K15 hK15 => ?_
    -- region 12
    refine AW.regionK 0 (fun _ => none) [0, 1, 4, 6, 7, 8, 10, 65] [4, 7, 200] ?_
    simp only [go_sem, reduceIte, reduceCtorEq, Nat.reduceAdd, Nat.reduceMul, Nat.reduceEqDiff, Nat.reduceLT, Nat.reduceLeDiff, Nat.reduceSub, Nat.reducePow, Nat.reduceBEq, Int.reduceToNat, List.reduceReplicate]
    repeat with_reducible refine cj ?_ ?_
    all_goals try first | omega
    refine hK15 _ _ _ ?_; clear hK15
    -- cond 3
    refine AW.cond rfl (by simp only [go_sem, reduceIte, reduceCtorEq, Nat.reduceAdd, Nat.reduceMul, Nat.reduceEqDiff, Nat.reduceLT, Nat.reduceLeDiff, Nat.reduceSub, Nat.reducePow, Nat.reduceBEq, Int.reduceToNat, List.reduceReplicate]) ?_ ?_
    · intro hb
      try simp only [hB, decide_eq_true_eq, decide_eq_false_iff_not] at hb
      obtain ⟨p, hp⟩ := getI (l := ns) (j := j) (by omega)
      have hgp := getV (f := pairV) hp
      have hes := rnEdges_succ (B := bigAt ws ws.length) hp
      have hel := rwEdges_len ws ws.length
      have hel2 := rnEdges_len (bigAt ws ws.length) (ns.take j)
      have hel3 : (ns.take j).length ≤ 1000 := by simp; omega
      have hb0 := hbig ws.length
      unfold rnEdge at hes
      refine AW.skip ?_
      refine hK14 _ _ _ ?_; clear hK14
      refine AW.seq fun K16 hK16 => ?_
      refine AW.block ?_
      refine AW.seq fun K17 hK17 => ?_
      -- region 14
      refine AW.regionD mixed 0 (fun _ => none) [0, 1, 4, 6, 7, 8, 10, 78] [4, 7, 200] ?_
      simp only [go_sem, reduceIte, reduceCtorEq, Nat.reduceAdd, Nat.reduceMul, Nat.reduceEqDiff, Nat.reduceLT, Nat.reduceLeDiff, Nat.reduceSub, Nat.reducePow, Nat.reduceBEq, Int.reduceToNat, List.reduceReplicate, hgp, pairV]
      repeat with_reducible refine cj ?_ ?_
      all_goals try first | omega | exact chk (by kernel_rfl)
      refine hK17 _ _ _ ?_; clear hK17
      -- cond 4
      refine AW.cond rfl (by simp only [go_sem, reduceIte, reduceCtorEq, Nat.reduceAdd, Nat.reduceMul, Nat.reduceEqDiff, Nat.reduceLT, Nat.reduceLeDiff, Nat.reduceSub, Nat.reducePow, Nat.reduceBEq, Int.reduceToNat, List.reduceReplicate]) ?_ ?_
      · intro hb
        try simp only [hB, decide_eq_true_eq, decide_eq_false_iff_not] at hb
        rw [if_neg hb] at hes
        -- region 15
        refine AW.regionD mixed 0 (fun _ => none) [0, 1, 4, 6, 7, 8, 10] [4, 7, 200] ?_
        simp only [go_sem, reduceIte, reduceCtorEq, Nat.reduceAdd, Nat.reduceMul, Nat.reduceEqDiff, Nat.reduceLT, Nat.reduceLeDiff, Nat.reduceSub, Nat.reducePow, Nat.reduceBEq, Int.reduceToNat, List.reduceReplicate, hgp, pairV]
        repeat with_reducible refine cj ?_ ?_
        all_goals try first | ((simp only [List.length_append]; omega)) | omega | exact chk (by kernel_rfl) | (simp [scP, scalar]; done)
        refine hK16 _ _ _ ?_; clear hK16
        -- region 13
        refine AW.regionK 0 (fun _ => none) [0, 1, 4, 6, 7, 8, 10] [4, 7, 200] ?_
        simp only [go_sem, reduceIte, reduceCtorEq, Nat.reduceAdd, Nat.reduceMul, Nat.reduceEqDiff, Nat.reduceLT, Nat.reduceLeDiff, Nat.reduceSub, Nat.reducePow, Nat.reduceBEq, Int.reduceToNat, List.reduceReplicate]
        repeat with_reducible refine cj ?_ ?_
        all_goals try first | omega
        rw [← hQl2]
        change Exists _
        refine ⟨_, ?hm, j + 1, ?_, ?_, ?_, ?_, rfl, ?henv, ?hstore, ?hst⟩
        case henv =>
          repeat' (first | rfl | refine env_cons ?_ ?_ | refine st_cons ?_ ?_ ?_ ?_ | refine int_eq ?_ | refine bool_eq ?_ | refine rsl_eq ?_ | refine osl_eq ?_ | refine sl_eq ?_ ?_ ?_ | refine ptr_eq ?_ ?_ ?_ | refine agg_eq ?_ | refine es_cons ?_ ?_ | refine row_cons ?_ ?_)
          all_goals (first | (simp; done) | omega | (simp; omega))
        case hstore =>
          repeat' (first | rfl | refine env_cons ?_ ?_ | refine st_cons ?_ ?_ ?_ ?_ | refine int_eq ?_ | refine bool_eq ?_ | refine rsl_eq ?_ | refine osl_eq ?_ | refine sl_eq ?_ ?_ ?_ | refine ptr_eq ?_ ?_ ?_ | refine agg_eq ?_ | refine es_cons ?_ ?_ | refine row_cons ?_ ?_)
          all_goals (rw [hes]; try rw [← List.append_assoc]; try simp [edgeV]; try omega)
        case hst =>
          first | trivial | omega | (simp; done) | (simp; omega)
        case hm => omega
      · intro hb
        try simp only [hB, decide_eq_true_eq, decide_eq_false_iff_not] at hb
        rw [if_pos (by omega), List.append_nil] at hes
        refine AW.skip ?_
        refine hK16 _ _ _ ?_; clear hK16
        -- region 13
        refine AW.regionK 0 (fun _ => none) [0, 1, 4, 6, 7, 8, 10] [4, 7, 200] ?_
        simp only [go_sem, reduceIte, reduceCtorEq, Nat.reduceAdd, Nat.reduceMul, Nat.reduceEqDiff, Nat.reduceLT, Nat.reduceLeDiff, Nat.reduceSub, Nat.reducePow, Nat.reduceBEq, Int.reduceToNat, List.reduceReplicate]
        repeat with_reducible refine cj ?_ ?_
        all_goals try first | omega
        rw [← hQl2]
        change Exists _
        refine ⟨_, ?hm, j + 1, ?_, ?_, ?_, ?_, rfl, ?henv, ?hstore, ?hst⟩
        case henv =>
          repeat' (first | rfl | refine env_cons ?_ ?_ | refine st_cons ?_ ?_ ?_ ?_ | refine int_eq ?_ | refine bool_eq ?_ | refine rsl_eq ?_ | refine osl_eq ?_ | refine sl_eq ?_ ?_ ?_ | refine ptr_eq ?_ ?_ ?_ | refine agg_eq ?_ | refine es_cons ?_ ?_ | refine row_cons ?_ ?_)
          all_goals (first | (simp; done) | omega | (simp; omega))
        case hstore =>
          repeat' (first | rfl | refine env_cons ?_ ?_ | refine st_cons ?_ ?_ ?_ ?_ | refine int_eq ?_ | refine bool_eq ?_ | refine rsl_eq ?_ | refine osl_eq ?_ | refine sl_eq ?_ ?_ ?_ | refine ptr_eq ?_ ?_ ?_ | refine agg_eq ?_ | refine es_cons ?_ ?_ | refine row_cons ?_ ?_)
          all_goals (rw [hes]; try rw [← List.append_assoc]; try simp [edgeV]; try omega)
        case hst =>
          first | trivial | omega | (simp; done) | (simp; omega)
        case hm => omega
    · intro hb
      try simp only [hB, decide_eq_true_eq, decide_eq_false_iff_not] at hb
      obtain rfl : j = ns.length := by omega
      rw [List.take_length]
      refine AW.exit ?_
      rw [← hQl2]
      refine hK12 _ _ _ ?_; clear hK12
      refine AW.seq fun K18 hK18 => ?_
      refine AW.freezeK [7, 200] [7] [0, 4, 6, 8] [4] ?_
      simp only [go_sem, reduceIte, Nat.reduceEqDiff]
      -- region 16
      refine AW.regionK 0 (fun i => if i = 4 then some (.reads false (.agg [.int .i64 (ws.length + 2), .rsl 1 (words W)])) else none) [0, 4, 6, 11] [4, 11] ?_
      simp only [go_sem, reduceIte, reduceCtorEq, Nat.reduceAdd, Nat.reduceMul, Nat.reduceEqDiff, Nat.reduceLT, Nat.reduceLeDiff, Nat.reduceSub, Nat.reducePow, Nat.reduceBEq, Int.reduceToNat, List.reduceReplicate]
      repeat with_reducible refine cj ?_ ?_
      all_goals try first | (exact hC) | omega | exact ent (by kernel_rfl)
      refine hK18 _ _ _ ?_; clear hK18
      refine AW.seq fun K19 hK19 => ?_
      -- region 17
      refine AW.regionK 0 (fun _ => none) [0, 4, 6, 11, 12] [4, 11, 102] ?_
      simp only [go_sem, reduceIte, reduceCtorEq, Nat.reduceAdd, Nat.reduceMul, Nat.reduceEqDiff, Nat.reduceLT, Nat.reduceLeDiff, Nat.reduceSub, Nat.reducePow, Nat.reduceBEq, Int.reduceToNat, List.reduceReplicate]
      repeat with_reducible refine cj ?_ ?_
      all_goals try first | omega
      refine hK19 _ _ _ ?_; clear hK19
      refine AW.seq fun K20 hK20 => ?_
      -- region 18
      refine AW.regionK 0 (fun _ => none) [0, 4, 6, 11, 12, 13] [4, 11, 102] ?_
      simp only [go_sem, reduceIte, reduceCtorEq, Nat.reduceAdd, Nat.reduceMul, Nat.reduceEqDiff, Nat.reduceLT, Nat.reduceLeDiff, Nat.reduceSub, Nat.reducePow, Nat.reduceBEq, Int.reduceToNat, List.reduceReplicate]
      repeat with_reducible refine cj ?_ ?_
      all_goals try first | omega
      refine hK20 _ _ _ ?_; clear hK20
      refine AW.seq fun K21 hK21 => ?_
      refine AW.seq fun K22 hK22 => ?_
      -- region 19
      refine AW.regionK 0 (fun _ => none) [0, 4, 6, 11, 12, 13, 14] [4, 11, 102] ?_
      simp only [go_sem, reduceIte, reduceCtorEq, Nat.reduceAdd, Nat.reduceMul, Nat.reduceEqDiff, Nat.reduceLT, Nat.reduceLeDiff, Nat.reduceSub, Nat.reducePow, Nat.reduceBEq, Int.reduceToNat, List.reduceReplicate]
      repeat with_reducible refine cj ?_ ?_
      all_goals try first | omega
      refine hK22 _ _ _ ?_; clear hK22
      refine AW.block ?_
      -- loop 3
      refine AW.loopE (fun mm ee ss kk => ∃ (j g v g12 v12 : Nat), ws.length - j = mm ∧ ee = [(0, .rsl 1 (ints ws)), (4, .ptr ⟨4, 0, none⟩ 0 0), (6, .int .i64 ws.length), (11, .ptr ⟨11, g, none⟩ 0 0), (12, .sl ⟨102, g12, none⟩ 0 ws.length none), (13, .int .i64 (sumB ws b j)), (14, .int .i64 (j : Nat))] ∧ ss = [(4, some ⟨0, 0, 2, [[.int .i64 0, .nilsl]]⟩), (11, some ⟨g, v, 2, [[.int .i64 (ws.length + 2), .rsl 1 (words W)]]⟩), (102, some ⟨g12, v12, 1, bools (b.take j ++ List.replicate (ws.length - j) false)⟩)] ∧ (j ≤ ws.length)) ?_ ?_
      · refine ⟨_, 0, ?_, ?_, ?_, ?_, rfl, ?henv, ?hstore, ?hst⟩
        case henv =>
          repeat' (first | rfl | refine env_cons ?_ ?_ | refine st_cons ?_ ?_ ?_ ?_ | refine int_eq ?_ | refine bool_eq ?_ | refine rsl_eq ?_ | refine osl_eq ?_ | refine sl_eq ?_ ?_ ?_ | refine ptr_eq ?_ ?_ ?_ | refine agg_eq ?_ | refine es_cons ?_ ?_ | refine row_cons ?_ ?_)
          all_goals (first | (simp; done) | omega | (simp; omega))
        case hstore =>
          repeat' (first | rfl | refine env_cons ?_ ?_ | refine st_cons ?_ ?_ ?_ ?_ | refine int_eq ?_ | refine bool_eq ?_ | refine rsl_eq ?_ | refine osl_eq ?_ | refine sl_eq ?_ ?_ ?_ | refine ptr_eq ?_ ?_ ?_ | refine agg_eq ?_ | refine es_cons ?_ ?_ | refine row_cons ?_ ?_)
          all_goals simp [bools]
        case hst =>
          first | trivial | omega | (simp; done) | (simp; omega)
      rintro mm ee ss kk ⟨j, g, v, g12, v12, rfl, rfl, rfl, hI⟩
      generalize hQl3 : thenQ _ _ = Ql3
      refine AW.seq fun K23 hK23 => ?_
      refine AW.seq fun K24 hK24 => ?_
      -- region 20
      refine AW.regionK 0 (fun _ => none) [0, 4, 6, 11, 12, 13, 14, 105] [4, 11, 102] ?_
      simp only [go_sem, reduceIte, reduceCtorEq, Nat.reduceAdd, Nat.reduceMul, Nat.reduceEqDiff, Nat.reduceLT, Nat.reduceLeDiff, Nat.reduceSub, Nat.reducePow, Nat.reduceBEq, Int.reduceToNat, List.reduceReplicate]
      repeat with_reducible refine cj ?_ ?_
      all_goals try first | omega
      refine hK24 _ _ _ ?_; clear hK24
      -- cond 5
      refine AW.cond rfl (by simp only [go_sem, reduceIte, reduceCtorEq, Nat.reduceAdd, Nat.reduceMul, Nat.reduceEqDiff, Nat.reduceLT, Nat.reduceLeDiff, Nat.reduceSub, Nat.reducePow, Nat.reduceBEq, Int.reduceToNat, List.reduceReplicate]) ?_ ?_
      · intro hb
        try simp only [hB, decide_eq_true_eq, decide_eq_false_iff_not] at hb
        have hm := mark_set (b := b) (n := ws.length) (j := j) (by omega) (by omega)
        have hml : (b.take j ++ List.replicate (ws.length - j) false).length = ws.length := by simp; omega
        have hml2 : (b.take (j + 1) ++ List.replicate (ws.length - (j + 1)) false).length = ws.length := by simp; omega
        have hgw := ints_getD (l := ws) (i := j) (by omega)
        have hwx := hw (ws.getD j 0) (mem_getD (by omega) 0)
        have hs0 := hsum j
        have hss : sumB ws b (j + 1) = sumB ws b j + if b.getD j false = true then ws.getD j 0 else 0 := rfl
        have hhj : hasW W (j : Int) = b.getD j false := by rw [← hW, setW_mem (by omega) (by omega)]; simp
        have hgm := bools_getD (l := b.take (j + 1) ++ List.replicate (ws.length - (j + 1)) false) (i := j) (by omega)
        have hgj : (b.take (j + 1) ++ List.replicate (ws.length - (j + 1)) false).getD j false = b.getD j false := by
          rw [← hm, Go.AM.getD_set_eq (by omega)]
        rw [hgj] at hgm
        have hhr := hhas (j : Int) (by omega) (by omega)
        rw [hhj] at hhr
        refine AW.skip ?_
        refine hK23 _ _ _ ?_; clear hK23
        refine AW.seq fun K25 hK25 => ?_
        refine AW.block ?_
        refine AW.seq fun K26 hK26 => ?_
        -- region 22
        refine AW.regionK 0 (fun i => if i = 4 then some (.reads false (.bool (b.getD j false))) else none) [0, 4, 6, 11, 12, 13, 14] [4, 11, 102] ?_
        simp only [go_sem, reduceIte, reduceCtorEq, Nat.reduceAdd, Nat.reduceMul, Nat.reduceEqDiff, Nat.reduceLT, Nat.reduceLeDiff, Nat.reduceSub, Nat.reducePow, Nat.reduceBEq, Int.reduceToNat, List.reduceReplicate, hm, hml]
        repeat with_reducible refine cj ?_ ?_
        all_goals try first | (exact hhr) | omega | exact ent (by kernel_rfl)
        refine hK26 _ _ _ ?_; clear hK26
        refine AW.seq fun K27 hK27 => ?_
        -- region 23
        refine AW.regionK 0 (fun _ => none) [0, 4, 6, 11, 12, 13, 14, 117] [4, 11, 102] ?_
        simp only [go_sem, reduceIte, reduceCtorEq, Nat.reduceAdd, Nat.reduceMul, Nat.reduceEqDiff, Nat.reduceLT, Nat.reduceLeDiff, Nat.reduceSub, Nat.reducePow, Nat.reduceBEq, Int.reduceToNat, List.reduceReplicate, hgm]
        repeat with_reducible refine cj ?_ ?_
        all_goals try first | omega
        refine hK27 _ _ _ ?_; clear hK27
        -- cond 6
        refine AW.cond rfl (by simp only [go_sem, reduceIte, reduceCtorEq, Nat.reduceAdd, Nat.reduceMul, Nat.reduceEqDiff, Nat.reduceLT, Nat.reduceLeDiff, Nat.reduceSub, Nat.reducePow, Nat.reduceBEq, Int.reduceToNat, List.reduceReplicate]) ?_ ?_
        · intro hb
          try simp only [hB, decide_eq_true_eq, decide_eq_false_iff_not] at hb
          rw [if_pos hb] at hss
          -- region 24
          refine AW.regionK 0 (fun _ => none) [0, 4, 6, 11, 12, 13, 14] [4, 11, 102] ?_
          simp only [go_sem, reduceIte, reduceCtorEq, Nat.reduceAdd, Nat.reduceMul, Nat.reduceEqDiff, Nat.reduceLT, Nat.reduceLeDiff, Nat.reduceSub, Nat.reducePow, Nat.reduceBEq, Int.reduceToNat, List.reduceReplicate, hgw]
          repeat with_reducible refine cj ?_ ?_
          all_goals try first | omega
          refine hK25 _ _ _ ?_; clear hK25
          -- region 21
          refine AW.regionK 0 (fun _ => none) [0, 4, 6, 11, 12, 13, 14] [4, 11, 102] ?_
          simp only [go_sem, reduceIte, reduceCtorEq, Nat.reduceAdd, Nat.reduceMul, Nat.reduceEqDiff, Nat.reduceLT, Nat.reduceLeDiff, Nat.reduceSub, Nat.reducePow, Nat.reduceBEq, Int.reduceToNat, List.reduceReplicate]
          repeat with_reducible refine cj ?_ ?_
          all_goals try first | omega
          rw [← hQl3]
          change Exists _
          refine ⟨_, ?hm, j + 1, ?_, ?_, ?_, ?_, rfl, ?henv, ?hstore, ?hst⟩
          case henv =>
            repeat' (first | rfl | refine env_cons ?_ ?_ | refine st_cons ?_ ?_ ?_ ?_ | refine int_eq ?_ | refine bool_eq ?_ | refine rsl_eq ?_ | refine osl_eq ?_ | refine sl_eq ?_ ?_ ?_ | refine ptr_eq ?_ ?_ ?_ | refine agg_eq ?_ | refine es_cons ?_ ?_ | refine row_cons ?_ ?_)
            all_goals (rw [hss]; try omega)
          case hstore =>
            repeat' (first | rfl | refine env_cons ?_ ?_ | refine st_cons ?_ ?_ ?_ ?_ | refine int_eq ?_ | refine bool_eq ?_ | refine rsl_eq ?_ | refine osl_eq ?_ | refine sl_eq ?_ ?_ ?_ | refine ptr_eq ?_ ?_ ?_ | refine agg_eq ?_ | refine es_cons ?_ ?_ | refine row_cons ?_ ?_)
            all_goals (first | (simp; done) | omega | (simp; omega))
          case hst =>
            first | trivial | omega | (simp; done) | (simp; omega)
          case hm => omega
        · intro hb
          try simp only [hB, decide_eq_true_eq, decide_eq_false_iff_not] at hb
          rw [if_neg (by rw [hb]; simp)] at hss
          refine AW.skip ?_
          refine hK25 _ _ _ ?_; clear hK25
          -- region 21
          refine AW.regionK 0 (fun _ => none) [0, 4, 6, 11, 12, 13, 14] [4, 11, 102] ?_
          simp only [go_sem, reduceIte, reduceCtorEq, Nat.reduceAdd, Nat.reduceMul, Nat.reduceEqDiff, Nat.reduceLT, Nat.reduceLeDiff, Nat.reduceSub, Nat.reducePow, Nat.reduceBEq, Int.reduceToNat, List.reduceReplicate]
          repeat with_reducible refine cj ?_ ?_
          all_goals try first | omega
          rw [← hQl3]
          change Exists _
          refine ⟨_, ?hm, j + 1, ?_, ?_, ?_, ?_, rfl, ?henv, ?hstore, ?hst⟩
          case henv =>
            repeat' (first | rfl | refine env_cons ?_ ?_ | refine st_cons ?_ ?_ ?_ ?_ | refine int_eq ?_ | refine bool_eq ?_ | refine rsl_eq ?_ | refine osl_eq ?_ | refine sl_eq ?_ ?_ ?_ | refine ptr_eq ?_ ?_ ?_ | refine agg_eq ?_ | refine es_cons ?_ ?_ | refine row_cons ?_ ?_)
            all_goals (rw [hss]; try omega)
          case hstore =>
            repeat' (first | rfl | refine env_cons ?_ ?_ | refine st_cons ?_ ?_ ?_ ?_ | refine int_eq ?_ | refine bool_eq ?_ | refine rsl_eq ?_ | refine osl_eq ?_ | refine sl_eq ?_ ?_ ?_ | refine ptr_eq ?_ ?_ ?_ | refine agg_eq ?_ | refine es_cons ?_ ?_ | refine row_cons ?_ ?_)
            all_goals (first | (simp; done) | omega | (simp; omega))
          case hst =>
            first | trivial | omega | (simp; done) | (simp; omega)
          case hm => omega
      · intro hb
        try simp only [hB, decide_eq_true_eq, decide_eq_false_iff_not] at hb
        obtain rfl : j = ws.length := by omega
        rw [Nat.sub_self, List.replicate_zero, List.append_nil]
        refine AW.exit ?_
        rw [← hQl3]
        refine hK21 _ _ _ ?_; clear hK21
        refine AW.seq fun K28 hK28 => ?_
        -- region 25
        refine AW.regionK 0 (fun i => if i = 1 then some (.reads true (.agg [.int .i64 ws.length, .rsl 1 (words (setW (b.take ws.length) ws.length))])) else none) [4, 5] [4] ?_
        simp only [go_sem, reduceIte, reduceCtorEq, Nat.reduceAdd, Nat.reduceMul, Nat.reduceEqDiff, Nat.reduceLT, Nat.reduceLeDiff, Nat.reduceSub, Nat.reducePow, Nat.reduceBEq, Int.reduceToNat, List.reduceReplicate, List.take_take, Nat.min_self]
        repeat with_reducible refine cj ?_ ?_
        all_goals try first | (exact hst) | omega | exact ent (by kernel_rfl)
        refine hK28 _ _ _ ?_; clear hK28
        refine AW.ret ?_
        rw [← hQr]
        simp only [go_sem, reduceIte, reduceCtorEq, Nat.reduceAdd, Nat.reduceMul, Nat.reduceEqDiff, Nat.reduceLT, Nat.reduceLeDiff, Nat.reduceSub, Nat.reducePow, Nat.reduceBEq, Int.reduceToNat, List.reduceReplicate]
        exact Wk.refl _
end Go.Proofs.F
namespace Go.Proofs.F
open Go.AM Go
set_option maxRecDepth 100000
set_option maxHeartbeats 1000000
theorem clo_good (ws : List Int) (ns : List (Int × Int)) (h1 : ws.length ≤ 500) (h2 : ns.length ≤ 1000) (hw : ∀ w ∈ ws, -1073741824 ≤ w ∧ w ≤ 1073741824) (hn : ∀ p ∈ ns, 0 ≤ p.1 ∧ p.1 < ws.length ∧ 0 ≤ p.2 ∧ p.2 < ws.length) : ∃ v W,
    Reads Try.prog 23 false [.rsl 1 (ints ws), .rsl 2 (ns.map pairV)] (.tup [.agg [.int .i64 ws.length, .rsl 1 (words W)], .int .i64 v, .int .i64 0]) ∧ W.length ≤ 9223372036854775807 ∧
    Reads Try.prog 28 false [.rsl 1 (ints ws), .rsl 2 (ns.map pairV)] (.tup [.agg [.int .i64 ws.length, .rsl 1 (words W)], .int .i64 v]) := by
  obtain ⟨hv1, hv2, hbig⟩ := cNet_valid h1 h2 hw hn
  have hN1 : (cNet ws ns).N = ws.length + 2 := rfl
  have hN2 : (rNet ws ns).N = ws.length + 2 := rfl
  have he1 : endsB (cNet ws ns) ws.length (ws.length + 1) = true := by simp [endsB, hN1]; omega
  have he2 : endsB (rNet ws ns) ws.length (ws.length + 1) = true := by simp [endsB, hN2]; omega
  obtain ⟨F, A', v', pr', k1, ⟨fl, k2, k3, k4, k5⟩, k6, k7⟩ := fill_total hv1 he1 9223372036854775808 _ _ (fill_start (s := ws.length) (t := ws.length + 1) hv1) (by decide)
  obtain ⟨hpl, hnear⟩ := near_prog hv1 (by omega) (by omega) k2.caps k3 k6
  obtain ⟨r, b, m1, m2, m3, m4, m5, m6⟩ := rcut_spec (rNet ws ns) ws.length (ws.length + 1) hv2 he2
  rw [hN2] at m1 m4
  have hbl : b.length = ws.length + 2 := by omega
  have hrc := rclo_r ws ns h1 h2 hw b hbl m1
  have hclo := clo_r ws ns h1 h2 hw hn hv1 _ (fill_ok hv1 he1) (fill_start hv1) F A' v' pr' k1 hpl
  have huq : ∀ i, i < ws.length → (pr'.getD i 0 ≠ -1 ↔ b.getD i false = true) := fun i hi => by
    have := closure_uniq hv1 hv2 hbig (fun p hp => (hn p hp).2.1) k2 m2 hnear m5 (by simp only [decide_eq_false_iff_not, ne_eq, Decidable.not_not]; exact k7) m6 (i : Int) (by omega) (by omega)
    simp only [Int.toNat_natCast] at this
    rw [← this]; simp
  have hbt : (b.take ws.length).length = ws.length := by simp; omega
  have hW : ofW ws.length (memb pr' ws.length) = setW (b.take ws.length) ws.length := ofW_setW hbt fun i hi => by
    rw [huq i hi, List.getD_eq_getElem?_getD, List.getD_eq_getElem?_getD, List.getElem?_take]; simp [hi]
  rw [hW, sum_memb ws.length huq] at hclo
  exact ⟨_, _, hclo, by rw [setW_len, hbt]; have := wordsN_rng (n := (ws.length : Int)) (by omega); omega, hrc⟩
theorem clo_spec (ws : List Int) (ns : List (Int × Int)) (hl : ws.length ≤ 9223372036854775807) (hl2 : ns.length ≤ 9223372036854775807) : ∃ (N v : Int) (W : List Int) (e : Nat),
    Reads Try.prog 23 false [.rsl 1 (ints ws), .rsl 2 (ns.map pairV)] (.tup [.agg [.int .i64 N, .rsl 1 (words W)], .int .i64 v, .int .i64 e]) ∧ W.length ≤ 9223372036854775807 ∧
    (500 < ws.length ∨ 1000 < ns.length → N = 0 ∧ W = [] ∧ v = 0 ∧ e = 5) ∧ (ws.length ≤ 500 → ns.length ≤ 1000 → ws.any badW = true ∨ ns.any (badP ws.length) = true → N = 0 ∧ W = [] ∧ v = 0 ∧ e = 2) ∧
    (ws.length ≤ 500 → ns.length ≤ 1000 → ws.any badW = false → ns.any (badP ws.length) = false → e = 0 ∧ Reads Try.prog 28 false [.rsl 1 (ints ws), .rsl 2 (ns.map pairV)] (.tup [.agg [.int .i64 N, .rsl 1 (words W)], .int .i64 v])) := by
  by_cases hB : 500 < ws.length ∨ 1000 < ns.length
  · refine ⟨0, 0, [], 5, ?_, by simp, fun _ => ⟨rfl, rfl, rfl, rfl⟩, fun _ _ => by omega, fun _ _ => by omega⟩
    exact clo_err5 ws ns hl hl2 hB
  · by_cases hbad : ws.any badW = true ∨ ns.any (badP ws.length) = true
    · refine ⟨0, 0, [], 2, ?_, by simp, fun h => absurd h hB, fun _ _ _ => ⟨rfl, rfl, rfl, rfl⟩, fun _ _ a c => by rcases hbad with h | h; rw [a] at h; cases h; rw [c] at h; cases h⟩
      exact clo_err2 ws ns (by omega) (by omega) hbad
    · have hw : ∀ w ∈ ws, -1073741824 ≤ w ∧ w ≤ 1073741824 := fun w hw => by
        have : ¬ badW w = true := fun h => hbad (Or.inl (List.any_eq_true.2 ⟨w, hw, h⟩))
        simp [badW] at this; omega
      have hn : ∀ p ∈ ns, 0 ≤ p.1 ∧ p.1 < ws.length ∧ 0 ≤ p.2 ∧ p.2 < ws.length := fun p hp => by
        have : ¬ badP ws.length p = true := fun h => hbad (Or.inr (List.any_eq_true.2 ⟨p, hp, h⟩))
        simp [badP] at this; omega
      obtain ⟨v, W, g1, g2, g3⟩ := clo_good ws ns (by omega) (by omega) hw hn
      exact ⟨_, v, W, 0, g1, g2, fun h => absurd h hB, fun _ _ h => absurd h hbad, fun _ _ _ _ => ⟨rfl, g3⟩⟩
theorem law_clos (ws : List Int) (ns : List (Int × Int)) (hl : ws.length ≤ 9223372036854775807) (hl2 : ns.length ≤ 9223372036854775807) : Reads Try.prog 5 false [.rsl 1 (ints ws), .rsl 2 (ns.map pairV)] (.bool true) := by
  obtain ⟨N, v, W, e, hM, hWl, hM1, hM2, hM3⟩ := clo_spec ws ns hl hl2
  have haw := awake_r
  have hnone := none_r N (words W) (by rw [words_len]; exact hWl)
  have hctw := ctw_r ws hl
  have hctp := Reads.flat (ctp_r ws ns hl hl2) rfl
  have hsame := same_r N N W W hWl hWl
  refine Reads.body (rs := [.tmp 4]) Try.func5 rfl Try.ntmps5 rfl (by simp) ?_
  generalize hQr : retQ _ _ _ = Qr
  refine AW.seq fun K1 hK1 => ?_
  -- region 0
  refine AW.regionK 0 (fun _ => none) [1, 2] [2] ?_
  simp only [go_sem, reduceIte, reduceCtorEq, Nat.reduceAdd, Nat.reduceMul, Nat.reduceEqDiff, Nat.reduceLT, Nat.reduceLeDiff, Nat.reduceSub, Nat.reducePow, Nat.reduceBEq, Int.reduceToNat, List.reduceReplicate]
  repeat with_reducible refine cj ?_ ?_
  all_goals try first | omega
  refine hK1 _ _ _ ?_; clear hK1
  refine AW.seq fun K2 hK2 => ?_
  refine AW.seq fun K3 hK3 => ?_
  -- region 1
  refine AW.regionK 0 (fun i => if i = 0 then some (.reads false (.bool true)) else none) [1, 2, 11] [2] ?_
  simp only [go_sem, reduceIte, reduceCtorEq, Nat.reduceAdd, Nat.reduceMul, Nat.reduceEqDiff, Nat.reduceLT, Nat.reduceLeDiff, Nat.reduceSub, Nat.reducePow, Nat.reduceBEq, Int.reduceToNat, List.reduceReplicate]
  repeat with_reducible refine cj ?_ ?_
  all_goals try first | (exact haw) | omega | exact ent (by kernel_rfl)
  refine hK3 _ _ _ ?_; clear hK3
  -- cond 1
  refine AW.cond rfl (by simp only [go_sem, reduceIte, reduceCtorEq, Nat.reduceAdd, Nat.reduceMul, Nat.reduceEqDiff, Nat.reduceLT, Nat.reduceLeDiff, Nat.reduceSub, Nat.reducePow, Nat.reduceBEq, Int.reduceToNat, List.reduceReplicate]) ?_ ?_
  · intro hb
    try simp only [hB, decide_eq_true_eq, decide_eq_false_iff_not] at hb
    simp at hb
  · intro hb
    try simp only [hB, decide_eq_true_eq, decide_eq_false_iff_not] at hb
    refine AW.skip ?_
    refine hK2 _ _ _ ?_; clear hK2
    refine AW.seq fun K4 hK4 => ?_
    refine AW.seq fun K5 hK5 => ?_
    -- region 3
    refine AW.regionK 0 (fun _ => none) [1, 2, 39] [2] ?_
    simp only [go_sem, reduceIte, reduceCtorEq, Nat.reduceAdd, Nat.reduceMul, Nat.reduceEqDiff, Nat.reduceLT, Nat.reduceLeDiff, Nat.reduceSub, Nat.reducePow, Nat.reduceBEq, Int.reduceToNat, List.reduceReplicate]
    repeat with_reducible refine cj ?_ ?_
    all_goals try first | omega | (simp only [go_sem, reduceIte, reduceCtorEq, Nat.reduceAdd, Nat.reduceMul, Nat.reduceEqDiff, Nat.reduceLT, Nat.reduceLeDiff, Nat.reduceSub, Nat.reducePow, Nat.reduceBEq, Int.reduceToNat, List.reduceReplicate]; done) | (simp_all [go_sem]; done)
    refine hK5 _ _ _ ?_; clear hK5
    -- cond 2
    refine AW.cond rfl (by simp only [go_sem, reduceIte, reduceCtorEq, Nat.reduceAdd, Nat.reduceMul, Nat.reduceEqDiff, Nat.reduceLT, Nat.reduceLeDiff, Nat.reduceSub, Nat.reducePow, Nat.reduceBEq, Int.reduceToNat, List.reduceReplicate]) ?_ ?_
    · intro hb
      try simp only [hB, decide_eq_true_eq, decide_eq_false_iff_not] at hb
      refine AW.seq fun K6 hK6 => ?_
      -- region 4
      refine AW.regionK 0 (fun _ => none) [4] [] ?_
      simp only [go_sem, reduceIte, reduceCtorEq, Nat.reduceAdd, Nat.reduceMul, Nat.reduceEqDiff, Nat.reduceLT, Nat.reduceLeDiff, Nat.reduceSub, Nat.reducePow, Nat.reduceBEq, Int.reduceToNat, List.reduceReplicate]
      repeat with_reducible refine cj ?_ ?_
      all_goals try first | omega
      refine hK6 _ _ _ ?_; clear hK6
      refine AW.ret ?_
      rw [← hQr]
      simp only [go_sem, reduceIte, reduceCtorEq, Nat.reduceAdd, Nat.reduceMul, Nat.reduceEqDiff, Nat.reduceLT, Nat.reduceLeDiff, Nat.reduceSub, Nat.reducePow, Nat.reduceBEq, Int.reduceToNat, List.reduceReplicate]
      exact Wk.refl _
    · intro hb
      try simp only [hB, decide_eq_true_eq, decide_eq_false_iff_not] at hb
      refine AW.skip ?_
      refine hK4 _ _ _ ?_; clear hK4
      refine AW.seq fun K7 hK7 => ?_
      -- region 5
      refine AW.regionK 0 (fun i => if i = 2 then some (.reads false (.tup [.agg [.int .i64 N, .rsl 1 (words W)], .int .i64 v, .int .i64 e])) else none) [1, 2, 5, 6, 7] [2, 5] ?_
      simp only [go_sem, reduceIte, reduceCtorEq, Nat.reduceAdd, Nat.reduceMul, Nat.reduceEqDiff, Nat.reduceLT, Nat.reduceLeDiff, Nat.reduceSub, Nat.reducePow, Nat.reduceBEq, Int.reduceToNat, List.reduceReplicate]
      repeat with_reducible refine cj ?_ ?_
      all_goals try first | (exact hM) | omega | exact ent (by kernel_rfl)
      refine hK7 _ _ _ ?_; clear hK7
      refine AW.seq fun K8 hK8 => ?_
      refine AW.block ?_
      refine AW.seq fun K9 hK9 => ?_
      -- region 6
      refine AW.regionK 0 (fun _ => none) [1, 2, 5, 6, 7, 47] [2, 5] ?_
      simp only [go_sem, reduceIte, reduceCtorEq, Nat.reduceAdd, Nat.reduceMul, Nat.reduceEqDiff, Nat.reduceLT, Nat.reduceLeDiff, Nat.reduceSub, Nat.reducePow, Nat.reduceBEq, Int.reduceToNat, List.reduceReplicate]
      repeat with_reducible refine cj ?_ ?_
      all_goals try first | omega | (simp only [go_sem, reduceIte, reduceCtorEq, Nat.reduceAdd, Nat.reduceMul, Nat.reduceEqDiff, Nat.reduceLT, Nat.reduceLeDiff, Nat.reduceSub, Nat.reducePow, Nat.reduceBEq, Int.reduceToNat, List.reduceReplicate]; done) | (simp_all [go_sem]; done)
      refine hK9 _ _ _ ?_; clear hK9
      -- cond 3
      refine AW.cond rfl (by simp only [go_sem, reduceIte, reduceCtorEq, Nat.reduceAdd, Nat.reduceMul, Nat.reduceEqDiff, Nat.reduceLT, Nat.reduceLeDiff, Nat.reduceSub, Nat.reducePow, Nat.reduceBEq, Int.reduceToNat, List.reduceReplicate]) ?_ ?_
      · intro hb
        try simp only [hB, decide_eq_true_eq, decide_eq_false_iff_not] at hb
        obtain ⟨rfl, rfl, rfl, rfl⟩ := hM1 (by omega)
        refine AW.seq fun K10 hK10 => ?_
        -- region 7
        refine AW.regionK 0 (fun i => if i = 1 then some (.reads false (.bool (decide ((0 : Int) = 0) && decide ((words []).length = 0)))) else none) [4] [] ?_
        simp only [go_sem, reduceIte, reduceCtorEq, Nat.reduceAdd, Nat.reduceMul, Nat.reduceEqDiff, Nat.reduceLT, Nat.reduceLeDiff, Nat.reduceSub, Nat.reducePow, Nat.reduceBEq, Int.reduceToNat, List.reduceReplicate]
        repeat with_reducible refine cj ?_ ?_
        all_goals try first | (exact hnone) | (intros; (repeat' apply And.intro) <;> first | assumption | (exact hnone)) | omega | exact ent (by kernel_rfl) | (simp only [go_sem, reduceIte, reduceCtorEq, Nat.reduceAdd, Nat.reduceMul, Nat.reduceEqDiff, Nat.reduceLT, Nat.reduceLeDiff, Nat.reduceSub, Nat.reducePow, Nat.reduceBEq, Int.reduceToNat, List.reduceReplicate]; done) | (simp_all [go_sem]; done)
        refine hK10 _ _ _ ?_; clear hK10
        refine AW.ret ?_
        rw [← hQr]
        simp only [go_sem, reduceIte, reduceCtorEq, Nat.reduceAdd, Nat.reduceMul, Nat.reduceEqDiff, Nat.reduceLT, Nat.reduceLeDiff, Nat.reduceSub, Nat.reducePow, Nat.reduceBEq, Int.reduceToNat, List.reduceReplicate]
        exact Wk.of_eq (by simp [words])
      · intro hb
        try simp only [hB, decide_eq_true_eq, decide_eq_false_iff_not] at hb
        have hz : ws.length ≤ 500 ∧ ns.length ≤ 1000 := by omega
        refine AW.seq fun K11 hK11 => ?_
        -- region 8
        refine AW.regionK 0 (fun i => if i = 1 then some (.reads false (.bool (ws.any badW))) else if i = 5 then some (.reads true (.bool (ns.any (badP ws.length)))) else none) [1, 2, 5, 6, 7, 66] [2, 5] ?_
        simp only [go_sem, reduceIte, reduceCtorEq, Nat.reduceAdd, Nat.reduceMul, Nat.reduceEqDiff, Nat.reduceLT, Nat.reduceLeDiff, Nat.reduceSub, Nat.reducePow, Nat.reduceBEq, Int.reduceToNat, List.reduceReplicate]
        repeat with_reducible refine cj ?_ ?_
        all_goals try first | (first | exact hctw | exact hctp) | (intros; (repeat' apply And.intro) <;> first | assumption | (first | exact hctw | exact hctp)) | omega | exact ent (by kernel_rfl) | (simp only [go_sem, reduceIte, reduceCtorEq, Nat.reduceAdd, Nat.reduceMul, Nat.reduceEqDiff, Nat.reduceLT, Nat.reduceLeDiff, Nat.reduceSub, Nat.reducePow, Nat.reduceBEq, Int.reduceToNat, List.reduceReplicate]; done) | (simp_all [go_sem]; done)
        refine hK11 _ _ _ ?_; clear hK11
        -- cond 4
        refine AW.cond rfl (by simp only [go_sem, reduceIte, reduceCtorEq, Nat.reduceAdd, Nat.reduceMul, Nat.reduceEqDiff, Nat.reduceLT, Nat.reduceLeDiff, Nat.reduceSub, Nat.reducePow, Nat.reduceBEq, Int.reduceToNat, List.reduceReplicate]) ?_ ?_
        · intro hb
          try simp only [hB, decide_eq_true_eq, decide_eq_false_iff_not] at hb
          obtain ⟨rfl, rfl, rfl, rfl⟩ := hM2 hz.1 hz.2 hb
          refine AW.seq fun K12 hK12 => ?_
          -- region 9
          refine AW.regionK 0 (fun i => if i = 1 then some (.reads false (.bool (decide ((0 : Int) = 0) && decide ((words []).length = 0)))) else none) [4] [] ?_
          simp only [go_sem, reduceIte, reduceCtorEq, Nat.reduceAdd, Nat.reduceMul, Nat.reduceEqDiff, Nat.reduceLT, Nat.reduceLeDiff, Nat.reduceSub, Nat.reducePow, Nat.reduceBEq, Int.reduceToNat, List.reduceReplicate]
          repeat with_reducible refine cj ?_ ?_
          all_goals try first | (exact hnone) | (intros; (repeat' apply And.intro) <;> first | assumption | (exact hnone)) | omega | exact ent (by kernel_rfl) | (simp only [go_sem, reduceIte, reduceCtorEq, Nat.reduceAdd, Nat.reduceMul, Nat.reduceEqDiff, Nat.reduceLT, Nat.reduceLeDiff, Nat.reduceSub, Nat.reducePow, Nat.reduceBEq, Int.reduceToNat, List.reduceReplicate]; done) | (simp_all [go_sem]; done)
          refine hK12 _ _ _ ?_; clear hK12
          refine AW.ret ?_
          rw [← hQr]
          simp only [go_sem, reduceIte, reduceCtorEq, Nat.reduceAdd, Nat.reduceMul, Nat.reduceEqDiff, Nat.reduceLT, Nat.reduceLeDiff, Nat.reduceSub, Nat.reducePow, Nat.reduceBEq, Int.reduceToNat, List.reduceReplicate]
          exact Wk.of_eq (by simp [words])
        · intro hb
          try simp only [hB, decide_eq_true_eq, decide_eq_false_iff_not] at hb
          obtain ⟨he0, hr1⟩ := hM3 hz.1 hz.2 hb.1 hb.2
          subst he0
          refine AW.skip ?_
          refine hK8 _ _ _ ?_; clear hK8
          refine AW.seq fun K13 hK13 => ?_
          -- region 10
          refine AW.regionK 0 (fun i => if i = 2 then some (.reads false (.tup [.agg [.int .i64 N, .rsl 1 (words W)], .int .i64 v])) else none) [5, 6, 7, 8, 9] [5, 8] ?_
          simp only [go_sem, reduceIte, reduceCtorEq, Nat.reduceAdd, Nat.reduceMul, Nat.reduceEqDiff, Nat.reduceLT, Nat.reduceLeDiff, Nat.reduceSub, Nat.reducePow, Nat.reduceBEq, Int.reduceToNat, List.reduceReplicate]
          repeat with_reducible refine cj ?_ ?_
          all_goals try first | (exact hr1) | omega | exact ent (by kernel_rfl)
          refine hK13 _ _ _ ?_; clear hK13
          refine AW.seq fun K14 hK14 => ?_
          -- region 11
          refine AW.regionK 0 (fun i => if i = 5 then some (.reads false (.bool (decide (N = N) && (W == W)))) else none) [4] [] ?_
          simp only [go_sem, reduceIte, reduceCtorEq, Nat.reduceAdd, Nat.reduceMul, Nat.reduceEqDiff, Nat.reduceLT, Nat.reduceLeDiff, Nat.reduceSub, Nat.reducePow, Nat.reduceBEq, Int.reduceToNat, List.reduceReplicate]
          repeat with_reducible refine cj ?_ ?_
          all_goals try first | (exact hsame) | (intros; (repeat' apply And.intro) <;> first | assumption | (exact hsame)) | omega | exact ent (by kernel_rfl) | (simp only [go_sem, reduceIte, reduceCtorEq, Nat.reduceAdd, Nat.reduceMul, Nat.reduceEqDiff, Nat.reduceLT, Nat.reduceLeDiff, Nat.reduceSub, Nat.reducePow, Nat.reduceBEq, Int.reduceToNat, List.reduceReplicate]; done) | (simp_all [go_sem]; done)
          refine hK14 _ _ _ ?_; clear hK14
          refine AW.ret ?_
          rw [← hQr]
          simp only [go_sem, reduceIte, reduceCtorEq, Nat.reduceAdd, Nat.reduceMul, Nat.reduceEqDiff, Nat.reduceLT, Nat.reduceLeDiff, Nat.reduceSub, Nat.reducePow, Nat.reduceBEq, Int.reduceToNat, List.reduceReplicate]
          exact Wk.of_eq (by simp)
end Go.Proofs.F
namespace Go.Proofs.F
open Go.AM Go
set_option maxRecDepth 100000
set_option maxHeartbeats 1000000
def openM (m : Nat) (p : Int × Int) : Bool := m.testBit p.1.toNat && !m.testBit p.2.toNat
theorem bit_at {m : Nat} (hm : m < 18446744073709551616) {i : Int} (h0 : 0 ≤ i) (h1 : i < 64) : bAnd .u64 (bShr .u64 (m : Int) i) 1 = if m.testBit i.toNat = true then 1 else 0 := by
  have := bitW_nat (m := m) (i := i.toNat) hm (by omega)
  rw [Int.toNat_of_nonneg h0] at this
  exact this
theorem opn_r (m : Nat) (hm : m < 18446744073709551616) (p : Int × Int) (h : 0 ≤ p.1 ∧ p.1 < 64 ∧ 0 ≤ p.2 ∧ p.2 < 64) : Reads Try.prog 29 false [.agg (pairV p), .rptr [.int .u64 m]] (.bool (openM m p)) := by
  have b1 := bit_at hm h.1 h.2.1
  have b2 := bit_at hm h.2.2.1 h.2.2.2
  unfold pairV
  refine Reads.body (rs := [.tmp 3]) Try.func29 rfl Try.ntmps29 rfl (by simp) ?_
  generalize hQr : retQ _ _ _ = Qr
  refine AW.seq fun K1 hK1 => ?_
  -- region 0
  refine AW.regionK 0 (fun _ => none) [1, 2] [2] ?_
  simp only [go_sem, reduceIte, reduceCtorEq, Nat.reduceAdd, Nat.reduceMul, Nat.reduceEqDiff, Nat.reduceLT, Nat.reduceLeDiff, Nat.reduceSub, Nat.reducePow, Nat.reduceBEq, Int.reduceToNat, List.reduceReplicate]
  repeat with_reducible refine cj ?_ ?_
  all_goals try first | omega
  refine hK1 _ _ _ ?_; clear hK1
  refine AW.seq fun K2 hK2 => ?_
  -- region 1
  refine AW.regionK 0 (fun _ => none) [3] [] ?_
  simp only [go_sem, reduceIte, reduceCtorEq, Nat.reduceAdd, Nat.reduceMul, Nat.reduceEqDiff, Nat.reduceLT, Nat.reduceLeDiff, Nat.reduceSub, Nat.reducePow, Nat.reduceBEq, Int.reduceToNat, List.reduceReplicate]
  repeat with_reducible refine cj ?_ ?_
  all_goals try first | omega | (simp only [go_sem, reduceIte, reduceCtorEq, Nat.reduceAdd, Nat.reduceMul, Nat.reduceEqDiff, Nat.reduceLT, Nat.reduceLeDiff, Nat.reduceSub, Nat.reducePow, Nat.reduceBEq, Int.reduceToNat, List.reduceReplicate]; done) | (simp_all [go_sem]; done)
  refine hK2 _ _ _ ?_; clear hK2
  refine AW.ret ?_
  rw [← hQr]
  simp only [go_sem, reduceIte, reduceCtorEq, Nat.reduceAdd, Nat.reduceMul, Nat.reduceEqDiff, Nat.reduceLT, Nat.reduceLeDiff, Nat.reduceSub, Nat.reducePow, Nat.reduceBEq, Int.reduceToNat, List.reduceReplicate]
  exact Wk.of_eq (by rw [b1, b2]; unfold openM; cases m.testBit p.1.toNat <;> cases m.testBit p.2.toNat <;> rfl)
theorem ixo_r (m : Nat) (hm : m < 18446744073709551616) (ns : List (Int × Int)) (hl2 : ns.length ≤ 9223372036854775807) (hn : ∀ p ∈ ns, 0 ≤ p.1 ∧ p.1 < 64 ∧ 0 ≤ p.2 ∧ p.2 < 64) : Reads Try.prog 48 false [.rsl 2 (ns.map pairV), .fn 29 [.rptr [.int .u64 m]]] (.int .i64 (ixf (openM m) ns)) := by
  have hbp := fun p hp => opn_r m hm p (hn p hp)
  refine Reads.body (rs := [.tmp 4]) Try.func48 rfl Try.ntmps48 rfl (by simp) ?_
  generalize hQr : retQ _ _ _ = Qr
  refine AW.seq fun K1 hK1 => ?_
  -- region 0
  refine AW.regionK 0 (fun _ => none) [0, 1] [] ?_
  simp only [go_sem, reduceIte, reduceCtorEq, Nat.reduceAdd, Nat.reduceMul, Nat.reduceEqDiff, Nat.reduceLT, Nat.reduceLeDiff, Nat.reduceSub, Nat.reducePow, Nat.reduceBEq, Int.reduceToNat, List.reduceReplicate]
  repeat with_reducible refine cj ?_ ?_
  all_goals try first | omega
  refine hK1 _ _ _ ?_; clear hK1
  refine AW.seq fun K2 hK2 => ?_
  refine AW.seq fun K3 hK3 => ?_
  -- region 1
  refine AW.regionK 0 (fun _ => none) [0, 1, 7, 8] [] ?_
  simp only [go_sem, reduceIte, reduceCtorEq, Nat.reduceAdd, Nat.reduceMul, Nat.reduceEqDiff, Nat.reduceLT, Nat.reduceLeDiff, Nat.reduceSub, Nat.reducePow, Nat.reduceBEq, Int.reduceToNat, List.reduceReplicate]
  repeat with_reducible refine cj ?_ ?_
  all_goals try first | omega
  refine hK3 _ _ _ ?_; clear hK3
  refine AW.block ?_
  -- loop 1
  refine AW.loopE (fun mm ee ss kk => ∃ (j : Nat), ns.length - j = mm ∧ ee = [(0, .rsl 2 (ns.map pairV)), (1, .fn 29 [.rptr [.int .u64 m]]), (7, .int .i64 ns.length), (8, .int .i64 (j : Nat))] ∧ ss = [] ∧ (j ≤ ns.length ∧ (ns.take j).any (openM m) = false)) ?_ ?_
  · refine ⟨_, 0, rfl, ?henv, ?hstore, ?hst⟩
    case henv =>
      repeat' (first | rfl | refine env_cons ?_ ?_ | refine st_cons ?_ ?_ ?_ ?_ | refine int_eq ?_ | refine bool_eq ?_ | refine rsl_eq ?_ | refine osl_eq ?_ | refine sl_eq ?_ ?_ ?_ | refine ptr_eq ?_ ?_ ?_ | refine agg_eq ?_ | refine es_cons ?_ ?_ | refine row_cons ?_ ?_)
      all_goals (first | (simp; done) | omega | (simp; omega))
    case hstore =>
      repeat' (first | rfl | refine env_cons ?_ ?_ | refine st_cons ?_ ?_ ?_ ?_ | refine int_eq ?_ | refine bool_eq ?_ | refine rsl_eq ?_ | refine osl_eq ?_ | refine sl_eq ?_ ?_ ?_ | refine ptr_eq ?_ ?_ ?_ | refine agg_eq ?_ | refine es_cons ?_ ?_ | refine row_cons ?_ ?_)
      all_goals (first | (simp; done) | omega | (simp; omega))
    case hst =>
      first | trivial | omega | (simp; done) | (simp; omega)
  rintro mm ee ss kk ⟨j, rfl, rfl, rfl, hI⟩
  generalize hQl1 : thenQ _ _ = Ql1
  obtain ⟨hj, hall⟩ := hI
  refine AW.seq fun K4 hK4 => ?_
  -- region 2
  refine AW.regionK 0 (fun _ => none) [0, 1, 7, 8, 9] [] ?_
  simp only [go_sem, reduceIte, reduceCtorEq, Nat.reduceAdd, Nat.reduceMul, Nat.reduceEqDiff, Nat.reduceLT, Nat.reduceLeDiff, Nat.reduceSub, Nat.reducePow, Nat.reduceBEq, Int.reduceToNat, List.reduceReplicate]
  repeat with_reducible refine cj ?_ ?_
  all_goals try first | omega
  refine hK4 _ _ _ ?_; clear hK4
  refine AW.seq fun K5 hK5 => ?_
  -- cond 1
  refine AW.cond rfl (by simp only [go_sem, reduceIte, reduceCtorEq, Nat.reduceAdd, Nat.reduceMul, Nat.reduceEqDiff, Nat.reduceLT, Nat.reduceLeDiff, Nat.reduceSub, Nat.reducePow, Nat.reduceBEq, Int.reduceToNat, List.reduceReplicate]) ?_ ?_
  · intro hb
    try simp only [hB, decide_eq_true_eq, decide_eq_false_iff_not] at hb
    obtain ⟨x, hx⟩ := getI (l := ns) (j := j) (by omega)
    have hgx := getV (f := pairV) hx
    have hats := any_take_succ (p := openM m) hx
    have hbx := hbp x (List.mem_of_getElem? hx)
    unfold pairV at hbx
    refine AW.skip ?_
    refine hK5 _ _ _ ?_; clear hK5
    refine AW.seq fun K6 hK6 => ?_
    refine AW.block ?_
    refine AW.seq fun K7 hK7 => ?_
    -- region 3
    refine AW.regionK 0 (fun _ => none) [0, 1, 5, 7, 8] [] ?_
    simp only [go_sem, reduceIte, reduceCtorEq, Nat.reduceAdd, Nat.reduceMul, Nat.reduceEqDiff, Nat.reduceLT, Nat.reduceLeDiff, Nat.reduceSub, Nat.reducePow, Nat.reduceBEq, Int.reduceToNat, List.reduceReplicate]
    repeat with_reducible refine cj ?_ ?_
    all_goals try first | omega
    refine hK7 _ _ _ ?_; clear hK7
    refine AW.seq fun K8 hK8 => ?_
    -- region 4
    refine AW.regionK 0 (fun i => if i = 5 then some (.reads false (.bool (openM m x))) else none) [0, 1, 5, 7, 8, 16] [] ?_
    simp only [go_sem, reduceIte, reduceCtorEq, Nat.reduceAdd, Nat.reduceMul, Nat.reduceEqDiff, Nat.reduceLT, Nat.reduceLeDiff, Nat.reduceSub, Nat.reducePow, Nat.reduceBEq, Int.reduceToNat, List.reduceReplicate, hgx, pairV]
    repeat with_reducible refine cj ?_ ?_
    all_goals try first | (exact hbx) | omega | exact ent (by kernel_rfl)
    refine hK8 _ _ _ ?_; clear hK8
    -- cond 2
    refine AW.cond rfl (by simp only [go_sem, reduceIte, reduceCtorEq, Nat.reduceAdd, Nat.reduceMul, Nat.reduceEqDiff, Nat.reduceLT, Nat.reduceLeDiff, Nat.reduceSub, Nat.reducePow, Nat.reduceBEq, Int.reduceToNat, List.reduceReplicate]) ?_ ?_
    · intro hb
      try simp only [hB, decide_eq_true_eq, decide_eq_false_iff_not] at hb
      refine AW.seq fun K9 hK9 => ?_
      -- region 5
      refine AW.regionK 0 (fun _ => none) [4] [] ?_
      simp only [go_sem, reduceIte, reduceCtorEq, Nat.reduceAdd, Nat.reduceMul, Nat.reduceEqDiff, Nat.reduceLT, Nat.reduceLeDiff, Nat.reduceSub, Nat.reducePow, Nat.reduceBEq, Int.reduceToNat, List.reduceReplicate]
      repeat with_reducible refine cj ?_ ?_
      all_goals try first | omega
      refine hK9 _ _ _ ?_; clear hK9
      refine AW.ret ?_
      rw [← hQl1]
      rw [← hQr]
      simp only [go_sem, reduceIte, reduceCtorEq, Nat.reduceAdd, Nat.reduceMul, Nat.reduceEqDiff, Nat.reduceLT, Nat.reduceLeDiff, Nat.reduceSub, Nat.reducePow, Nat.reduceBEq, Int.reduceToNat, List.reduceReplicate]
      exact Wk.of_eq (by rw [ixf_at hx hb hall])
    · intro hb
      try simp only [hB, decide_eq_true_eq, decide_eq_false_iff_not] at hb
      refine AW.skip ?_
      refine hK6 _ _ _ ?_; clear hK6
      -- region 6
      refine AW.regionK 0 (fun _ => none) [0, 1, 7, 8] [] ?_
      simp only [go_sem, reduceIte, reduceCtorEq, Nat.reduceAdd, Nat.reduceMul, Nat.reduceEqDiff, Nat.reduceLT, Nat.reduceLeDiff, Nat.reduceSub, Nat.reducePow, Nat.reduceBEq, Int.reduceToNat, List.reduceReplicate]
      repeat with_reducible refine cj ?_ ?_
      all_goals try first | omega
      rw [← hQl1]
      change Exists _
      refine ⟨_, ?hm, j + 1, rfl, ?henv, ?hstore, ?hst⟩
      case henv =>
        repeat' (first | rfl | refine env_cons ?_ ?_ | refine st_cons ?_ ?_ ?_ ?_ | refine int_eq ?_ | refine bool_eq ?_ | refine rsl_eq ?_ | refine osl_eq ?_ | refine sl_eq ?_ ?_ ?_ | refine ptr_eq ?_ ?_ ?_ | refine agg_eq ?_ | refine es_cons ?_ ?_ | refine row_cons ?_ ?_)
        all_goals (first | (simp; done) | omega | (simp; omega))
      case hstore =>
        repeat' (first | rfl | refine env_cons ?_ ?_ | refine st_cons ?_ ?_ ?_ ?_ | refine int_eq ?_ | refine bool_eq ?_ | refine rsl_eq ?_ | refine osl_eq ?_ | refine sl_eq ?_ ?_ ?_ | refine ptr_eq ?_ ?_ ?_ | refine agg_eq ?_ | refine es_cons ?_ ?_ | refine row_cons ?_ ?_)
        all_goals (first | (simp; done) | omega | (simp; omega))
      case hst =>
        exact ⟨by omega, by rw [hats, hall, hb]; rfl⟩
      case hm => omega
  · intro hb
    try simp only [hB, decide_eq_true_eq, decide_eq_false_iff_not] at hb
    refine AW.keep [] [] ?_
    try simp only [go_sem, reduceIte, reduceCtorEq, Nat.reduceAdd, Nat.reduceMul, Nat.reduceEqDiff, Nat.reduceLT, Nat.reduceLeDiff, Nat.reduceSub, Nat.reducePow, Nat.reduceBEq, Int.reduceToNat, List.reduceReplicate]
    refine AW.exit ?_
    rw [← hQl1]
    refine hK2 _ _ _ ?_; clear hK2
    refine AW.seq fun K10 hK10 => ?_
    -- region 7
    refine AW.regionK 0 (fun _ => none) [4] [] ?_
    simp only [go_sem, reduceIte, reduceCtorEq, Nat.reduceAdd, Nat.reduceMul, Nat.reduceEqDiff, Nat.reduceLT, Nat.reduceLeDiff, Nat.reduceSub, Nat.reducePow, Nat.reduceBEq, Int.reduceToNat, List.reduceReplicate]
    repeat with_reducible refine cj ?_ ?_
    all_goals try first | omega
    refine hK10 _ _ _ ?_; clear hK10
    refine AW.ret ?_
    rw [← hQr]
    simp only [go_sem, reduceIte, reduceCtorEq, Nat.reduceAdd, Nat.reduceMul, Nat.reduceEqDiff, Nat.reduceLT, Nat.reduceLeDiff, Nat.reduceSub, Nat.reducePow, Nat.reduceBEq, Int.reduceToNat, List.reduceReplicate]
    exact Wk.of_eq (by rw [List.take_of_length_le (by omega)] at hall; rw [ixf_none hall])
theorem cto_r (m : Nat) (hm : m < 18446744073709551616) (ns : List (Int × Int)) (hl2 : ns.length ≤ 9223372036854775807) (hn : ∀ p ∈ ns, 0 ≤ p.1 ∧ p.1 < 64 ∧ 0 ≤ p.2 ∧ p.2 < 64) : Reads Try.prog 26 false [.rsl 2 (ns.map pairV), .fn 29 [.rptr [.int .u64 m]]] (.bool (ns.any (openM m))) := by
  have h := ixo_r m hm ns hl2 hn
  have hge := ixf_ge (openM m) ns
  refine Reads.body (rs := [.tmp 4]) Try.func26 rfl Try.ntmps26 rfl (by simp) ?_
  generalize hQr : retQ _ _ _ = Qr
  refine AW.seq fun K1 hK1 => ?_
  -- region 0
  refine AW.regionK 0 (fun _ => none) [0, 1] [] ?_
  simp only [go_sem, reduceIte, reduceCtorEq, Nat.reduceAdd, Nat.reduceMul, Nat.reduceEqDiff, Nat.reduceLT, Nat.reduceLeDiff, Nat.reduceSub, Nat.reducePow, Nat.reduceBEq, Int.reduceToNat, List.reduceReplicate]
  repeat with_reducible refine cj ?_ ?_
  all_goals try first | omega
  refine hK1 _ _ _ ?_; clear hK1
  refine AW.seq fun K2 hK2 => ?_
  -- region 1
  refine AW.regionK 0 (fun i => if i = 2 then some (.reads false (.int .i64 (ixf (openM m) ns))) else none) [4] [] ?_
  simp only [go_sem, reduceIte, reduceCtorEq, Nat.reduceAdd, Nat.reduceMul, Nat.reduceEqDiff, Nat.reduceLT, Nat.reduceLeDiff, Nat.reduceSub, Nat.reducePow, Nat.reduceBEq, Int.reduceToNat, List.reduceReplicate]
  repeat with_reducible refine cj ?_ ?_
  all_goals try first | (exact h) | omega | exact ent (by kernel_rfl)
  refine hK2 _ _ _ ?_; clear hK2
  refine AW.ret ?_
  rw [← hQr]
  simp only [go_sem, reduceIte, reduceCtorEq, Nat.reduceAdd, Nat.reduceMul, Nat.reduceEqDiff, Nat.reduceLT, Nat.reduceLeDiff, Nat.reduceSub, Nat.reducePow, Nat.reduceBEq, Int.reduceToNat, List.reduceReplicate]
  exact Wk.of_eq (by rw [hge])
theorem clo_bit (ws : List Int) (ns : List (Int × Int)) (h0 : 1 ≤ ws.length) (h1 : ws.length ≤ 12) (h2 : ns.length ≤ 80) (hw : ∀ w ∈ ws, -1073741824 ≤ w ∧ w ≤ 1073741824) (hn : ∀ p ∈ ns, 0 ≤ p.1 ∧ p.1 < ws.length ∧ 0 ≤ p.2 ∧ p.2 < ws.length) : ∃ X : Nat,
    Reads Try.prog 23 false [.rsl 1 (ints ws), .rsl 2 (ns.map pairV)] (.tup [.agg [.int .i64 ws.length, .rsl 1 (words [(X : Int)])], .int .i64 (sumM ws X ws.length), .int .i64 0]) ∧ X < 2 ^ ws.length ∧ ns.any (openM X) = false ∧
    ∀ m : Nat, ns.any (openM m) = false → sumM ws m ws.length ≤ sumM ws X ws.length ∧ (sumM ws m ws.length = sumM ws X ws.length → ∀ i, i < ws.length → X.testBit i = true → m.testBit i = true) := by
  obtain ⟨hv1, hv2, hbig⟩ := cNet_valid (by omega) (by omega) hw hn
  have hN1 : (cNet ws ns).N = ws.length + 2 := rfl
  have he1 : endsB (cNet ws ns) ws.length (ws.length + 1) = true := by simp [endsB, hN1]; omega
  obtain ⟨F, A', v', pr', k1, ⟨fl, k2, k3, k4, k5⟩, k6, k7⟩ := fill_total hv1 he1 9223372036854775808 _ _ (fill_start (s := ws.length) (t := ws.length + 1) hv1) (by decide)
  obtain ⟨hpl, hnear⟩ := near_prog hv1 (by omega) (by omega) k2.caps k3 k6
  have hclo := clo_r ws ns (by omega) (by omega) hw hn hv1 _ (fill_ok hv1 he1) (fill_start hv1) F A' v' pr' k1 hpl
  obtain ⟨b, hb⟩ : ∃ b : List Bool, b = (List.range ws.length).map fun i => decide (pr'.getD i 0 ≠ -1) := ⟨_, rfl⟩
  have hbl : b.length = ws.length := by rw [hb]; simp
  have hbg : ∀ i : Nat, i < ws.length → b.getD i false = decide (pr'.getD i 0 ≠ -1) := fun i hi => by
    rw [hb, List.getD_eq_getElem?_getD, List.getElem?_map, List.getElem?_range hi]; rfl
  have hiff : ∀ i, i < ws.length → (pr'.getD i 0 ≠ -1 ↔ b.getD i false = true) := fun i hi => by rw [hbg i hi]; simp
  rw [ofW_setW hbl hiff, sum_memb ws.length hiff] at hclo
  obtain ⟨X, x1, x2, x3⟩ := setW_mask (b := b) (by omega) (by omega)
  obtain ⟨m1, m2⟩ := clo_most hv1 hbig hn k2 hnear (by simp only [decide_eq_false_iff_not, ne_eq, Decidable.not_not]; exact k7) (b := b) fun i hi => by rw [hbg i hi]; simp
  rw [hbl] at x1 x2 x3
  rw [x1, ← sumM_B (m := X) ws.length x3] at hclo
  rw [← sumM_B (m := X) ws.length x3] at m2
  have ho : ∀ m : Nat, ns.any (openM m) = false ↔ ∀ p ∈ ns, m.testBit p.1.toNat = true → m.testBit p.2.toNat = true := fun m => by
    simp only [List.any_eq_false, openM, Bool.and_eq_true, Bool.not_eq_true', not_and, Bool.not_eq_false]
  refine ⟨X, hclo, x2, (ho X).2 fun p hp h => ?_, fun m hm => ?_⟩
  · have := hn p hp
    rw [x3 _ (by omega)] at h ⊢
    exact m1 p hp h
  · obtain ⟨g1, g2⟩ := m2 m ((ho m).1 hm)
    exact ⟨g1, fun e i hi h => g2 e i hi (by rw [← x3 i hi]; exact h)⟩
end Go.Proofs.F
/- A maximal flow and the nearest cut prove each other. -/
namespace Go.AM
theorem shr_zero {w k : Nat} (h : ∀ i, k ≤ i → w.testBit i = false) : w >>> k = 0 := by
  refine Nat.eq_of_testBit_eq fun i => ?_
  rw [Nat.testBit_shiftRight, Nat.zero_testBit]
  exact h _ (by omega)
theorem validS_setW {b : List Bool} (hb : b.length ≤ 512) : validS b.length (setW b b.length) = true := by
  obtain ⟨ho, hh⟩ := setW_hasA b b.length (Nat.le_refl _)
  have hwn := wordsN_rng (n := (b.length : Int)) (by omega)
  have hl := setW_len b b.length
  simp only [validS, Bool.and_eq_true, decide_eq_true_eq]
  refine ⟨⟨⟨by omega, by omega⟩, by rw [hl]; omega⟩, ?_⟩
  simp only [topB, Bool.or_eq_true, decide_eq_true_eq]
  by_cases hm : (b.length : Int).tmod 64 = 0
  · exact .inl hm
  · right
    have hix := top_ix (N := (b.length : Int)) (W := setW b b.length) (by omega) (by rw [hl]; omega) hm
    rw [Int.tmod_eq_emod_of_nonneg (by omega)] at hm ⊢
    rw [Int.tdiv_eq_ediv_of_nonneg (by omega)] at hix
    generalize hW : setW b b.length = W at *
    have hw := ho (W.length - 1)
    obtain ⟨w, hw1⟩ : ∃ w : Nat, W.getD (W.length - 1) 0 = w := ⟨_, (Int.toNat_of_nonneg hw.1).symm⟩
    rw [hw1] at hw ⊢
    rw [show ((b.length : Int) % 64) = ((b.length % 64 : Nat) : Int) by omega, bShr_nat (Nat.mod_lt _ (by decide)), shr_zero]
    · rfl
    · intro i hi
      by_cases h64 : i < 64
      · have hq : (((64 * (W.length - 1) + i : Nat) : Int).tdiv 64).toNat = W.length - 1 := by rw [Int.tdiv_eq_ediv_of_nonneg (by omega)]; omega
        have := hh (64 * (W.length - 1) + i) (by rw [hq]; omega)
        rw [hasW_bit (by omega) (by rw [hq, hw1]; omega), hq, hw1, Int.toNat_natCast, Int.toNat_natCast, show (64 * (W.length - 1) + i) % 64 = i by omega] at this
        rw [this]
        have : ¬ 64 * (W.length - 1) + i < b.length := by omega
        simp [this]
      · refine Nat.testBit_lt_two_pow (Nat.lt_of_lt_of_le (m := 2 ^ 64) (by simp only [Nat.reducePow]; omega) (Nat.pow_le_pow_right (by decide) (by omega)))
def bitS (m : Nat) (u : Int) : Bool := m.testBit u.toNat
theorem mask_sub {m x n : Nat} (hx : x < 2 ^ n) (h : ∀ i, i < n → x.testBit i = true → m.testBit i = true) : m &&& x = x := by
  refine Nat.eq_of_testBit_eq fun i => ?_
  rw [Nat.testBit_and]
  by_cases hi : i < n
  · cases hb : x.testBit i with
    | true => rw [h i hi hb]; rfl
    | false => simp
  · rw [Nat.testBit_lt_two_pow (Nat.lt_of_lt_of_le hx (Nat.pow_le_pow_right (by decide) (by omega)))]; simp
/-- The nearest cut against all cuts. -/
theorem dual_min {n : Net} {s t : Int} {fl : List Int} {b : List Bool} {X : Nat} (hv : validB n = true) (he : endsB n s t = true) (hf : IsFlow n s t fl) (hN : n.N ≤ 63) (hb : b.length = n.N.toNat)
    (hX : X < 2 ^ b.length) (hXb : ∀ i, i < b.length → X.testBit i = b.getD i false) (hS : Near n s fl (fun u => b.getD u.toNat false)) (hSt : b.getD t.toNat false = false) (m : Nat) (hs : m.testBit s.toNat = true) (ht : m.testBit t.toNat = false) :
    bal n fl s ≤ capAt n.E (bitS m) n.E.length ∧ (capAt n.E (bitS m) n.E.length = bal n fl s → m &&& X = X) := by
  have hends : 0 ≤ s ∧ s < n.N ∧ 0 ≤ t ∧ t < n.N := by simp [endsB] at he; omega
  have hval := near_val hv hends.1 hends.2.1 hf hS hSt
  have hm := near_min hv hends.1 hends.2.1 hf hS hSt (T := bitS m) hs ht
  rw [← hval] at hm
  refine ⟨hm.1, fun h => mask_sub hX fun i hi hxi => ?_⟩
  have := hm.2 (by omega) (i : Int) (by omega) (by omega) (by rw [hXb i hi] at hxi; simpa using hxi)
  simpa [bitS] using this
end Go.AM
/- Arguments that are read as data, as pure trees. -/
namespace Go.AM

inductive F2 {α β : Type} (R : α → β → Prop) : List α → List β → Prop
  | nil : F2 R [] []
  | cons {a b l r} (h : R a b) (t : F2 R l r) : F2 R (a :: l) (b :: r)

/-- The shape of a type's cells. -/
def Fit (P : Program) : Nat → TypeId → List AV → Prop
  | 0, _, _ => False
  | f + 1, t, avs => match P.underlying t with
    | some .bool => ∃ b, avs = [.bool b]
    | some (.int k) => ∃ n, avs = [.int k n] ∧ k.min ≤ n ∧ n ≤ k.max
    | some .string => ∃ s, avs = [.str s]
    | some (.slice e) => P.cellsOf e = 0 ∨ ∃ es, avs = [.rsl (P.cellsOf e) es] ∧ es.length ≤ maxLen ∧ ∀ x ∈ es, x.length = P.cellsOf e ∧ Fit P f e x
    | some (.struct fs) => ∃ parts : List (List AV), avs = parts.flatten ∧ F2 (fun (fl : Field) p => p.length = P.cellsOf fl.type ∧ Fit P f fl.type p) fs.toList parts
    | some (.array n e) => ∃ parts : List (List AV), avs = parts.flatten ∧ parts.length = n ∧ ∀ p ∈ parts, p.length = P.cellsOf e ∧ Fit P f e p
    | _ => True

abbrev immW (w : World) : Nat → Prop := immF w fun _ => False
def Match (w : World) (avs : List AV) (cs : List Value) : Prop := avs.length = cs.length ∧ ∀ i, i < avs.length → RelP (immW w) w (avs.getD i .any) (cs.getD i undef)

theorem Match.append {w : World} {a a' : List AV} {c c' : List Value} (h : Match w a c) (h' : Match w a' c') : Match w (a ++ a') (c ++ c') := by
  obtain ⟨h1, h2⟩ := h
  obtain ⟨k1, k2⟩ := h'
  refine ⟨by simp [h1, k1], fun i hi => ?_⟩
  rw [getD_append, getD_append, ← h1]
  by_cases hlt : i < a.length
  · rw [if_pos hlt, if_pos hlt]; exact h2 i hlt
  · rw [if_neg hlt, if_neg hlt]
    exact k2 _ (by simp at hi; omega)
theorem Match.one {w : World} {a : AV} {u : Value} (h : RelP (immW w) w a u) : Match w [a] [u] := ⟨rfl, fun i hi => by
  match i, hi with
  | 0, _ => exact h⟩

theorem mapM_some {α β : Type} {f : α → Option β} : ∀ {l : List α} {r : List β}, l.mapM f = some r → F2 (fun a b => f a = some b) l r
  | [], r, h => by
    simp only [List.mapM_nil, Option.pure_def, Option.some.injEq] at h
    subst h; exact .nil
  | a :: l, r, h => by
    rw [List.mapM_cons] at h
    cases ha : f a with
    | none => simp [ha] at h
    | some b =>
      cases hl : l.mapM f with
      | none => simp [ha, hl] at h
      | some r' =>
        simp [ha, hl] at h
        subst h
        exact .cons ha (mapM_some hl)

theorem range_mapM {β : Type} {f : Nat → Option β} {n : Nat} {r : List β} (h : (List.range n).mapM f = some r) : r.length = n ∧ ∀ i, i < n → ∃ b, r[i]? = some b ∧ f i = some b := by
  have h2 := mapM_some h
  have key : ∀ {l : List Nat} {r : List β}, F2 (fun a b => f a = some b) l r → r.length = l.length ∧ ∀ (i a : Nat), l[i]? = some a → ∃ b, r[i]? = some b ∧ f a = some b := by
    intro l r h
    induction h with
    | nil => exact ⟨rfl, by simp⟩
    | cons h t ih =>
      refine ⟨by simp [ih.1], fun i a ha => ?_⟩
      cases i with
      | zero => simp only [List.getElem?_cons_zero, Option.some.injEq] at ha; subst ha; exact ⟨_, rfl, h⟩
      | succ i => simpa using ih.2 i a (by simpa using ha)
  obtain ⟨k1, k2⟩ := key h2
  refine ⟨by simpa using k1, fun i hi => k2 i i (by simp [hi])⟩

theorem cells?_spec {w : World} {a : Addr} {n : Nat} {cs : List Value} (h : w.cells? 0 a n = some cs) : cs.length = n ∧ ∀ j, j < n → w.cell? (a.add j) = some (cs.getD j undef) := by
  simp only [World.cells?, Nat.zero_le, if_true] at h
  obtain ⟨h1, h2⟩ := range_mapM h
  refine ⟨h1, fun j hj => ?_⟩
  obtain ⟨b, e1, e2⟩ := h2 j hj
  rw [e2, List.getD_eq_getElem?_getD, e1]; rfl

theorem cell?_spot {w : World} {a : Addr} {v : Value} (h : w.cell? a = some v) : a.spot = none ∧ a.block < w.heap.size := by
  unfold World.cell? at h
  split at h
  · rename_i c _ _ hh
    split at h
    · cases h
    · rename_i hs
      exact ⟨by simpa using hs, heap_lt hh⟩
  · cases h

theorem chunks_struct {P : Program} (cs : List Value) : ∀ (fs : List Field) (o : Nat), (∀ (j : Nat) f, fs[j]? = some f → f.offset = o + ((fs.take j).map fun f => P.cellsOf f.type).sum) →
    (fs.map fun f => (cs.drop f.offset).take (P.cellsOf f.type)).flatten = (cs.drop o).take ((fs.map fun f => P.cellsOf f.type).sum)
  | [], o, _ => by simp
  | f :: fs, o, h => by
    have h0 := h 0 f rfl
    simp at h0
    have ih := chunks_struct (P := P) cs fs (o + P.cellsOf f.type) fun j g hj => by
      have := h (j + 1) g (by simpa using hj)
      rw [this]
      simp [Nat.add_assoc]
    simp only [List.map_cons, List.flatten_cons, List.sum_cons, ih, h0]
    rw [List.take_add, List.drop_drop]

theorem chunks_array (cs : List Value) (m : Nat) : ∀ n, ((List.range n).map fun i => (cs.drop (i * m)).take m).flatten = cs.take (n * m)
  | 0 => by simp
  | n + 1 => by
    rw [List.range_succ, List.map_append, List.flatten_append, chunks_array cs m n, Nat.succ_mul, List.take_add]
    simp

theorem match_flatten {α : Type} {w : World} {g : α → List Value} {p : α → List AV → Prop} : ∀ {l : List α} {parts : List (List AV)}, F2 (fun a x => p a x ∧ Match w x (g a)) l parts → Match w parts.flatten (l.map g).flatten
  | _, _, .nil => ⟨rfl, by simp⟩
  | _, _, .cons h t => by
    simp only [List.flatten_cons, List.map_cons]
    exact h.2.append (match_flatten t)

theorem forall2_choose {α β γ : Type} {R : α → β → Prop} {S : α → γ → Prop} (h : ∀ a b, R a b → ∃ c, S a c) : ∀ {l : List α} {r : List β}, F2 R l r → ∃ m, F2 S l m
  | _, _, .nil => ⟨[], .nil⟩
  | _, _, .cons h1 t => by
    obtain ⟨c, hc⟩ := h _ _ h1
    obtain ⟨m, hm⟩ := forall2_choose h t
    exact ⟨c :: m, .cons hc hm⟩
theorem forall2_imp {α β : Type} {R S : α → β → Prop} (h : ∀ a b, R a b → S a b) : ∀ {l : List α} {r : List β}, F2 R l r → F2 S l r
  | _, _, .nil => .nil
  | _, _, .cons h1 t => .cons (h _ _ h1) (forall2_imp h t)
theorem forall2_len {α β : Type} {R : α → β → Prop} : ∀ {l : List α} {r : List β}, F2 R l r → l.length = r.length
  | _, _, .nil => rfl
  | _, _, .cons _ t => by simp [forall2_len t]
theorem forall2_right {α β : Type} {R : α → β → Prop} {Q : β → Prop} (h : ∀ a b, R a b → Q b) : ∀ {l : List α} {r : List β}, F2 R l r → ∀ b ∈ r, Q b
  | _, _, .nil, b, hb => by cases hb
  | _, _, .cons h1 t, b, hb => by
    rcases List.mem_cons.1 hb with rfl | hb
    · exact h _ _ h1
    · exact forall2_right h t b hb

theorem fit_of_trod {H : Type} {enc : TypeId × Value → H} {P : Program} {w : World} (hl : laidOutB P = true) : ∀ (n : Nat) (t : TypeId) (cs : List Value) (x : DataW H × List MemPlace), t < P.types.size →
    DataW.trod enc P w 0 (fun _ => true) true n t cs = some x → ∃ avs, Fit P n t avs ∧ Match w avs cs := by
  intro n
  induction n with
  | zero => intro t cs x _ h; simp [DataW.trod] at h
  | succ n ih =>
    intro t cs x ht h
    have hany : (match P.underlying t with | some .bool | some (.int _) | some .string | some (.slice _) | some (.struct _) | some (.array _ _) => False | _ => True) → ∃ avs, Fit P (n + 1) t avs ∧ Match w avs cs := fun hh => by
      refine ⟨List.replicate cs.length .any, ?_, by simp, fun i hi => ?_⟩
      · unfold Fit
        split <;> simp_all
      · have : (List.replicate cs.length AV.any).getD i .any = .any := by
          simp only [List.getD_eq_getElem?_getD]
          cases h : (List.replicate cs.length AV.any)[i]? with
          | none => rfl
          | some y => simp [List.getElem?_replicate] at h; simp [h.2]
        rw [this]; exact .any _
    by_cases hh : (match P.underlying t with | some .bool | some (.int _) | some .string | some (.slice _) | some (.struct _) | some (.array _ _) => False | _ => True)
    · exact hany hh
    cases hu : P.underlying t with
    | none => exact absurd (by rw [hu]; trivial) hh
    | some d =>
      rw [hu] at hh
      cases d <;> first | exact absurd trivial hh | skip
      case bool =>
        unfold DataW.trod at h
        rw [hu] at h
        rcases cs with _ | ⟨c, _ | ⟨c2, rest⟩⟩ <;> (try cases c) <;> simp at h
        exact ⟨[.bool _], by unfold Fit; rw [hu]; exact ⟨_, rfl⟩, .one (.bool _)⟩
      case int k =>
        unfold DataW.trod at h
        rw [hu] at h
        rcases cs with _ | ⟨c, _ | ⟨c2, rest⟩⟩ <;> (try cases c) <;> simp at h
        rename_i k' m
        obtain ⟨⟨rfl, h1⟩, _⟩ := h
        exact ⟨[.int k' m], by unfold Fit; rw [hu]; exact ⟨_, rfl, by simpa [Lit.wf] using h1⟩, .one (.int _ _)⟩
      case string =>
        unfold DataW.trod at h
        rw [hu] at h
        rcases cs with _ | ⟨c, _ | ⟨c2, rest⟩⟩ <;> (try cases c) <;> simp at h
        exact ⟨[.str _], by unfold Fit; rw [hu]; exact ⟨_, rfl⟩, .one (.str _)⟩
      case slice e =>
        have he := kid_slice hl ht hu
        unfold DataW.trod at h
        rw [hu] at h
        have hbad : ∀ c c2 rest, cs ≠ c :: c2 :: rest := fun c c2 rest e => by subst e; cases c <;> simp at h
        rcases cs with _ | ⟨c, _ | ⟨c2, rest⟩⟩
        · simp at h
        rotate_left
        · exact absurd rfl (hbad _ _ _)
        cases c <;> first | (simp at h; done) | skip
        rename_i a len cap
        cases a with
        | none =>
          rcases len with _ | len <;> rcases cap with _ | cap <;> first | (simp at h; done) | skip
          exact ⟨[.rsl (P.cellsOf e) []], by unfold Fit; rw [hu]; exact .inr ⟨[], rfl, by simp, by simp⟩, .one (.rnil _ _ _)⟩
        | some a =>
          dsimp only at h
          split at h
          · rename_i hb
            cases hm : (List.range len).mapM (fun i => (w.cells? 0 (a.add (i * P.cellsOf e)) (P.cellsOf e)).bind (DataW.trod enc P w 0 (fun _ => true) true n e)) with
            | none => rw [hm] at h; simp at h
            | some elems =>
              obtain ⟨k1, k2⟩ := range_mapM hm
              have k3 : ∀ i, i < len → ∃ avs cs', w.cells? 0 (a.add (i * P.cellsOf e)) (P.cellsOf e) = some cs' ∧ Fit P n e avs ∧ Match w avs cs' := fun i hi => by
                obtain ⟨b, _, e2⟩ := k2 i hi
                cases hc : w.cells? 0 (a.add (i * P.cellsOf e)) (P.cellsOf e) with
                | none => rw [hc] at e2; simp at e2
                | some cs' =>
                  rw [hc] at e2
                  obtain ⟨avs, h1, h2⟩ := ih e cs' b he e2
                  exact ⟨avs, cs', rfl, h1, h2⟩
              classical
              let F : Nat → List AV := fun i => if hi : i < len then Classical.choose (k3 i hi) else []
              let es := (List.range len).map F
              have hlen : es.length = len := by simp [es]
              have hget : ∀ i, i < len → es.getD i [] = F i := fun i hi => by simp [es, List.getD_eq_getElem?_getD, hi]
              have hF : ∀ i, i < len → ∃ cs', w.cells? 0 (a.add (i * P.cellsOf e)) (P.cellsOf e) = some cs' ∧ Fit P n e (F i) ∧ Match w (F i) cs' := fun i hi => by
                have := Classical.choose_spec (k3 i hi)
                simp only [F, dif_pos hi]
                exact this
              have hes : ∀ x ∈ es, x.length = P.cellsOf e ∧ Fit P n e x := fun x hx => by
                simp only [es, List.mem_map, List.mem_range] at hx
                obtain ⟨i, hi, rfl⟩ := hx
                obtain ⟨cs', h1, h2, h3⟩ := hF i hi
                exact ⟨h3.1.trans (cells?_spec h1).1, h2⟩
              rcases Nat.eq_zero_or_pos (P.cellsOf e) with hz | hz
              · exact ⟨[.any], by unfold Fit; rw [hu]; exact .inl hz, .one (.any _)⟩
              refine ⟨[.rsl (P.cellsOf e) es], by unfold Fit; rw [hu]; exact .inr ⟨es, rfl, by rw [hlen]; omega, hes⟩, .one ?_⟩
              rcases Nat.eq_zero_or_pos len with h0 | h0
              · have : es = [] := List.length_eq_zero_iff.1 (by omega)
                rw [this, h0]; exact .rnil _ _ _
              · have hcell : ∀ i j, i < len → j < P.cellsOf e → ∃ v, w.cell? ((a.add (i * P.cellsOf e)).add j) = some v ∧ RelP (immW w) w ((es.getD i []).getD j .any) v := fun i j hi hj => by
                  obtain ⟨cs', h1, h2, h3⟩ := hF i hi
                  obtain ⟨g1, g2⟩ := cells?_spec h1
                  refine ⟨_, g2 j hj, ?_⟩
                  rw [hget i hi]
                  exact h3.2 j (by rw [h3.1, g1]; exact hj)
                obtain ⟨v0, g1, _⟩ := hcell 0 0 h0 hz
                simp only [Nat.zero_mul, Addr.add, if_true] at g1
                obtain ⟨hs, hblk⟩ := cell?_spot g1
                obtain ⟨b, off, sp⟩ := a
                simp only at hs
                subst hs
                have hadd : ∀ i j, ((⟨b, off, none⟩ : Addr).add (i * P.cellsOf e)).add j = ⟨b, off + i * P.cellsOf e + j, none⟩ := fun i j => by
                  simp only [Addr.add]
                  split <;> split <;> simp_all
                rw [← hlen]
                refine .rsl _ es b off cap (fun i j => (w.cell? ⟨b, off + i * P.cellsOf e + j, none⟩).getD undef) (by omega) ⟨hblk, fun h => h⟩ (fun x hx => (hes x hx).1) (fun i j hi hj => ?_) (fun i j hi hj => ?_)
                · obtain ⟨v, e1, _⟩ := hcell i j (by omega) hj
                  rw [hadd] at e1
                  simp [e1]
                · obtain ⟨v, e1, e2⟩ := hcell i j (by omega) hj
                  rw [hadd] at e1
                  simpa [e1] using e2
          · cases h
      case struct fs =>
        obtain ⟨hk1, hk2, hk3⟩ := kid_struct hl ht hu
        unfold DataW.trod at h
        rw [hu] at h
        dsimp only at h
        split at h
        · rename_i hlen
          cases hm : (fs.toList.mapM fun f => DataW.trod enc P w 0 (fun _ => true) true n f.type ((cs.drop f.offset).take (P.cellsOf f.type))) with
          | none => rw [hm] at h; simp at h
          | some xs =>
            have h2 := mapM_some hm
            have h3 : ∃ parts : List (List AV), F2 (fun (fl : Field) p => (p.length = P.cellsOf fl.type ∧ Fit P n fl.type p) ∧ Match w p ((cs.drop fl.offset).take (P.cellsOf fl.type))) fs.toList parts := by
              have hall : ∀ f ∈ fs.toList, f.type < P.types.size ∧ f.offset + P.cellsOf f.type ≤ cs.length := fun f hf => by
                refine ⟨hk1 f hf, ?_⟩
                obtain ⟨j, hj, rfl⟩ := List.mem_iff_getElem.1 hf
                have h5 := hk3 j fs.toList[j] (List.getElem?_eq_getElem hj)
                rw [h5, hlen, hk2]
                have h6 : (fs.toList.map fun f => P.cellsOf f.type).sum = ((fs.toList.take j).map fun f => P.cellsOf f.type).sum + ((fs.toList.drop j).map fun f => P.cellsOf f.type).sum := by
                  rw [← List.sum_append, ← List.map_append, List.take_append_drop]
                rw [h6, List.drop_eq_getElem_cons hj]
                simp
              clear hm h hk1 hk2 hk3
              generalize fs.toList = l at h2 hall
              induction h2 with
              | nil => exact ⟨[], .nil⟩
              | cons h1 t ih2 =>
                rename_i f y l' r'
                obtain ⟨parts, hp⟩ := ih2 fun f hf => hall f (List.mem_cons_of_mem _ hf)
                obtain ⟨g1, g2⟩ := hall f (List.mem_cons_self ..)
                obtain ⟨avs, k1, k2⟩ := ih _ _ _ g1 h1
                exact ⟨avs :: parts, .cons ⟨⟨by rw [k2.1]; simp; omega, k1⟩, k2⟩ hp⟩
            obtain ⟨parts, hp⟩ := h3
            refine ⟨parts.flatten, by unfold Fit; rw [hu]; exact ⟨parts, rfl, forall2_imp (fun _ _ h => h.1) hp⟩, ?_⟩
            have h4 := match_flatten hp
            rw [chunks_struct cs fs.toList 0 (fun j f hj => by simpa using hk3 j f hj)] at h4
            rw [← hk2, ← hlen] at h4
            simpa using h4
        · cases h
      case array m e =>
        obtain ⟨he, hsz⟩ := kid_array hl ht hu
        unfold DataW.trod at h
        rw [hu] at h
        dsimp only at h
        split at h
        · rename_i hlen
          cases hm : ((List.range m).mapM fun i => DataW.trod enc P w 0 (fun _ => true) true n e ((cs.drop (i * P.cellsOf e)).take (P.cellsOf e))) with
          | none => rw [hm] at h; simp at h
          | some xs =>
            have h2 := mapM_some hm
            have h3 : ∃ parts : List (List AV), F2 (fun (i : Nat) p => (p.length = P.cellsOf e ∧ Fit P n e p) ∧ Match w p ((cs.drop (i * P.cellsOf e)).take (P.cellsOf e))) (List.range m) parts := by
              have hall : ∀ i ∈ List.range m, (i + 1) * P.cellsOf e ≤ cs.length := fun i hi => by
                rw [hlen, hsz]
                exact Nat.mul_le_mul_right _ (by have := List.mem_range.1 hi; omega)
              clear hm h hsz
              generalize List.range m = l at h2 hall
              induction h2 with
              | nil => exact ⟨[], .nil⟩
              | cons h1 t ih2 =>
                rename_i i y l' r'
                obtain ⟨parts, hp⟩ := ih2 fun f hf => hall f (List.mem_cons_of_mem _ hf)
                have g2 := hall i (List.mem_cons_self ..)
                obtain ⟨avs, k1, k2⟩ := ih _ _ _ he h1
                rw [Nat.succ_mul] at g2
                exact ⟨avs :: parts, .cons ⟨⟨by rw [k2.1]; simp; omega, k1⟩, k2⟩ hp⟩
            obtain ⟨parts, hp⟩ := h3
            refine ⟨parts.flatten, by unfold Fit; rw [hu]; exact ⟨parts, rfl, by have := forall2_len hp; simpa using this.symm, forall2_right (fun _ _ h => h.1) hp⟩, ?_⟩
            have h4 := match_flatten (g := fun i => (cs.drop (i * P.cellsOf e)).take (P.cellsOf e)) hp
            rw [chunks_array, ← hsz, ← hlen] at h4
            simpa using h4
        · cases h

end Go.AM
