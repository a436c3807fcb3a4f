/- Lemmas and contracts, part 8: an abstract machine over the model, and the functions that the statement reaches. -/
import Derived.Test.YtppocnbagombeaaGreatDoorBirkhoffLatticesP7
import Derived.MakeChecks
import Derived.LaidMore
import Derived.Test.YtppocnbagombeaaGreatDoorRows
set_option linter.unusedVariables false
set_option linter.unusedSimpArgs false
open Nat renaming reduceAdd → zA, reduceMul → zM, reduceEqDiff → zE, reduceLT → zL, reduceLeDiff → zD, reduceSub → zS, reducePow → zP, reduceBEq → zB
open Int renaming reduceToNat → zI
open List renaming reduceReplicate → zR
/- The irreducibles of an order; Birkhoff's theorem, plainly. -/
namespace Go.AM
/-- There is a greatest one among what is less. -/
def Irr (n : Nat) (t : List (List Bool)) (j : Nat) : Prop := ∃ u, u < n ∧ atT t u j = true ∧ ∀ x, x < n → atT t x j = true → lq t x u = true
theorem covB_iff {n : Nat} {t : List (List Bool)} {i j : Nat} : covB n t i j = true ↔ atT t i j = true ∧ ∀ k, k < n → atT t i k = true → atT t k j = false := by
  unfold covB
  rw [Bool.and_eq_true, Bool.not_eq_true', List.any_eq_false]
  refine and_congr_right fun _ => ⟨fun h k hk h1 => ?_, fun h k hk h1 => ?_⟩
  · have := h k (List.mem_range.2 hk)
    rw [h1, Bool.true_and] at this
    simpa using this
  · rw [Bool.and_eq_true] at h1
    rw [h k (List.mem_range.1 hk) h1.1] at h1
    cases h1.2
theorem one_len {l : List Nat} {u : Nat} (h : l.Nodup) (hm : ∀ a, a ∈ l ↔ a = u) : l.length = 1 := by
  have := ((List.perm_ext_iff_of_nodup h (List.nodup_cons.2 ⟨List.not_mem_nil (a := u), List.nodup_nil⟩)).2 fun a => by rw [hm, List.mem_singleton]).length_eq
  exact this
theorem irr_iff {n : Nat} {t : List (List Bool)} (hs : Sq n t) (hp : IsPo n t) {j : Nat} (hj : j < n) : ((List.range n).filter fun r => atT (covT n t) r j).length = 1 ↔ Irr n t j := by
  have hc : ∀ r, r < n → (atT (covT n t) r j = true ↔ atT t r j = true ∧ ∀ k, k < n → atT t r k = true → atT t k j = false) := fun r hr => by rw [atT_cov hs hp hr hj, covB_iff]
  constructor
  · intro h
    obtain ⟨u, hu⟩ := List.length_eq_one_iff.1 h
    have hm : ∀ r, r ∈ (List.range n).filter (fun r => atT (covT n t) r j) ↔ r = u := fun r => by rw [hu, List.mem_singleton]
    have hmu := (hm u).2 rfl
    rw [List.mem_filter, List.mem_range] at hmu
    have h1 := (hc u hmu.1).1 hmu.2
    refine ⟨u, hmu.1, h1.1, fun x hx hxj => ?_⟩
    have hg : ∀ i, i < n → (setR n fun x => atT t x j).getD i false = atT t i j := fun i hi => setR_get hi
    obtain ⟨k, hk, hkx⟩ := max_of hp (b := setR n fun x => atT t x j) hx (by rw [hg x hx]; exact hxj)
    obtain ⟨hkn, hkb⟩ := mem_bk.1 hk
    obtain ⟨hk1, hk2⟩ := bkP_iff.1 hkb
    rw [hg k hkn] at hk1
    have hku : k = u := (hm k).1 (List.mem_filter.2 ⟨List.mem_range.2 hkn, (hc k hkn).2 ⟨hk1, fun q hq h => by rw [← hg q hq]; exact hk2 q hq h⟩⟩)
    subst hku
    unfold lq
    rcases hkx with rfl | hkx
    · simp
    · rw [hkx]; simp
  · rintro ⟨u, hu, h1, h2⟩
    refine one_len (List.nodup_range.sublist List.filter_sublist) (u := u) fun r => ?_
    rw [List.mem_filter, List.mem_range]
    constructor
    · rintro ⟨hr, hcr⟩
      obtain ⟨h3, h4⟩ := (hc r hr).1 hcr
      have h5 := h2 r hr h3
      unfold lq at h5
      rw [Bool.or_eq_true, decide_eq_true_eq] at h5
      rcases h5 with h5 | h5
      · exact h5
      · rw [h4 u hu h5] at h1; cases h1
    · rintro rfl
      refine ⟨hu, (hc r hu).2 ⟨h1, fun k hk h3 => ?_⟩⟩
      cases h4 : atT t k j
      · rfl
      · exfalso
        have h5 := h2 k hk h4
        unfold lq at h5
        rw [Bool.or_eq_true, decide_eq_true_eq] at h5
        rcases h5 with rfl | h5
        · rw [hp.irr k hk] at h3; cases h3
        · have := hp.trans r k r hu hk hu h3 h5
          rw [hp.irr r hu] at this; cases this
theorem at_lq {n : Nat} {t : List (List Bool)} (hp : IsPo n t) {i j : Nat} (hi : i < n) : atT t i j = (lq t i j && decide (i ≠ j)) := by
  unfold lq
  by_cases e : i = j
  · subst e; rw [hp.irr i hi]; simp
  · simp [e]
/-- Irreducible, by the order alone. -/
def IrQ (q : Nat → Nat → Bool) (n j : Nat) : Prop := ∃ u, u < n ∧ q u j = true ∧ u ≠ j ∧ ∀ x, x < n → q x j = true → x ≠ j → q x u = true
theorem irQ_iff {n : Nat} {t : List (List Bool)} (hp : IsPo n t) {j : Nat} : Irr n t j ↔ IrQ (lq t) n j := by
  have hs : ∀ x, x < n → (atT t x j = true ↔ lq t x j = true ∧ x ≠ j) := fun x hx => by rw [at_lq hp hx, Bool.and_eq_true, decide_eq_true_eq]
  constructor
  · rintro ⟨u, hu, h1, h2⟩
    exact ⟨u, hu, ((hs u hu).1 h1).1, ((hs u hu).1 h1).2, fun x hx h3 h4 => h2 x hx ((hs x hx).2 ⟨h3, h4⟩)⟩
  · rintro ⟨u, hu, h1, h2, h3⟩
    exact ⟨u, hu, (hs u hu).2 ⟨h1, h2⟩, fun x hx h4 => h3 x hx ((hs x hx).1 h4).1 ((hs x hx).1 h4).2⟩
/-- A lattice: joins and meets. -/
structure Ltc (q : Nat → Nat → Bool) (n : Nat) (J M : Nat → Nat → Nat) : Prop where
  po : PoQ q n
  j : IsJ q n J
  m : ∀ i j, i < n → j < n → M i j < n ∧ ∀ x, x < n → q x (M i j) = (q x i && q x j)
def DisJ (n : Nat) (J M : Nat → Nat → Nat) : Prop := ∀ a b c, a < n → b < n → c < n → M a (J b c) = J (M a b) (M a c)
theorem Ltc.mle {q : Nat → Nat → Bool} {n : Nat} {J M : Nat → Nat → Nat} (L : Ltc q n J M) {i j : Nat} (hi : i < n) (hj : j < n) : q (M i j) i = true ∧ q (M i j) j = true := by
  have h := L.m i j hi hj
  have h2 := h.2 _ h.1
  rw [L.po.refl, eq_comm, Bool.and_eq_true] at h2
  exact h2
/-- Each element is the join of the irreducibles that are not greater. -/
theorem Ltc.irr_le {q : Nat → Nat → Bool} {n : Nat} {J M : Nat → Nat → Nat} (L : Ltc q n J M) : ∀ (m x y : Nat), x < n → y < n → ((List.range n).filter fun w => q w x).length ≤ m → (∀ j, j < n → IrQ q n j → q j x = true → q j y = true) → q x y = true := by
  intro m
  induction m with
  | zero =>
    intro x y hx hy hm h
    have h0 := List.eq_nil_of_length_eq_zero (Nat.le_zero.1 hm)
    exact absurd (L.po.refl x) (List.filter_eq_nil_iff.1 h0 x (List.mem_range.2 hx))
  | succ m ih =>
    intro x y hx hy hm h
    have hM := L.m x y hx hy
    have hle := L.mle hx hy
    by_cases e : M x y = x
    · rw [← e]; exact hle.2
    · refine h x hx ⟨M x y, hM.1, hle.1, e, fun w hw hwx hne => ?_⟩ (L.po.refl x)
      have hlt : ((List.range n).filter fun v => q v w).length < ((List.range n).filter fun v => q v x).length :=
        filter_lt (fun v hv h1 => L.po.trans v w x (List.mem_range.1 hv) hw hx h1 hwx) ⟨x, List.mem_range.2 hx, L.po.refl x, by
          cases h1 : q x w
          · rfl
          · exact absurd (L.po.anti w x hw hx hwx h1) hne⟩
      refine ih w (M x y) hw hM.1 (by omega) fun j hj hij hjw => ?_
      have hjx := L.po.trans j w x hj hw hx hjw hwx
      rw [hM.2 j hj, hjx, h j hj hij hjx]; rfl
theorem Ltc.bot {q : Nat → Nat → Bool} {n : Nat} {J M : Nat → Nat → Nat} (L : Ltc q n J M) (h0 : 0 < n) : ∃ b, b < n ∧ ∀ y, y < n → q b y = true := by
  have key : ∀ m, m ≤ n → ∃ b, b < n ∧ ∀ y, y < m → q b y = true := by
    intro m
    induction m with
    | zero => intro _; exact ⟨0, h0, fun y hy => by omega⟩
    | succ m ih =>
      intro hm
      obtain ⟨b, hb, h⟩ := ih (by omega)
      have hM := L.m b m hb (by omega)
      have hle := L.mle hb (show m < n by omega)
      refine ⟨M b m, hM.1, fun y hy => ?_⟩
      rcases Nat.lt_succ_iff_lt_or_eq.1 hy with h1 | rfl
      · exact L.po.trans _ b y hM.1 hb (by omega) hle.1 (h y h1)
      · exact hle.2
  exact key n (Nat.le_refl _)
theorem Ltc.prime {q : Nat → Nat → Bool} {n : Nat} {J M : Nat → Nat → Nat} (L : Ltc q n J M) (hd : DisJ n J M) {j a b : Nat} (hj : j < n) (ha : a < n) (hb : b < n) (hi : IrQ q n j) (h : q j (J a b) = true) : q j a = true ∨ q j b = true := by
  obtain ⟨u, hu, h1, h2, h3⟩ := hi
  have hJ := L.j a b ha hb
  have hM := L.m j (J a b) hj hJ.1
  have e1 : M j (J a b) = j := L.po.anti _ _ hM.1 hj (L.mle hj hJ.1).1 (by rw [hM.2 j hj, L.po.refl, h]; rfl)
  rw [hd j a b hj ha hb] at e1
  have hMa := L.m j a hj ha
  have hMb := L.m j b hj hb
  by_cases ea : M j a = j
  · left; rw [← ea]; exact (L.mle hj ha).2
  · by_cases eb : M j b = j
    · right; rw [← eb]; exact (L.mle hj hb).2
    · exfalso
      have h4 := h3 _ hMa.1 (L.mle hj ha).1 ea
      have h5 := h3 _ hMb.1 (L.mle hj hb).1 eb
      have hJ2 := L.j (M j a) (M j b) hMa.1 hMb.1
      have h6 := hJ2.2 u hu
      rw [e1, h4, h5] at h6
      exact h2 (L.po.anti u j hu hj h1 h6)
/-- Joins of lists. -/
theorem Ltc.join {q : Nat → Nat → Bool} {n : Nat} {J M : Nat → Nat → Nat} (L : Ltc q n J M) (h0 : 0 < n) (hd : DisJ n J M) : ∀ l : List Nat, (∀ a ∈ l, a < n) → ∃ x, x < n ∧ (∀ y, y < n → (q x y = true ↔ ∀ a ∈ l, q a y = true)) ∧ ∀ j, j < n → IrQ q n j → q j x = true → ∃ a, a ∈ l ∧ q j a = true
  | [], _ => by
    obtain ⟨b, hb, h⟩ := L.bot h0
    refine ⟨b, hb, fun y hy => ⟨fun _ a ha => (List.not_mem_nil ha).elim, fun _ => h y hy⟩, fun j hj ⟨u, hu, h1, h2, h3⟩ hjb => ?_⟩
    exact absurd (L.po.anti u j hu hj h1 (L.po.trans j b u hj hb hu hjb (h u hu))) h2
  | a :: l, hl => by
    have ha := hl a (by simp)
    obtain ⟨x, hx, h1, h2⟩ := L.join h0 hd l fun b hb => hl b (by simp [hb])
    have hJ := L.j a x ha hx
    refine ⟨J a x, hJ.1, fun y hy => ?_, fun j hj hi hjx => ?_⟩
    · rw [hJ.2 y hy, Bool.and_eq_true, h1 y hy]
      simp
    · rcases L.prime hd hj ha hx hi hjx with h | h
      · exact ⟨a, by simp, h⟩
      · obtain ⟨b, hb, h3⟩ := h2 j hj hi h
        exact ⟨b, by simp [hb], h3⟩
/-- The irreducibles that are not greater, as a set of places. -/
def phi (q : Nat → Nat → Bool) (I : List Nat) (x : Nat) : List Bool := I.map fun m => q m x
theorem phi_len (q : Nat → Nat → Bool) (I : List Nat) (x : Nat) : (phi q I x).length = I.length := by simp [phi]
theorem phi_get {q : Nat → Nat → Bool} {I : List Nat} {x k : Nat} (hk : k < I.length) : (phi q I x).getD k false = q (I.getD k 0) x := by
  unfold phi
  simp [List.getD_eq_getElem?_getD, hk]
theorem mem_at {I : List Nat} {j : Nat} (h : j ∈ I) : ∃ k, k < I.length ∧ I.getD k 0 = j := by
  obtain ⟨k, hk, e⟩ := List.getElem_of_mem h
  exact ⟨k, hk, by rw [List.getD_eq_getElem?_getD, List.getElem?_eq_getElem hk]; exact e⟩
/-- The order shows in the sets. -/
theorem Ltc.phi_le {q : Nat → Nat → Bool} {n : Nat} {J M : Nat → Nat → Nat} (L : Ltc q n J M) {I : List Nat} (hI : ∀ j, j ∈ I ↔ j < n ∧ IrQ q n j) {x y : Nat} (hx : x < n) (hy : y < n) : subB (phi q I x) (phi q I y) = q x y := by
  rw [Bool.eq_iff_iff, subB_iff, phi_len]
  constructor
  · intro h
    refine L.irr_le _ x y hx hy (Nat.le_refl _) fun j hj hi hjx => ?_
    obtain ⟨k, hk, rfl⟩ := mem_at ((hI j).2 ⟨hj, hi⟩)
    have := h k hk
    rw [phi_get hk, phi_get hk] at this
    exact this hjx
  · intro h k hk
    rw [phi_get hk, phi_get hk]
    have hm := ((hI _).1 (mem_getD hk 0)).1
    exact fun h1 => L.po.trans _ x y hm hx hy h1 h
theorem subB_refl (b : List Bool) : subB b b = true := subB_iff.2 fun _ _ h => h
theorem Ltc.phi_inj {q : Nat → Nat → Bool} {n : Nat} {J M : Nat → Nat → Nat} (L : Ltc q n J M) {I : List Nat} (hI : ∀ j, j ∈ I ↔ j < n ∧ IrQ q n j) {x y : Nat} (hx : x < n) (hy : y < n) (e : phi q I x = phi q I y) : x = y := by
  refine L.po.anti x y hx hy ?_ ?_
  · rw [← L.phi_le hI hx hy, e]; exact subB_refl _
  · rw [← L.phi_le hI hy hx, e]; exact subB_refl _
/-- Each set of places that is closed downwards is that of an element, in a distributive lattice. -/
theorem Ltc.phi_sur {q : Nat → Nat → Bool} {n : Nat} {J M : Nat → Nat → Nat} (L : Ltc q n J M) (h0 : 0 < n) (hd : DisJ n J M) {I : List Nat} (hI : ∀ j, j ∈ I ↔ j < n ∧ IrQ q n j) {b : List Bool} (hb : b.length = I.length) (hid : ∀ i, i < I.length → ∀ k, k < I.length → b.getD k false = true → q (I.getD i 0) (I.getD k 0) = true → b.getD i false = true) : ∃ x, x < n ∧ phi q I x = b := by
  obtain ⟨x, hx, h1, h2⟩ := L.join h0 hd ((memB b).map fun k => I.getD k 0) fun a ha => by
    obtain ⟨k, hk, rfl⟩ := List.mem_map.1 ha
    exact ((hI _).1 (mem_getD (by have := (memB_mem.1 hk).1; omega) 0)).1
  refine ⟨x, hx, row_ext (n := I.length) (phi_len ..) hb fun k hk => ?_⟩
  rw [phi_get hk, Bool.eq_iff_iff]
  have hmk := (hI _).1 (mem_getD hk 0)
  constructor
  · intro h
    obtain ⟨a, ha, h3⟩ := h2 _ hmk.1 hmk.2 h
    obtain ⟨i, hi, rfl⟩ := List.mem_map.1 ha
    obtain ⟨hi1, hi2⟩ := memB_mem.1 hi
    exact hid k hk i (by omega) hi2 h3
  · intro h
    exact (h1 x hx).1 (L.po.refl x) _ (List.mem_map.2 ⟨k, memB_mem.2 ⟨by omega, h⟩, rfl⟩)
/-- A lattice whose elements give all such sets is distributive. -/
theorem Ltc.sur_dis {q : Nat → Nat → Bool} {n : Nat} {J M : Nat → Nat → Nat} (L : Ltc q n J M) {I : List Nat} (hI : ∀ j, j ∈ I ↔ j < n ∧ IrQ q n j) (h : ∀ b : List Bool, b.length = I.length → (∀ i, i < I.length → ∀ k, k < I.length → b.getD k false = true → q (I.getD i 0) (I.getD k 0) = true → b.getD i false = true) → ∃ x, x < n ∧ phi q I x = b) : DisJ n J M := by
  have hIn : ∀ k, k < I.length → I.getD k 0 < n := fun k hk => ((hI _).1 (mem_getD hk 0)).1
  have hM : ∀ a b, a < n → b < n → ∀ k, k < I.length → (phi q I (M a b)).getD k false = ((phi q I a).getD k false && (phi q I b).getD k false) := fun a b ha hb k hk => by
    rw [phi_get hk, phi_get hk, phi_get hk]
    exact (L.m a b ha hb).2 _ (hIn k hk)
  have hJ : ∀ a b, a < n → b < n → ∀ k, k < I.length → (phi q I (J a b)).getD k false = ((phi q I a).getD k false || (phi q I b).getD k false) := fun a b ha hb k hk => by
    have hl : (List.zipWith (· || ·) (phi q I a) (phi q I b)).length = I.length := by simp [phi_len]
    have hg : ∀ i, i < I.length → (List.zipWith (· || ·) (phi q I a) (phi q I b)).getD i false = ((phi q I a).getD i false || (phi q I b).getD i false) := fun i hi => by
      have h1 := phi_len q I a
      have h2 := phi_len q I b
      generalize phi q I a = A at *
      generalize phi q I b = B at *
      simp [List.getD_eq_getElem?_getD, List.getElem?_zipWith, show i < A.length by omega, show i < B.length by omega]
    obtain ⟨z, hz, e⟩ := h _ hl fun i hi k hk h1 h2 => by
      rw [hg k hk, phi_get hk, phi_get hk, Bool.or_eq_true] at h1
      rw [hg i hi, phi_get hi, phi_get hi, Bool.or_eq_true]
      exact h1.imp (fun h3 => L.po.trans _ _ a (hIn i hi) (hIn k hk) ha h2 h3) (fun h3 => L.po.trans _ _ b (hIn i hi) (hIn k hk) hb h2 h3)
    have hz1 : ∀ x, x < n → q z x = (q a x && q b x) := fun x hx => by
      rw [← L.phi_le hI hz hx, ← L.phi_le hI ha hx, ← L.phi_le hI hb hx, e, Bool.eq_iff_iff, Bool.and_eq_true, subB_iff, subB_iff, subB_iff, hl, phi_len, phi_len]
      constructor
      · intro h1
        exact ⟨fun i hi h2 => h1 i hi (by rw [hg i hi, h2]; rfl), fun i hi h2 => h1 i hi (by rw [hg i hi, h2, Bool.or_true])⟩
      · rintro ⟨h1, h2⟩ i hi h3
        rw [hg i hi, Bool.or_eq_true] at h3
        exact h3.elim (h1 i hi) (h2 i hi)
    have hjab := L.j a b ha hb
    rw [L.po.ext hjab.1 hz fun x hx => by rw [hjab.2 x hx, hz1 x hx], e, hg k hk]
  intro a b c ha hb hc
  have h1 := (L.j b c hb hc).1
  have h2 := (L.m a b ha hb).1
  have h3 := (L.m a c ha hc).1
  refine L.phi_inj hI (L.m a _ ha h1).1 (L.j _ _ h2 h3).1 (row_ext (n := I.length) (phi_len ..) (phi_len ..) fun k hk => ?_)
  rw [hM a _ ha h1 k hk, hJ b c hb hc k hk, hJ _ _ h2 h3 k hk, hM a b ha hb k hk, hM a c ha hc k hk, Bool.and_or_distrib_left]
end Go.AM

/- Birkhoff's theorem for tables: a lattice and the ideals of its irreducibles; an order and the lattice of its ideals. -/
namespace Go.AM
theorem bnd_is {n : Nat} {t : List (List Bool)} (hs : Sq n t) (hp : IsPo n t) {i j c : Nat} (hi : i < n) (hj : j < n) (hc : c < n) (h : ∀ x, x < n → lq t c x = (lq t i x && lq t j x)) : bndF (upR t n) i j = (c : Nat) := by
  have h0 : 0 ≤ bndF (upR t n) i j := by
    unfold bndF
    rw [← decide_eq_true_iff (p := 0 ≤ _), ixf_ge, List.any_eq_true]
    refine ⟨(upR t n).getD c [], mem_getD (by rw [upR_len]; exact hc) _, decide_eq_true ?_⟩
    refine row_ext (n := n) ?_ (andR_len hs hi hj) fun x hx => ?_
    · rw [upR_get hc, List.length_set, hs.rowLen hc]
    · rw [upR_at hs hc, andR_at hs hi hj hx]; exact h x hx
  have h1 := jn_of hs hi hj h0
  have e : jnN t n i j = c := (lq_po hp).ext h1.1 hc fun x hx => by rw [h1.2 x hx, h x hx]
  unfold jnN at e
  omega
theorem noneT_of {G : List (List Bool)} {n i : Nat} (hG : G.length = n) (hi : i < n) (h : ∀ j, j < n → 0 ≤ bndF G i j) : noneT (bndT G) i = true := by
  unfold noneT
  rw [Bool.not_eq_true', decide_eq_false_iff_not, bndT_row (by omega), List.mem_map, hG]
  rintro ⟨j, hj, e⟩
  have := h j (List.mem_range.1 hj)
  omega
theorem latB_of {n : Nat} {t : List (List Bool)} (h0 : 0 < n) (h : ∀ i j, i < n → j < n → 0 ≤ bndF (upR t n) i j ∧ 0 ≤ bndF (upR (invT n t) n) i j) : latB t n = true := by
  unfold latB
  rw [decide_eq_true h0, Bool.true_and, List.all_eq_true]
  intro i hi
  have hin := List.mem_range.1 hi
  rw [Bool.and_eq_true]
  exact ⟨noneT_of (upR_len ..) hin fun j hj => (h i j hin hj).1, noneT_of (upR_len ..) hin fun j hj => (h i j hin hj).2⟩
theorem ltc_of {n : Nat} {t : List (List Bool)} (hs : Sq n t) (hp : IsPo n t) (h : latB t n = true) : Ltc (lq t) n (jnN t n) (jnN (invT n t) n) :=
  ⟨lq_po hp, lat_J hs h, fun i j hi hj => by
    have hm := lat_M h i j hi hj
    refine ⟨hm.1, fun x hx => ?_⟩
    have := hm.2 x hx
    rw [lq_inv hm.1 hx, lq_inv hi hx, lq_inv hj hx] at this
    exact this⟩
/-- The places of a list's members. -/
theorem mem_atL {L : List (List Bool)} {b : List Bool} (h : b ∈ L) : ∃ k, k < L.length ∧ L.getD k [] = b := by
  obtain ⟨k, hk, e⟩ := List.getElem_of_mem h
  exact ⟨k, hk, by rw [List.getD_eq_getElem?_getD, List.getElem?_eq_getElem hk]; exact e⟩
theorem getD_injL {L : List (List Bool)} (h : L.Nodup) {a c : Nat} (ha : a < L.length) (hc : c < L.length) (e : L.getD a [] = L.getD c []) : a = c := by
  have h1 : L[a]'ha = L[c]'hc := by simpa [List.getD_eq_getElem?_getD, List.getElem?_eq_getElem ha, List.getElem?_eq_getElem hc] using e
  rcases Nat.lt_trichotomy a c with hlt | rfl | hlt
  · exact absurd h1 (List.pairwise_iff_getElem.1 h a c ha hc hlt)
  · rfl
  · exact absurd h1.symm (List.pairwise_iff_getElem.1 h c a hc ha hlt)
theorem subB_trans {a b c : List Bool} (hb : b.length = a.length) (h1 : subB a b = true) (h2 : subB b c = true) : subB a c = true :=
  subB_iff.2 fun i hi h => subB_iff.1 h2 i (by omega) (subB_iff.1 h1 i hi h)
theorem subB_anti {a b : List Bool} (hb : b.length = a.length) (h1 : subB a b = true) (h2 : subB b a = true) : a = b :=
  row_ext (n := a.length) rfl hb fun i hi => by
    rw [Bool.eq_iff_iff]
    exact ⟨subB_iff.1 h1 i hi, subB_iff.1 h2 i (by omega)⟩
/-- The order of a list of sets. -/
structure InclOk (n : Nat) (L : List (List Bool)) (E : List (List Bool)) : Prop where
  nd : L.Nodup
  len : ∀ b ∈ L, b.length = n
  sq : Sq L.length E
  at_ : ∀ a b, a < L.length → b < L.length → atT E a b = (decide (a ≠ b) && subB (L.getD a []) (L.getD b []))
theorem InclOk.get {n : Nat} {L E : List (List Bool)} (h : InclOk n L E) {a : Nat} (ha : a < L.length) : (L.getD a []).length = n := h.len _ (mem_getD ha _)
theorem InclOk.lq {n : Nat} {L E : List (List Bool)} (h : InclOk n L E) {a b : Nat} (ha : a < L.length) (hb : b < L.length) : lq E a b = subB (L.getD a []) (L.getD b []) := by
  unfold AM.lq
  rw [h.at_ a b ha hb]
  by_cases e : a = b
  · subst e; simp [subB_refl]
  · simp [e]
theorem InclOk.po {n : Nat} {L E : List (List Bool)} (h : InclOk n L E) : IsPo L.length E := by
  refine ⟨fun i hi => by rw [h.at_ i i hi hi]; simp, fun i j k hi hj hk h1 h2 => ?_⟩
  rw [h.at_ i j hi hj, Bool.and_eq_true, decide_eq_true_eq] at h1
  rw [h.at_ j k hj hk, Bool.and_eq_true, decide_eq_true_eq] at h2
  rw [h.at_ i k hi hk, Bool.and_eq_true, decide_eq_true_eq]
  have li := h.get hi
  have lj := h.get hj
  refine ⟨fun e => ?_, subB_trans (by omega) h1.2 h2.2⟩
  subst e
  exact h1.1 (getD_injL h.nd hi hj (subB_anti (by omega) h1.2 h2.2))
theorem orB_get2 {n : Nat} {a b : List Bool} (ha : a.length = n) (hb : b.length = n) {i : Nat} (hi : i < n) : (List.zipWith (· || ·) a b).getD i false = (a.getD i false || b.getD i false) := by
  simp [List.getD_eq_getElem?_getD, List.getElem?_zipWith, show i < a.length by omega, show i < b.length by omega]
theorem andB_get2 {n : Nat} {a b : List Bool} (ha : a.length = n) (hb : b.length = n) {i : Nat} (hi : i < n) : (List.zipWith (· && ·) a b).getD i false = (a.getD i false && b.getD i false) := by
  simp [List.getD_eq_getElem?_getD, List.getElem?_zipWith, show i < a.length by omega, show i < b.length by omega]
theorem subB_or {n : Nat} {a b c : List Bool} (ha : a.length = n) (hb : b.length = n) : subB (List.zipWith (· || ·) a b) c = (subB a c && subB b c) := by
  have hl : (List.zipWith (· || ·) a b).length = n := by simp [ha, hb]
  rw [Bool.eq_iff_iff, Bool.and_eq_true, subB_iff, subB_iff, subB_iff, hl, ha, hb]
  constructor
  · intro h
    exact ⟨fun i hi h1 => h i hi (by rw [orB_get2 ha hb hi, h1]; rfl), fun i hi h1 => h i hi (by rw [orB_get2 ha hb hi, h1, Bool.or_true])⟩
  · rintro ⟨h1, h2⟩ i hi h3
    rw [orB_get2 ha hb hi, Bool.or_eq_true] at h3
    exact h3.elim (h1 i hi) (h2 i hi)
theorem subB_and {n : Nat} {a b c : List Bool} (ha : a.length = n) (hb : b.length = n) (hc : c.length = n) : subB c (List.zipWith (· && ·) a b) = (subB c a && subB c b) := by
  rw [Bool.eq_iff_iff, Bool.and_eq_true, subB_iff, subB_iff, subB_iff, hc]
  constructor
  · intro h
    have h' : ∀ i, i < n → c.getD i false = true → a.getD i false = true ∧ b.getD i false = true := fun i hi h1 => by
      have := h i hi h1
      rw [andB_get2 ha hb hi, Bool.and_eq_true] at this
      exact this
    exact ⟨fun i hi h1 => (h' i hi h1).1, fun i hi h1 => (h' i hi h1).2⟩
  · rintro ⟨h1, h2⟩ i hi h3
    rw [andB_get2 ha hb hi, h1 i hi h3, h2 i hi h3]; rfl
/-- Joins are unions, meets are intersections. -/
theorem InclOk.jn {n : Nat} {L E : List (List Bool)} (h : InclOk n L E) (hor : ∀ a b, a ∈ L → b ∈ L → List.zipWith (· || ·) a b ∈ L) {a b : Nat} (ha : a < L.length) (hb : b < L.length) : ∃ c, c < L.length ∧ bndF (upR E L.length) a b = (c : Nat) ∧ L.getD c [] = List.zipWith (· || ·) (L.getD a []) (L.getD b []) := by
  obtain ⟨c, hc, e⟩ := mem_atL (hor _ _ (mem_getD ha []) (mem_getD hb []))
  refine ⟨c, hc, bnd_is h.sq h.po ha hb hc fun x hx => ?_, e⟩
  rw [h.lq hc hx, h.lq ha hx, h.lq hb hx, e, subB_or (h.get ha) (h.get hb)]
theorem InclOk.mt {n : Nat} {L E : List (List Bool)} (h : InclOk n L E) (hand : ∀ a b, a ∈ L → b ∈ L → List.zipWith (· && ·) a b ∈ L) {a b : Nat} (ha : a < L.length) (hb : b < L.length) : ∃ c, c < L.length ∧ bndF (upR (invT L.length E) L.length) a b = (c : Nat) ∧ L.getD c [] = List.zipWith (· && ·) (L.getD a []) (L.getD b []) := by
  obtain ⟨c, hc, e⟩ := mem_atL (hand _ _ (mem_getD ha []) (mem_getD hb []))
  refine ⟨c, hc, bnd_is Sq.inv h.po.inv ha hb hc fun x hx => ?_, e⟩
  rw [lq_inv hc hx, lq_inv ha hx, lq_inv hb hx, h.lq hx hc, h.lq hx ha, h.lq hx hb, e, subB_and (h.get ha) (h.get hb) (h.get hx)]
theorem InclOk.lat {n : Nat} {L E : List (List Bool)} (h : InclOk n L E) (hor : ∀ a b, a ∈ L → b ∈ L → List.zipWith (· || ·) a b ∈ L) (hand : ∀ a b, a ∈ L → b ∈ L → List.zipWith (· && ·) a b ∈ L) (h0 : 0 < L.length) : latB E L.length = true :=
  latB_of h0 fun i j hi hj => by
    obtain ⟨c, _, h1, _⟩ := h.jn hor hi hj
    obtain ⟨d, _, h2, _⟩ := h.mt hand hi hj
    omega
theorem InclOk.dis {n : Nat} {L E : List (List Bool)} (h : InclOk n L E) (hor : ∀ a b, a ∈ L → b ∈ L → List.zipWith (· || ·) a b ∈ L) (hand : ∀ a b, a ∈ L → b ∈ L → List.zipWith (· && ·) a b ∈ L) : DisJ L.length (jnN E L.length) (jnN (invT L.length E) L.length) := by
  have hJ : ∀ a b, a < L.length → b < L.length → jnN E L.length a b < L.length ∧ ∀ i, i < n → (L.getD (jnN E L.length a b) []).getD i false = ((L.getD a []).getD i false || (L.getD b []).getD i false) := fun a b ha hb => by
    obtain ⟨c, hc, h1, h2⟩ := h.jn hor ha hb
    unfold jnN
    rw [h1, Int.toNat_natCast]
    exact ⟨hc, fun i hi => by rw [h2, orB_get2 (h.get ha) (h.get hb) hi]⟩
  have hM : ∀ a b, a < L.length → b < L.length → jnN (invT L.length E) L.length a b < L.length ∧ ∀ i, i < n → (L.getD (jnN (invT L.length E) L.length a b) []).getD i false = ((L.getD a []).getD i false && (L.getD b []).getD i false) := fun a b ha hb => by
    obtain ⟨c, hc, h1, h2⟩ := h.mt hand ha hb
    unfold jnN
    rw [h1, Int.toNat_natCast]
    exact ⟨hc, fun i hi => by rw [h2, andB_get2 (h.get ha) (h.get hb) hi]⟩
  intro a b c ha hb hc
  have h1 := hJ b c hb hc
  have h2 := hM a b ha hb
  have h3 := hM a c ha hc
  have h4 := hM a _ ha h1.1
  have h5 := hJ _ _ h2.1 h3.1
  refine getD_injL h.nd h4.1 h5.1 (row_ext (n := n) (h.get h4.1) (h.get h5.1) fun i hi => ?_)
  rw [h4.2 i hi, h1.2 i hi, h5.2 i hi, h2.2 i hi, h3.2 i hi, Bool.and_or_distrib_left]
/-- A lattice and the ideals of its irreducibles. -/
theorem lat_ids {n : Nat} {t : List (List Bool)} (hp : IsPo n t) {J M : Nat → Nat → Nat} (Lt : Ltc (lq t) n J M) (h0 : 0 < n) {I : List Nat} (hn : I.Nodup) (hI : ∀ j, j ∈ I ↔ j < n ∧ IrQ (lq t) n j) :
    (∀ x, x < n → phi (lq t) I x ∈ allU (invT I.length (resT t I)) I.length) ∧ n ≤ (allU (invT I.length (resT t I)) I.length).length ∧ (DisJ n J M ↔ (allU (invT I.length (resT t I)) I.length).length = n) := by
  have hIn : ∀ m ∈ I, m < n := fun m hm => ((hI m).1 hm).1
  have hq := hp.res hIn
  have hat : ∀ i k, i < I.length → k < I.length → atT (resT t I) i k = atT t (I.getD i 0) (I.getD k 0) := fun i k hi hk => resT_at hi hk
  have hIk : ∀ k, k < I.length → I.getD k 0 < n := fun k hk => hIn _ (mem_getD hk 0)
  have hid : ∀ b : List Bool, b ∈ allU (invT I.length (resT t I)) I.length ↔ b.length = I.length ∧ (∀ i, i < I.length → ∀ k, k < I.length → b.getD k false = true → lq t (I.getD i 0) (I.getD k 0) = true → b.getD i false = true) := fun b => by
    rw [mem_allU hq]
    refine and_congr_right fun hb => ?_
    rw [idB_iff hb]
    constructor
    · intro h i hi k hk h1 h2
      unfold lq at h2
      rw [Bool.or_eq_true, decide_eq_true_eq] at h2
      rcases h2 with h2 | h2
      · rw [getD_inj hn hi hk h2]; exact h1
      · exact h i hi k hk h1 (by rw [hat i k hi hk]; exact h2)
    · intro h i hi k hk h1 h2
      rw [hat i k hi hk] at h2
      exact h i hi k hk h1 (by unfold lq; rw [h2, Bool.or_true])
  have hnd := allU_nodup (invT I.length (resT t I)) I.length
  generalize allU (invT I.length (resT t I)) I.length = U at *
  have hphi : ∀ x, x < n → phi (lq t) I x ∈ U := fun x hx => (hid _).2 ⟨phi_len .., fun i hi k hk h1 h2 => by
    rw [phi_get hk] at h1
    rw [phi_get hi]
    exact lq_trans hp (hIk i hi) (hIk k hk) hx h2 h1⟩
  have hpn : ((List.range n).map (phi (lq t) I)).Nodup := map_nodup List.nodup_range fun a ha b hb e => Lt.phi_inj hI (List.mem_range.1 ha) (List.mem_range.1 hb) e
  have hsub : ∀ b ∈ (List.range n).map (phi (lq t) I), b ∈ U := fun b hb => by
    obtain ⟨x, hx, rfl⟩ := List.mem_map.1 hb
    exact hphi x (List.mem_range.1 hx)
  have hle := subL_len hpn hsub
  rw [List.length_map, List.length_range] at hle
  refine ⟨hphi, hle, fun hd => ?_, fun e => ?_⟩
  · refine Nat.le_antisymm ?_ hle
    have := subL_len (m := (List.range n).map (phi (lq t) I)) hnd fun b hb => by
      obtain ⟨h1, h2⟩ := (hid b).1 hb
      obtain ⟨x, hx, rfl⟩ := Lt.phi_sur h0 hd hI h1 h2
      exact List.mem_map.2 ⟨x, List.mem_range.2 hx, rfl⟩
    rw [List.length_map, List.length_range] at this
    exact this
  · refine Lt.sur_dis hI fun b h1 h2 => ?_
    have := sub_full hpn hsub (by rw [List.length_map, List.length_range]; omega) b ((hid b).2 ⟨h1, h2⟩)
    obtain ⟨x, hx, e⟩ := List.mem_map.1 this
    exact ⟨x, List.mem_range.1 hx, e⟩
end Go.AM

namespace Go.Proofs.B
open Go.AM Go
set_option maxRecDepth 100000
set_option maxHeartbeats 4000000
theorem setw_eq {a b : List Bool} (hl : b.length = a.length) : (setW a a.length == setW b b.length) = decide (a = b) := by
 rw [Bool.eq_iff_iff, beq_iff_eq, decide_eq_true_eq]
 exact ⟨row_words hl, fun e => by rw [e]⟩
theorem setw_len (b : List Bool) (hb : b.length ≤ 512) : (setW b b.length).length ≤ 100000 := by
 have hwn := wordsN_rng (n := (b.length : Int)) (by omega)
 rw [setW_len']; omega
theorem lclo_r (n : Nat) (hn : n ≤ 512) (s x : List Bool) (hs : s.length = n) (hx : x.length = n) : Reads Tryz.prog 30 false [.agg (rowB x), .rptr (rowB s)] (.bool (decide (x = s))) := by
 have heq := eqw_r (setW x x.length) (setW s s.length) (by have := setw_len x (by omega); omega)
 rw [setw_eq (a := x) (b := s) (by omega)] at heq
 have hxs : (x.length : Int) = s.length := by omega
 unfold rowB at *
 refine Reads.body (rs := [.tmp 3]) Tryz.func30 rfl Tryz.ntmps30 rfl (by simp) ?_
 generalize hQr : retQ _ _ _ = Qr
 refine AW.sg [1,2] [2] trivial ?_
 refine AW.so 0 (fun ii => if ii = 10 then some (.reads false (.bool (decide (x = s)))) else none) [3] [] trivial ?_
 repeat with_reducible refine cj ?_ ?_
 all_goals try first | (first | exact heq | (intro hh; exact ⟨hh, heq⟩)) | (intros; (repeat' apply And.intro) <;> first | assumption | (first | exact heq | (intro hh; exact ⟨hh, heq⟩))) | omega | exact ent (by kernel_rfl) | (intro hgd; exact absurd hgd (by decide)) | rfl | exact gD | (intro _hgd; simp_all [go_sem]; done)
 rw [← hQr]
 refine AW.rt trivial ?_
 exact Wk.of_eq (by rw [decide_eq_true hxs]; simp)
theorem ixl_r (n : Nat) (hn : n ≤ 512) (L : List (List Bool)) (hL : ∀ b ∈ L, b.length = n) (hl : L.length ≤ 512) (s : List Bool) (hs : s.length = n) : Reads Tryz.prog 29 false [.rsl 2 (tabR L), .fn 30 [.rptr (rowB s)]] (.int .i64 (ixf (fun x => decide (x = s)) L)) := by
 have hbp := fun x hxm => lclo_r n hn s x hs (hL x hxm)
 have hLl := tabR_len L
 unfold rowB at *
 generalize setW s s.length = S at *
 refine Reads.body (rs := [.tmp 4]) Tryz.func29 rfl Tryz.ntmps29 rfl (by simp) ?_
 generalize hQr : retQ _ _ _ = Qr
 refine AW.sg [0,1] [] trivial ?_
 refine AW.seq fun K1 hK1 => ?_
 refine AW.sg [0,1,7,8] [] (@hLl) ?_
 refine AW.block ?_
 refine AW.loopE (fun mm ee ss kk => ∃ (j : Nat), L.length - j = mm ∧ ee = [(0, .rsl 2 (tabR L)), (1, .fn 30 [.rptr [.int .i64 s.length, .rsl 1 (words S)]]), (7, .int .i64 L.length), (8, .int .i64 (j : Nat))] ∧ ss = [] ∧ (j ≤ L.length ∧ (L.take j).any (fun x => decide (x = s)) = false)) ?_ ?_
 ·exact ⟨_, 0, rfl, eD, eD, eT⟩
 rintro mm ee ss kk ⟨j, rfl, rfl, rfl, hI⟩
 generalize hQl1 : thenQ _ _ = Ql1
 obtain ⟨hj, hall⟩ := hI
 refine AW.sg [0,1,7,8,9] [] trivial ?_
 refine AW.seq fun K2 hK2 => ?_
 refine AW.cn ?_ ?_
 ·intro hb
  obtain ⟨x, hx⟩ := getI (l := L) (j := j) (by omega)
  have hgx : (tabR L).getD j [] = rowB x := getV (f := rowB) hx
  have hats := any_take_succ (p := fun x => decide (x = s)) hx
  have hbx := hbp x (List.mem_of_getElem? hx)
  unfold rowB at *
  refine AW.skip ?_
  refine hK2 _ _ _ ?_; clear hK2
  refine AW.seq fun K3 hK3 => ?_
  refine AW.block ?_
  refine AW.sg [0,1,5,7,8] [] trivial ?_
  refine AW.so 0 (fun ii => if ii = 5 then some (.reads false (.bool (decide (x = s)))) else none) [0,1,5,7,8,16] [] (e2 @hgx @hLl) ?_
  repeat with_reducible refine cj ?_ ?_
  all_goals try first | (exact hbx) | omega | exact ent (by kernel_rfl)
  refine AW.cn ?_ ?_
  ·intro hb
   refine AW.sg [4] [] trivial ?_
   rw [← hQl1, ← hQr]
   refine AW.rt trivial ?_
   exact Wk.of_eq (by rw [ixf_at hx (decide_eq_true hb) hall])
  ·intro hb
   refine AW.skip ?_
   refine hK3 _ _ _ ?_; clear hK3
   refine AW.rg [0,1,7,8] [] trivial ?_
   rw [← hQl1]; change Exists _
   exact ⟨_, eO, j + 1, rfl, eD, eD, (⟨by omega, by rw [hats, hall, decide_eq_false hb]; rfl⟩)⟩
 ·intro hb
  refine AW.kx [] [] ?_
  rw [← hQl1]
  refine hK1 _ _ _ ?_; clear hK1
  refine AW.sg [4] [] trivial ?_
  rw [← hQr]
  refine AW.rt trivial ?_
  exact Wk.of_eq (by rw [List.take_of_length_le (by omega)] at hall; rw [ixf_none hall])
/-- The order of inclusion. -/
theorem incl_at (L : List (List Bool)) {a b : Nat} (ha : a < L.length) (hb : b < L.length) : atT (inclT L) a b = (decide (a ≠ b) && subB (L.getD a []) (L.getD b [])) := by
 unfold atT rowT inclT
 simp only [List.getD_eq_getElem?_getD, List.getElem?_map, List.getElem?_range ha, Option.map_some, Option.getD_some]
 unfold iR
 simp only [List.getElem?_map, List.getElem?_range hb, Option.map_some, Option.getD_some, decide_eq_true hb, Bool.true_and]
 rfl
/-- The tables' entries. -/
theorem jnT_at {n : Nat} {t : List (List Bool)} (hlat : latB t n = true) {a b : Nat} (ha : a < n) (hb : b < n) : ((jnT t n).getD a []).getD b 0 = (jnN t n a b : Nat) := by
 have := (lat_bnd hlat ha hb).1
 unfold jnT jnN
 rw [bndT_at (by rw [upR_len]; exact ha) (by rw [upR_len]; exact hb)]
 omega
theorem mtT_at {n : Nat} {t : List (List Bool)} (hlat : latB t n = true) {a b : Nat} (ha : a < n) (hb : b < n) : ((mtT t n).getD a []).getD b 0 = (jnN (invT n t) n a b : Nat) := by
 have := (lat_bnd hlat ha hb).2
 unfold mtT jnN
 rw [bndT_at (by rw [upR_len]; exact ha) (by rw [upR_len]; exact hb)]
 omega
theorem dsP_eq {n : Nat} {t : List (List Bool)} (hs : Sq n t) (hlat : latB t n = true) {a b c : Nat} (ha : a < n) (hb : b < n) (hc : c < n) : dsP (jnT t n) (mtT t n) a b c = decide (jnN (invT n t) n a (jnN t n b c) = jnN t n (jnN (invT n t) n a b) (jnN (invT n t) n a c)) := by
 have hJ := lat_J hs hlat
 have hM := lat_M hlat
 unfold dsP dsL dsR
 rw [jnT_at hlat hb hc, mtT_at hlat ha hb, mtT_at hlat ha hc, Int.toNat_natCast, Int.toNat_natCast, Int.toNat_natCast, mtT_at hlat ha (hJ b c hb hc).1, jnT_at hlat (hM a b ha hb).1 (hM a c ha hc).1]
 exact decide_eq_decide.2 (by omega)
/-- The irreducibles, as the program finds them. -/
theorem irrL_iff {n : Nat} {t : List (List Bool)} (hs : Sq n t) (hp : IsPo n t) (j : Nat) : j ∈ irrL (covT n t) n n ↔ j < n ∧ IrQ (lq t) n j := by
 unfold irrL cntC
 rw [List.mem_filter, List.mem_range, decide_eq_true_eq]
 refine and_congr_right fun hj => ?_
 rw [irr_iff hs hp hj, irQ_iff hp]
theorem irrL_nodup (C : List (List Bool)) (n : Nat) : (irrL C n n).Nodup := List.nodup_range.sublist List.filter_sublist
theorem rrvalid_g (n : Nat) (t : List (List Bool)) (hs : Sq n t) (hn : n ≤ 512) : Reads Tryz.prog 16 false [relB t] (.bool true) := by
 have h := rrvalid_r (t.map SB) (by simp [hs.len]; omega) (fun x hx => by
  obtain ⟨b, hb, rfl⟩ := List.mem_map.1 hx
  have := hs.row b hb
  have hwn := wordsN_rng (n := (b.length : Int)) (by omega)
  show (setW b b.length).length ≤ _
  rw [setW_len']; omega)
 rw [valid_tab hs hn, ← relB_SB] at h
 exact h
/-- Places, found one after the other. -/
def plL (P : Nat → Nat) (n x : Nat) : List Nat := (List.range n).map fun q => if q < x then P q else 0
theorem plL_len (P : Nat → Nat) (n x : Nat) : (plL P n x).length = n := by simp [plL]
theorem plL_zero (P : Nat → Nat) (n : Nat) : plL P n 0 = List.replicate n 0 := by
 unfold plL
 refine List.ext_getElem (by simp) fun i h1 h2 => by simp
theorem plL_set {P : Nat → Nat} {n x : Nat} (hx : x < n) : (plL P n x).set x (P x) = plL P n (x + 1) := by
 refine List.ext_getElem (by simp [plL]) fun q h1 h2 => ?_
 rw [List.getElem_set]
 simp only [plL, List.getElem_map, List.getElem_range]
 by_cases e : x = q
 ·subst e; simp
 ·rw [if_neg e]
  by_cases h : q < x
  ·rw [if_pos h, if_pos (by omega)]
  ·rw [if_neg h, if_neg (by omega)]
theorem plL_get {P : Nat → Nat} {n q : Nat} (hq : q < n) : (plL P n n).getD q 0 = P q := by
 unfold plL
 simp [List.getD_eq_getElem?_getD, hq]
theorem nats_rep (n : Nat) : List.replicate n [AV.int .i64 0] = ints (nats (List.replicate n 0)) := by simp [ints, nats]
/-- The same for the irreducibles that are not greater. -/
def bekL (t : List (List Bool)) (I : List Nat) (x k : Nat) : List Nat := (List.range k).filter fun q => lq t (I.getD q 0) x
theorem bekL_succ (t : List (List Bool)) (I : List Nat) (x k : Nat) : bekL t I x (k + 1) = if lq t (I.getD k 0) x = true then bekL t I x k ++ [k] else bekL t I x k := by
 unfold bekL
 rw [List.range_succ, List.filter_append]
 simp only [List.filter_cons, List.filter_nil]
 split <;> simp
theorem bekL_le (t : List (List Bool)) (I : List Nat) (x k : Nat) : (bekL t I x k).length ≤ k := by
 unfold bekL
 have := List.length_filter_le (fun q => lq t (I.getD q 0) x) (List.range k)
 simpa using this
theorem bekL_row {t : List (List Bool)} {I : List Nat} {x : Nat} : rowL I.length (nats (bekL t I x I.length)) = phi (lq t) I x := by
 refine row_ext (n := I.length) (rowL_len ..) (phi_len ..) fun i hi => ?_
 unfold nats
 rw [rowL_nats, setR_get hi, phi_get hi, Bool.eq_iff_iff, decide_eq_true_eq]
 unfold bekL
 rw [List.mem_filter, List.mem_range]
 exact ⟨fun h => h.2, fun h => ⟨hi, h⟩⟩
theorem bekL_lt {t : List (List Bool)} {I : List Nat} {x : Nat} : ∀ z ∈ nats (bekL t I x I.length), 0 ≤ z ∧ z < (I.length : Nat) := fun z hz => by
 obtain ⟨q, hq, rfl⟩ := List.mem_map.1 hz
 have := List.mem_range.1 (List.mem_filter.1 hq).1
 omega
end Go.Proofs.B

namespace Go.Proofs.B
open Go.AM Go
set_option maxRecDepth 100000
set_option maxHeartbeats 8000000
theorem ixf_spec {α : Type} {p : α → Bool} {l : List α} {d : α} (h : ∃ k, k < l.length ∧ p (l.getD k d) = true) : ∃ k, k < l.length ∧ ixf p l = (k : Nat) ∧ p (l.getD k d) = true := by
 obtain ⟨k, hk, hp⟩ := h
 have hm : l.getD k d ∈ l := mem_getD hk d
 have hany : l.any p = true := List.any_eq_true.2 ⟨_, hm, hp⟩
 have hlt := List.findIdx_lt_length_of_exists (p := p) (xs := l) ⟨_, hm, hp⟩
 refine ⟨l.findIdx p, hlt, by unfold ixf; rw [if_pos hany], ?_⟩
 have := List.findIdx_getElem (w := hlt)
 rw [List.getD_eq_getElem?_getD, List.getElem?_eq_getElem hlt]
 exact this
end Go.Proofs.B

namespace Go.Proofs.B
open Go.AM Go
set_option maxRecDepth 100000
set_option maxHeartbeats 8000000
/-- What is true of a lattice and the ideals of its irreducibles. -/
theorem lat_all (n : Nat) (t : List (List Bool)) (hs : Sq n t) (hp : IsPo n t) (hlat : latB t n = true) : ∃ (I : List Nat) (Q U : List (List Bool)) (P : Nat → Nat),
  I = irrL (covT n t) n n ∧ Q = resT t I ∧ U = allU (invT I.length Q) I.length ∧ I.length ≤ n ∧ (∀ m ∈ I, m < n) ∧ Sq I.length Q ∧ IsPo I.length Q ∧ n ≤ U.length ∧
  ((∀ a, a < n → ∀ b, b < n → ∀ c, c < n → dsP (jnT t n) (mtT t n) a b c = true) ↔ U.length = n) ∧
  (∀ x, x < n → P x < U.length ∧ ixf (fun y => decide (y = phi (lq t) I x)) U = (P x : Nat)) ∧ (∀ x y, x < n → y < n → (P x = P y ↔ x = y)) ∧ (∀ x y, x < n → y < n → atT (inclT U) (P x) (P y) = atT t x y) := by
 have h0 : 0 < n := by
  unfold latB at hlat
  rw [Bool.and_eq_true] at hlat
  exact of_decide_eq_true hlat.1
 have hL := ltc_of hs hp hlat
 have hI := irrL_iff hs hp
 obtain ⟨h1, h2, h3⟩ := lat_ids hp hL h0 (irrL_nodup (covT n t) n) hI
 have hpo := hp.res (M := irrL (covT n t) n n) fun m hm => ((hI m).1 hm).1
 have hnd := allU_nodup (invT (irrL (covT n t) n n).length (resT t (irrL (covT n t) n n))) (irrL (covT n t) n n).length
 have hple := fun x y hx hy => hL.phi_le hI (x := x) (y := y) hx hy
 have hpin := fun x y hx hy => hL.phi_inj hI (x := x) (y := y) hx hy
 have hI2 : ∀ m ∈ irrL (covT n t) n n, m < n := fun m hm => ((hI m).1 hm).1
 have hIle := irrL_le (covT n t) n n
 generalize irrL (covT n t) n n = I at *
 have hqs := resT_sq t I
 generalize hU : allU (invT I.length (resT t I)) I.length = U at *
 have hpl : ∀ x, x < n → ∃ k, k < U.length ∧ ixf (fun y => decide (y = phi (lq t) I x)) U = (k : Nat) ∧ U.getD k [] = phi (lq t) I x := fun x hx => by
  obtain ⟨k, hk, e⟩ := mem_atL (h1 x hx)
  obtain ⟨q, hq, e1, e2⟩ := ixf_spec (p := fun y => decide (y = phi (lq t) I x)) (d := []) ⟨k, hk, decide_eq_true e⟩
  exact ⟨q, hq, e1, of_decide_eq_true e2⟩
 have hdis : DisJ n (jnN t n) (jnN (invT n t) n) ↔ ∀ a, a < n → ∀ b, b < n → ∀ c, c < n → dsP (jnT t n) (mtT t n) a b c = true := by
  constructor
  ·intro h a ha b hb c hc
   rw [dsP_eq hs hlat ha hb hc]
   exact decide_eq_true (h a b c ha hb hc)
  ·intro h a b c ha hb hc
   have := h a ha b hb c hc
   rw [dsP_eq hs hlat ha hb hc] at this
   exact of_decide_eq_true this
 have hPP : ∀ x y, x < n → y < n → ((ixf (fun y => decide (y = phi (lq t) I x)) U).toNat = (ixf (fun z => decide (z = phi (lq t) I y)) U).toNat ↔ x = y) := fun x y hx hy => by
  obtain ⟨k, hk, e, ek⟩ := hpl x hx
  obtain ⟨l, hl, f, fl⟩ := hpl y hy
  rw [e, f, Int.toNat_natCast, Int.toNat_natCast]
  constructor
  ·intro h
   rw [h, fl] at ek
   exact (hpin y x hy hx ek).symm
  ·intro h
   subst h
   exact getD_injL hnd hk hl (by rw [ek, fl])
 refine ⟨I, resT t I, U, fun x => (ixf (fun y => decide (y = phi (lq t) I x)) U).toNat, rfl, rfl, hU.symm, hIle, hI2, hqs, hpo, h2, hdis.symm.trans h3, fun x hx => ?_, hPP, fun x y hx hy => ?_⟩
 ·obtain ⟨k, hk, e, _⟩ := hpl x hx
  refine ⟨?_, ?_⟩
  ·show (ixf _ _).toNat < _
   rw [e, Int.toNat_natCast]; exact hk
  ·show ixf _ _ = ((ixf _ _).toNat : Nat)
   rw [e, Int.toNat_natCast]
 ·have hne := hPP x y hx hy
  obtain ⟨k, hk, e, ek⟩ := hpl x hx
  obtain ⟨l, hl, f, fl⟩ := hpl y hy
  show atT _ (ixf _ _).toNat (ixf _ _).toNat = _
  rw [e, f, Int.toNat_natCast, Int.toNat_natCast] at hne ⊢
  rw [incl_at U hk hl, ek, fl, hple x y hx hy, at_lq hp hx, Bool.and_comm]
  congr 1
  exact decide_eq_decide.2 (not_congr hne)
theorem great_len {rs : List USet} (h : greatB rs = false) : rs.length ≤ 30 := by
 unfold greatB at h
 rw [Bool.or_eq_false_iff, decide_eq_false_iff_not] at h
 omega
theorem lats_0 (rs : List USet) (hl : longR rs) (b c : Bool) (ho : Reads Tryz.prog 11 false [relV rs] (.bool b)) (hi : b = true → Reads Tryz.prog 15 false [relV rs] (.bool c)) (h : greatB rs = true ∨ b = false ∨ c = false) : Reads Tryz.prog 5 false [relV rs] (.bool true) := by
 have ha := awake_r
 have hg := great_r rs hl
 generalize greatB rs = gr at *
 unfold relV at *
 refine Reads.body (rs := [.tmp 2]) Tryz.func5 rfl Tryz.ntmps5 rfl (by simp) ?_
 generalize hQr : retQ _ _ _ = Qr
 refine AW.sg [1] [1] trivial ?_
 refine AW.seq fun K1 hK1 => ?_
 refine AW.so 0 (fun ii => if ii = 0 then some (.reads false (.bool true)) else none) [1,25] [1] trivial ?_
 repeat with_reducible refine cj ?_ ?_
 all_goals try first | (exact ha) | omega | exact ent (by kernel_rfl)
 refine AW.cn ?_ ?_
 ·intro hb
  exfalso; simp at hb
 ·intro hb
  refine AW.skip ?_
  refine hK1 _ _ _ ?_; clear hK1
  refine AW.seq fun K2 hK2 => ?_
  refine AW.so 0 (fun ii => if ii = 1 then some (.reads false (.bool gr)) else if ii = 4 then some (.reads false (.bool b)) else if ii = 9 then some (.reads false (.bool c)) else none) [1,37] [1] trivial ?_
  repeat with_reducible refine cj ?_ ?_
  all_goals try first | (first | exact hg | (intro hh; exact ⟨hh, ho⟩) | (intro hh; refine ⟨hh, hi ?_⟩; simp_all)) | (intros; (repeat' apply And.intro) <;> first | assumption | (first | exact hg | (intro hh; exact ⟨hh, ho⟩) | (intro hh; refine ⟨hh, hi ?_⟩; simp_all))) | omega | exact ent (by kernel_rfl) | (intro hgd; exact absurd hgd (by decide)) | rfl | exact gD | (intro _hgd; simp_all [go_sem]; done)
  refine AW.cn ?_ ?_
  ·intro hb
   refine AW.sg [2] [] trivial ?_
   rw [← hQr]
   refine AW.rt trivial ?_
   exact Wk.refl _
  ·intro hb
   exfalso; rcases h with h | h | h <;> (subst h; simp at hb)
/-- The part that all lattices share. -/
structure LatO (n : Nat) (t : List (List Bool)) (I : List Nat) (Q : List (List Bool)) (b : Bool) (x y z : Int) : Prop where
 great : Reads Tryz.prog 10 false [relB t] (.bool false)
 order : Reads Tryz.prog 11 false [relB t] (.bool true)
 lat : Reads Tryz.prog 15 false [relB t] (.bool true)
 table : Reads Tryz.prog 22 false [relB t] (.rsl 1 (rowsR t))
 dis : Reads Tryz.prog 13 false [relB t] (.tup [.bool b, .agg [.int .i64 x, .int .i64 y, .int .i64 z], .int .i64 0])
 irr : Reads Tryz.prog 14 false [relB t] (.tup [relB Q, .rsl 1 (ints (nats I)), .int .i64 ((0 : Nat) : Int)])
theorem lats_b (n : Nat) (t : List (List Bool)) (hs : Sq n t) (hn : n ≤ 30) (I : List Nat) (Q : List (List Bool)) (hIn : I.length ≤ n) (hsQ : Sq I.length Q) (x y z : Int) (H : LatO n t I Q false x y z) (hid : Reads Tryz.prog 12 false [relB Q] (.tup [.agg [.nilsl], .nilsl, .int .i64 9])) : Reads Tryz.prog 5 false [relB t] (.bool true) := by
 have ha := awake_r
 obtain ⟨hg, hod, hil, htab, hds, hir⟩ := H
 have hlt : (tabR t).length = n := by rw [tabR_len, hs.len]
 have hlq : (tabR Q).length = I.length := by rw [tabR_len, hsQ.len]
 have hIi : (ints (nats I)).length = I.length := by rw [ints_len, nats_len]
 have q1 : decide (((n : Nat) : Int) < (I.length : Nat)) = false := decide_eq_false (by omega)
 have q2 : decide (((I.length : Nat) : Int) = (I.length : Nat)) = true := decide_eq_true rfl
 generalize rowsR t = R at *
 unfold relB at *
 refine Reads.body (rs := [.tmp 2]) Tryz.func5 rfl Tryz.ntmps5 rfl (by simp) ?_
 generalize hQr : retQ _ _ _ = Qr
 refine AW.sg [1] [1] trivial ?_
 refine AW.seq fun K1 hK1 => ?_
 refine AW.so 0 (fun ii => if ii = 0 then some (.reads false (.bool true)) else none) [1,25] [1] trivial ?_
 repeat with_reducible refine cj ?_ ?_
 all_goals try first | (exact ha) | omega | exact ent (by kernel_rfl)
 refine AW.cn ?_ ?_
 ·intro hb
  exfalso; simp at hb
 ·intro hb
  refine AW.skip ?_
  refine hK1 _ _ _ ?_; clear hK1
  refine AW.seq fun K2 hK2 => ?_
  refine AW.so 0 (fun ii => if ii = 1 then some (.reads false (.bool false)) else if ii = 4 then some (.reads false (.bool true)) else if ii = 9 then some (.reads false (.bool true)) else none) [1,37] [1] trivial ?_
  repeat with_reducible refine cj ?_ ?_
  all_goals try first | (first | exact hg | (intro hh; exact ⟨hh, hod⟩) | (intro hh; exact ⟨hh, hil⟩)) | (intros; (repeat' apply And.intro) <;> first | assumption | (first | exact hg | (intro hh; exact ⟨hh, hod⟩) | (intro hh; exact ⟨hh, hil⟩))) | omega | exact ent (by kernel_rfl) | (intro hgd; exact absurd hgd (by decide)) | rfl | exact gD | (intro _hgd; simp_all [go_sem]; done)
  refine AW.cn ?_ ?_
  ·intro hb
   exfalso; simp at hb
  ·intro hb
   refine AW.skip ?_
   refine hK2 _ _ _ ?_; clear hK2
   refine AW.sg [1,3] [1] (@hlt) ?_
   refine AW.so 0 (fun ii => if ii = 1 then some (.reads false (.rsl 1 R)) else none) [1,3,4] [1] trivial ?_
   repeat with_reducible refine cj ?_ ?_
   all_goals try first | (exact htab) | omega | exact ent (by kernel_rfl)
   refine AW.so 0 (fun ii => if ii = 1 then some (.reads false (.tup [.bool false, .agg [.int .i64 x, .int .i64 y, .int .i64 z], .int .i64 0])) else none) [1,3,4,5,7] [1] trivial ?_
   repeat with_reducible refine cj ?_ ?_
   all_goals try first | (exact hds) | omega | exact ent (by kernel_rfl)
   refine AW.so 0 (fun ii => if ii = 1 then some (.reads false (.tup [.agg [.rsl 2 (tabR Q)], .rsl 1 (ints (nats I)), .int .i64 ((0 : Nat) : Int)])) else none) [3,4,5,7,8,9,10] [8] trivial ?_
   repeat with_reducible refine cj ?_ ?_
   all_goals try first | (exact hir) | omega | exact ent (by kernel_rfl)
   refine AW.seq fun K3 hK3 => ?_
   refine AW.sg [3,4,5,8,9,74] [8] (e4 @hIi @hlq @q1 @q2) ?_
   repeat with_reducible refine cj ?_ ?_
   all_goals try first | omega | (intros; (repeat' apply And.intro) <;> first | assumption | omega | decide) | (intro hgd; exact absurd hgd (by decide)) | rfl | (simp only [go_sem, reduceIte, reduceCtorEq, zA, zM, zE, zL, zD, zS, zP, zB, zI, zR, hIi, hlq, q1, q2]; done) | (intro _hgd; simp_all [go_sem]; done)
   refine AW.cn ?_ ?_
   ·intro hb
    exfalso; simp at hb
   ·intro hb
    refine AW.skip ?_
    refine hK3 _ _ _ ?_; clear hK3
    refine AW.so 0 (fun ii => if ii = 1 then some (.reads false (.tup [.agg [.nilsl], .nilsl, .int .i64 9])) else none) [3,4,5,9,11,12,13] [11] trivial ?_
    repeat with_reducible refine cj ?_ ?_
    all_goals try first | (exact hid) | omega | exact ent (by kernel_rfl)
    refine AW.seq fun K4 hK4 => ?_
    refine AW.sg [3,4,5,9,11,12,13,82] [11] trivial ?_
    refine AW.cn ?_ ?_
    ·intro hb
     refine AW.sg [2] [] trivial ?_
     repeat with_reducible refine cj ?_ ?_
     all_goals try first | omega | (intros; (repeat' apply And.intro) <;> first | assumption | omega | decide) | (intro hgd; exact absurd hgd (by decide)) | rfl | exact gD | (intro _hgd; simp_all [go_sem]; done)
     rw [← hQr]
     refine AW.rt trivial ?_
     exact Wk.of_eq (by simp)
    ·intro hb
     exfalso; simp at hb
theorem lats_n (n : Nat) (t : List (List Bool)) (hs : Sq n t) (hn : n ≤ 30) (I : List Nat) (Q : List (List Bool)) (hIn : I.length ≤ n) (hsQ : Sq I.length Q) (x y z : Int) (H : LatO n t I Q false x y z) (U E : List (List Bool)) (hU : n < U.length) (hU2 : U.length ≤ 512) (hid : Reads Tryz.prog 12 false [relB Q] (.tup [relB E, .rsl 2 (tabR U), .int .i64 ((0 : Nat) : Int)])) : Reads Tryz.prog 5 false [relB t] (.bool true) := by
 have ha := awake_r
 obtain ⟨hg, hod, hil, htab, hds, hir⟩ := H
 have hlt : (tabR t).length = n := by rw [tabR_len, hs.len]
 have hlq : (tabR Q).length = I.length := by rw [tabR_len, hsQ.len]
 have hIi : (ints (nats I)).length = I.length := by rw [ints_len, nats_len]
 have hUl := tabR_len U
 have q1 : decide (((n : Nat) : Int) < (I.length : Nat)) = false := decide_eq_false (by omega)
 have q2 : decide (((I.length : Nat) : Int) = (I.length : Nat)) = true := decide_eq_true rfl
 have q3 : decide (((n : Nat) : Int) < (U.length : Nat)) = true := decide_eq_true (by omega)
 generalize rowsR t = R at *
 unfold relB at *
 refine Reads.body (rs := [.tmp 2]) Tryz.func5 rfl Tryz.ntmps5 rfl (by simp) ?_
 generalize hQr : retQ _ _ _ = Qr
 refine AW.sg [1] [1] trivial ?_
 refine AW.seq fun K1 hK1 => ?_
 refine AW.so 0 (fun ii => if ii = 0 then some (.reads false (.bool true)) else none) [1,25] [1] trivial ?_
 repeat with_reducible refine cj ?_ ?_
 all_goals try first | (exact ha) | omega | exact ent (by kernel_rfl)
 refine AW.cn ?_ ?_
 ·intro hb
  exfalso; simp at hb
 ·intro hb
  refine AW.skip ?_
  refine hK1 _ _ _ ?_; clear hK1
  refine AW.seq fun K2 hK2 => ?_
  refine AW.so 0 (fun ii => if ii = 1 then some (.reads false (.bool false)) else if ii = 4 then some (.reads false (.bool true)) else if ii = 9 then some (.reads false (.bool true)) else none) [1,37] [1] trivial ?_
  repeat with_reducible refine cj ?_ ?_
  all_goals try first | (first | exact hg | (intro hh; exact ⟨hh, hod⟩) | (intro hh; exact ⟨hh, hil⟩)) | (intros; (repeat' apply And.intro) <;> first | assumption | (first | exact hg | (intro hh; exact ⟨hh, hod⟩) | (intro hh; exact ⟨hh, hil⟩))) | omega | exact ent (by kernel_rfl) | (intro hgd; exact absurd hgd (by decide)) | rfl | exact gD | (intro _hgd; simp_all [go_sem]; done)
  refine AW.cn ?_ ?_
  ·intro hb
   exfalso; simp at hb
  ·intro hb
   refine AW.skip ?_
   refine hK2 _ _ _ ?_; clear hK2
   refine AW.sg [1,3] [1] (@hlt) ?_
   refine AW.so 0 (fun ii => if ii = 1 then some (.reads false (.rsl 1 R)) else none) [1,3,4] [1] trivial ?_
   repeat with_reducible refine cj ?_ ?_
   all_goals try first | (exact htab) | omega | exact ent (by kernel_rfl)
   refine AW.so 0 (fun ii => if ii = 1 then some (.reads false (.tup [.bool false, .agg [.int .i64 x, .int .i64 y, .int .i64 z], .int .i64 0])) else none) [1,3,4,5,7] [1] trivial ?_
   repeat with_reducible refine cj ?_ ?_
   all_goals try first | (exact hds) | omega | exact ent (by kernel_rfl)
   refine AW.so 0 (fun ii => if ii = 1 then some (.reads false (.tup [.agg [.rsl 2 (tabR Q)], .rsl 1 (ints (nats I)), .int .i64 ((0 : Nat) : Int)])) else none) [3,4,5,7,8,9,10] [8] trivial ?_
   repeat with_reducible refine cj ?_ ?_
   all_goals try first | (exact hir) | omega | exact ent (by kernel_rfl)
   refine AW.seq fun K3 hK3 => ?_
   refine AW.sg [3,4,5,8,9,74] [8] (e4 @hIi @hlq @q1 @q2) ?_
   repeat with_reducible refine cj ?_ ?_
   all_goals try first | omega | (intros; (repeat' apply And.intro) <;> first | assumption | omega | decide) | (intro hgd; exact absurd hgd (by decide)) | rfl | (simp only [go_sem, reduceIte, reduceCtorEq, zA, zM, zE, zL, zD, zS, zP, zB, zI, zR, hIi, hlq, q1, q2]; done) | (intro _hgd; simp_all [go_sem]; done)
   refine AW.cn ?_ ?_
   ·intro hb
    exfalso; simp at hb
   ·intro hb
    refine AW.skip ?_
    refine hK3 _ _ _ ?_; clear hK3
    refine AW.so 0 (fun ii => if ii = 1 then some (.reads false (.tup [.agg [.rsl 2 (tabR E)], .rsl 2 (tabR U), .int .i64 ((0 : Nat) : Int)])) else none) [3,4,5,9,11,12,13] [11] trivial ?_
    repeat with_reducible refine cj ?_ ?_
    all_goals try first | (exact hid) | omega | exact ent (by kernel_rfl)
    refine AW.seq fun K4 hK4 => ?_
    refine AW.sg [3,4,5,9,11,12,13,82] [11] trivial ?_
    refine AW.cn ?_ ?_
    ·intro hb
     exfalso; simp at hb
    ·intro hb
     refine AW.skip ?_
     refine hK4 _ _ _ ?_; clear hK4
     refine AW.seq fun K5 hK5 => ?_
     refine AW.sg [3,4,9,11,12,90] [11] trivial ?_
     refine AW.cn ?_ ?_
     ·intro hb
      refine AW.sg [2] [] (e2 @hUl @q3) ?_
      rw [← hQr]
      refine AW.rt trivial ?_
      exact Wk.of_eq (by simp)
     ·intro hb
      exfalso; simp at hb
end Go.Proofs.B

namespace Go.Proofs.B
open Go.AM Go
set_option maxRecDepth 100000
set_option maxHeartbeats 16000000
theorem lats_d (n : Nat) (t : List (List Bool)) (hs : Sq n t) (hn : n ≤ 30) (I : List Nat) (Q : List (List Bool)) (hIn : I.length ≤ n) (hIm : ∀ m ∈ I, m < n) (hsQ : Sq I.length Q) (x0 y0 z0 : Int) (H : LatO n t I Q true x0 y0 z0) (U : List (List Bool)) (hU : U.length = n) (hUl : ∀ b ∈ U, b.length = I.length)
  (hid : Reads Tryz.prog 12 false [relB Q] (.tup [relB (inclT U), .rsl 2 (tabR U), .int .i64 ((0 : Nat) : Int)])) (P : Nat → Nat) (hP : ∀ x, x < n → P x < U.length ∧ ixf (fun y => decide (y = phi (lq t) I x)) U = (P x : Nat)) (hPi : ∀ x y, x < n → y < n → (P x = P y ↔ x = y)) (hPa : ∀ x y, x < n → y < n → atT (inclT U) (P x) (P y) = atT t x y) : Reads Tryz.prog 5 false [relB t] (.bool true) := by
 have ha := awake_r
 obtain ⟨hg, hod, hil, htab, hds, hir⟩ := H
 have hsE := inclT_sq U
 rw [hU] at hsE
 generalize inclT U = E at *
 have hve := rrvalid_g n E hsE (by omega)
 have hte := (table_r n E hsE (by omega)).old
 have hlt : (tabR t).length = n := by rw [tabR_len, hs.len]
 have hlq : (tabR Q).length = I.length := by rw [tabR_len, hsQ.len]
 have hle : (tabR E).length = n := by rw [tabR_len, hsE.len]
 have hIi : (ints (nats I)).length = I.length := by rw [ints_len, nats_len]
 have hul : (tabR U).length = n := by rw [tabR_len, hU]
 have q1 : decide (((n : Nat) : Int) < (I.length : Nat)) = false := decide_eq_false (by omega)
 have q2 : decide (((I.length : Nat) : Int) = (I.length : Nat)) = true := decide_eq_true rfl
 have q3 : decide (((n : Nat) : Int) = (n : Nat)) = true := decide_eq_true rfl
 have hPl : ∀ x, x < n → P x < n := fun x hx => by have := (hP x hx).1; omega
 have hof : ∀ x, x < n → Reads Tryz.prog 23 true [.int .i64 I.length, .rsl 1 (ints (nats (bekL t I x I.length)))] (.tup [.agg (rowB (phi (lq t) I x)), .int .i64 ((0 : Nat) : Int)]) := fun x hx => by
  have := ofRow_r I.length (nats (bekL t I x I.length)) (by omega) (by rw [nats_len]; have := bekL_le t I x I.length; omega) bekL_lt
  rw [bekL_row] at this
  exact this
 have hix : ∀ x, x < n → Reads Tryz.prog 29 true [.rsl 2 (tabR U), .fn 30 [.rptr (rowB (phi (lq t) I x))]] (.int .i64 (P x : Nat)) := fun x hx => by
  have := Reads.flat (ixl_r I.length (by omega) U hUl (by omega) (phi (lq t) I x) (phi_len ..)) rfl
  rw [(hP x hx).2] at this
  exact this
 have hphl : ∀ x, (phi (lq t) I x).length = I.length := fun x => phi_len ..
 have hrl : (rowsR t).length = n := by rw [rowsR_len, hs.len]
 have hre : (rowsR E).length = n := by rw [rowsR_len, hsE.len]
 have hgr := fun x (hx : x < n) => rowsR_get (t := t) (i := x) (by rw [hs.len]; exact hx)
 have hge := fun x (hx : x < n) => rowsR_get (t := E) (i := x) (by rw [hsE.len]; exact hx)
 have hbr : ∀ a c, a < n → c < n → (bools (rowT t a)).getD c [] = [.bool (atT t a c)] := fun a c ha hc => bools_getD (l := rowT t a) (i := c) (by rw [hs.rowLen ha]; exact hc)
 have hbe : ∀ a c, a < n → c < n → (bools (rowT E a)).getD c [] = [.bool (atT E a c)] := fun a c ha hc => bools_getD (l := rowT E a) (i := c) (by rw [hsE.rowLen ha]; exact hc)
 have hblr : ∀ a, a < n → (bools (rowT t a)).length = n := fun a ha => by rw [bools_len, hs.rowLen ha]
 have hble : ∀ a, a < n → (bools (rowT E a)).length = n := fun a ha => by rw [bools_len, hsE.rowLen ha]
 have hbls := fun x k => bekL_succ t I x k
 have hbll := fun x k => bekL_le t I x k
 have hgI : ∀ k, k < I.length → (ints (nats I)).getD k [] = [.int .i64 (I.getD k 0 : Nat)] := fun k hk => nats_getD hk
 have hmI : ∀ k, k < I.length → I.getD k 0 < n := fun k hk => hIm _ (mem_getD hk 0)
 have hplz : List.replicate n [AV.int .i64 0] = ints (nats (plL P n 0)) := by rw [plL_zero, nats_rep]
 have hpls := fun x (hx : x < n) => plL_set (P := P) hx
 have hpll := fun x => plL_len P n x
 have hplg := fun x (hx : x < n) => plL_get (P := P) hx
 have hplg1 : ∀ x, x < n → (plL P n (x + 1)).getD x 0 = P x := fun x hx => by
  unfold plL
  simp [List.getD_eq_getElem?_getD, hx]
 have hlqd : ∀ m x, lq t m x = (decide (m = x) || atT t m x) := fun m x => rfl
 generalize hplE : plL P n = pl at *
 generalize hbkE : bekL t I = bk at *
 generalize hphE : phi (lq t) I = ph at *
 have hbk0 : ∀ x, bk x 0 = [] := fun x => by rw [← hbkE]; rfl
 clear hP hIm hUl hs hsQ hsE
 generalize hRt : rowsR t = R at *
 generalize hRe : rowsR E = RE at *
 generalize hNI : I.length = N at *
 unfold relB rowB at *
 refine Reads.body (rs := [.tmp 2]) Tryz.func5 rfl Tryz.ntmps5 rfl (by simp) ?_
 generalize hQr : retQ _ _ _ = Qr
 refine AW.sg [1] [1] trivial ?_
 refine AW.seq fun K1 hK1 => ?_
 refine AW.so 0 (fun ii => if ii = 0 then some (.reads false (.bool true)) else none) [1,25] [1] trivial ?_
 repeat with_reducible refine cj ?_ ?_
 all_goals try first | (exact ha) | omega | exact ent (by kernel_rfl)
 refine AW.cn ?_ ?_
 ·intro hb
  exfalso; simp at hb
 ·intro hb
  refine AW.skip ?_
  refine hK1 _ _ _ ?_; clear hK1
  refine AW.seq fun K2 hK2 => ?_
  refine AW.so 0 (fun ii => if ii = 1 then some (.reads false (.bool false)) else if ii = 4 then some (.reads false (.bool true)) else if ii = 9 then some (.reads false (.bool true)) else none) [1,37] [1] trivial ?_
  repeat with_reducible refine cj ?_ ?_
  all_goals try first | (first | exact hg | (intro hh; exact ⟨hh, hod⟩) | (intro hh; exact ⟨hh, hil⟩)) | (intros; (repeat' apply And.intro) <;> first | assumption | (first | exact hg | (intro hh; exact ⟨hh, hod⟩) | (intro hh; exact ⟨hh, hil⟩))) | omega | exact ent (by kernel_rfl) | (intro hgd; exact absurd hgd (by decide)) | rfl | exact gD | (intro _hgd; simp_all [go_sem]; done)
  refine AW.cn ?_ ?_
  ·intro hb
   exfalso; simp at hb
  ·intro hb
   refine AW.skip ?_
   refine hK2 _ _ _ ?_; clear hK2
   refine AW.sg [1,3] [1] (@hlt) ?_
   refine AW.so 0 (fun ii => if ii = 1 then some (.reads false (.rsl 1 R)) else none) [1,3,4] [1] trivial ?_
   repeat with_reducible refine cj ?_ ?_
   all_goals try first | (exact htab) | omega | exact ent (by kernel_rfl)
   refine AW.so 0 (fun ii => if ii = 1 then some (.reads false (.tup [.bool true, .agg [.int .i64 x0, .int .i64 y0, .int .i64 z0], .int .i64 0])) else none) [1,3,4,5,7] [1] trivial ?_
   repeat with_reducible refine cj ?_ ?_
   all_goals try first | (exact hds) | omega | exact ent (by kernel_rfl)
   refine AW.so 0 (fun ii => if ii = 1 then some (.reads false (.tup [.agg [.rsl 2 (tabR Q)], .rsl 1 (ints (nats I)), .int .i64 ((0 : Nat) : Int)])) else none) [3,4,5,7,8,9,10] [8] trivial ?_
   repeat with_reducible refine cj ?_ ?_
   all_goals try first | (exact hir) | omega | exact ent (by kernel_rfl)
   refine AW.seq fun K3 hK3 => ?_
   refine AW.sg [3,4,5,8,9,74] [8] (e4 @hIi @hlq @q1 @q2) ?_
   repeat with_reducible refine cj ?_ ?_
   all_goals try first | omega | (intros; (repeat' apply And.intro) <;> first | assumption | omega | decide) | (intro hgd; exact absurd hgd (by decide)) | rfl | (simp only [go_sem, reduceIte, reduceCtorEq, zA, zM, zE, zL, zD, zS, zP, zB, zI, zR, hIi, hlq, q1, q2]; done) | (intro _hgd; simp_all [go_sem]; done)
   refine AW.cn ?_ ?_
   ·intro hb
    exfalso; simp at hb
   ·intro hb
    refine AW.skip ?_
    refine hK3 _ _ _ ?_; clear hK3
    refine AW.so 0 (fun ii => if ii = 1 then some (.reads false (.tup [.agg [.rsl 2 (tabR E)], .rsl 2 (tabR U), .int .i64 ((0 : Nat) : Int)])) else none) [3,4,5,9,11,12,13] [11] trivial ?_
    repeat with_reducible refine cj ?_ ?_
    all_goals try first | (exact hid) | omega | exact ent (by kernel_rfl)
    refine AW.seq fun K4 hK4 => ?_
    refine AW.sg [3,4,5,9,11,12,13,82] [11] trivial ?_
    refine AW.cn ?_ ?_
    ·intro hb
     exfalso; simp at hb
    ·intro hb
     refine AW.skip ?_
     refine hK4 _ _ _ ?_; clear hK4
     refine AW.seq fun K5 hK5 => ?_
     refine AW.sg [3,4,9,11,12,90] [11] trivial ?_
     refine AW.cn ?_ ?_
     ·intro hb
      exfalso; simp at hb
     ·intro hb
      refine AW.skip ?_
      refine hK5 _ _ _ ?_; clear hK5
      refine AW.seq fun K6 hK6 => ?_
      refine AW.so 0 (fun ii => if ii = 13 then some (.reads false (.bool true)) else none) [3,4,9,11,12,110] [11] (e3 @hul @hle @q3) ?_
      repeat with_reducible refine cj ?_ ?_
      all_goals try first | (first | (intro hh; exact ⟨hh, hve⟩) | exact hve) | (intros; (repeat' apply And.intro) <;> first | assumption | (first | (intro hh; exact ⟨hh, hve⟩) | exact hve)) | omega | exact ent (by kernel_rfl) | (intro hgd; exact absurd hgd (by decide)) | rfl | (simp only [go_sem, reduceIte, reduceCtorEq, zA, zM, zE, zL, zD, zS, zP, zB, zI, zR, hul, hle, q3]; done) | (intro _hgd; simp_all [go_sem]; done)
      refine AW.cn ?_ ?_
      ·intro hb
       exfalso; simp at hb
      ·intro hb
       refine AW.skip ?_
       refine hK6 _ _ _ ?_; clear hK6
       refine AW.sg [3,4,9,11,12,14] [11,112] (@hplz) ?_
       refine AW.seq fun K7 hK7 => ?_
       refine AW.sg [3,4,9,11,12,14,113,114] [11,112] trivial ?_
       refine AW.block ?_
       clear ha hg hod hil htab hds hir hve hid hlt hlq hle q1 q2 q3 hplz
       refine AW.loopE (fun mm ee ss kk => ∃ (x g11 v11 g v : Nat), n - x = mm ∧ ee = [(3, .int .i64 n), (4, .rsl 1 R), (9, .rsl 1 (ints (nats I))), (11, .ptr ⟨11, g11, none⟩ 0 0), (12, .rsl 2 (tabR U)), (14, .sl ⟨112, g, none⟩ 0 n none), (113, .int .i64 n), (114, .int .i64 (x : Nat))] ∧ ss = [(11, some ⟨g11, v11, 1, [[.rsl 2 (tabR E)]]⟩), (112, some ⟨g, v, 1, ints (nats (pl x))⟩)] ∧ (x ≤ n)) ?_ ?_
       ·exact ⟨_, 0, _, _, _, _, rfl, eD, eD, eT⟩
       rintro mm ee ss kk ⟨x, g11, v11, g, v, rfl, rfl, rfl, hI⟩
       generalize hQl1 : thenQ _ _ = Ql1
       refine AW.sg [3,4,9,11,12,14,113,114,115] [11,112] trivial ?_
       refine AW.seq fun K8 hK8 => ?_
       refine AW.cn ?_ ?_
       ·intro hb
        have hxn : x < n := by omega
        have hofx := hof x hxn
        have hixx := hix x hxn
        have hplx := hpls x hxn
        have hpllx := hpll x
        have hns : (nats (pl x)).set x ((P x : Nat) : Int) = nats (pl (x + 1)) := by rw [← hplx]; simp [nats, List.map_set]
        have hgx1 : (ints (nats (pl (x + 1)))).getD x [] = [.int .i64 (P x : Nat)] := by rw [nats_getD (by rw [hpll]; exact hxn), hplg1 x hxn]
        have hphx := hphl x
        rw [hphx] at hofx hixx
        generalize setW (ph x) N = WX at *
        have hPx := hPl x hxn
        have hb0 := hbk0 x
        have qx : decide (((P x : Nat) : Int) < 0) = false := decide_eq_false (by omega)
        refine AW.skip ?_
        refine hK8 _ _ _ ?_; clear hK8
        refine AW.seq fun K9 hK9 => ?_
        refine AW.block ?_
        refine AW.sg [3,4,9,11,12,14,15,113,114] [11,112] trivial ?_
        refine AW.sg [3,4,9,11,12,14,15,16,113,114] [11,112] trivial ?_
        refine AW.seq fun K10 hK10 => ?_
        refine AW.sg [3,4,9,11,12,14,15,16,113,114,117,118,119] [11,112] (@hIi) ?_
        refine AW.block ?_
        refine AW.nilOwn 16 200 1 (by simp only [go_sem, reduceIte, zE]) ?_
        refine AW.keep [3, 4, 9, 11, 12, 14, 15, 16, 113, 114, 117, 118, 119] [11, 112, 200] ?_
        simp only [go_sem, reduceIte, zE]
        refine AW.loopE (fun mm ee ss kk => ∃ (k g11 v11 g v h w : Nat), N - k = mm ∧ ee = [(3, .int .i64 n), (4, .rsl 1 R), (9, .rsl 1 (ints (nats I))), (11, .ptr ⟨11, g11, none⟩ 0 0), (12, .rsl 2 (tabR U)), (14, .sl ⟨112, g, none⟩ 0 n none), (15, .int .i64 (x : Nat)), (16, .sl ⟨200, h, none⟩ 0 (bk x k).length none), (113, .int .i64 n), (114, .int .i64 (x : Nat)), (117, .rsl 1 (ints (nats I))), (118, .int .i64 N), (119, .int .i64 (k : Nat))] ∧ ss = [(11, some ⟨g11, v11, 1, [[.rsl 2 (tabR E)]]⟩), (112, some ⟨g, v, 1, ints (nats (pl x))⟩), (200, some ⟨h, w, 1, ints (nats (bk x k))⟩)] ∧ (k ≤ N)) ?_ ?_
        ·refine ⟨_, 0, ?_, ?_, ?_, ?_, ?_, ?_, rfl, ?henv, ?hstore, ?hst⟩
         case henv =>
          repeat' (first | rfl | apply env_cons | apply st_cons | apply int_eq | apply bool_eq | apply rsl_eq | apply osl_eq | apply sl_eq | apply ptr_eq | apply agg_eq | apply es_cons | apply row_cons)
          all_goals (first | (rw [hb0]; rfl) | (simp; done) | omega)
         case hstore =>
          repeat' (first | rfl | apply env_cons | apply st_cons | apply int_eq | apply bool_eq | apply rsl_eq | apply osl_eq | apply sl_eq | apply ptr_eq | apply agg_eq | apply es_cons | apply row_cons)
          all_goals (first | (rw [hb0]; rfl) | (simp; done) | omega)
         case hst =>
          first | trivial | omega | (simp; done) | (simp; omega)
        rintro mm ee ss kk ⟨k, g11, v11, g, v, h, w, rfl, rfl, rfl, hI⟩
        generalize hQl2 : thenQ _ _ = Ql2
        refine AW.sg [3,4,9,11,12,14,15,16,113,114,117,118,119,120] [11,112,200] trivial ?_
        refine AW.seq fun K11 hK11 => ?_
        refine AW.cn ?_ ?_
        ·intro hb
         have hkN : k < N := by omega
         have hgk := hgI k hkN
         have hmk := hmI k hkN
         have hbsk := hbls x k
         have hbel := hbll x k
         have htk : (ints (nats (bk x k))).take (bk x k).length = ints (nats (bk x k)) := List.take_of_length_le (by rw [ints_len, nats_len]; exact Nat.le_refl _)
         generalize I.getD k 0 = m at *
         have hlqm := hlqd m x
         have hgm := hgr m hmk
         have hbm := hbr m x hmk hxn
         have hlm := hblr m hmk
         have qm : decide (((m : Nat) : Int) = (x : Nat)) = decide (m = x) := decide_eq_decide.2 (by omega)
         have qm0 : decide (((m : Nat) : Int) < 0) = false := decide_eq_false (by omega)
         have qm1 : decide (((n : Nat) : Int) ≤ (m : Nat)) = false := decide_eq_false (by omega)
         generalize bk x k = bl at *
         refine AW.skip ?_
         refine hK11 _ _ _ ?_; clear hK11
         refine AW.seq fun K12 hK12 => ?_
         refine AW.block ?_
         refine AW.sg [3,4,9,11,12,14,15,16,17,18,113,114,117,118,119] [11,112,200] (e2 @hgk @hIi) ?_
         refine AW.seq fun K13 hK13 => ?_
         refine AW.sg [3,4,9,11,12,14,15,16,17,18,113,114,117,118,119,130] [11,112,200] (e2 @qm0 @qm1) ?_
         repeat with_reducible refine cj ?_ ?_
         all_goals try first | omega | (intros; (repeat' apply And.intro) <;> first | assumption | omega | decide) | (intro hgd; exact absurd hgd (by decide)) | rfl | (simp only [go_sem, reduceIte, reduceCtorEq, zA, zM, zE, zL, zD, zS, zP, zB, zI, zR, qm0, qm1]; done) | (intro _hgd; simp_all [go_sem]; done)
         refine AW.cn ?_ ?_
         ·intro hb
          exfalso; simp at hb
         ·intro hb
          refine AW.skip ?_
          refine hK13 _ _ _ ?_; clear hK13
          refine AW.sg [3,4,9,11,12,14,15,16,17,113,114,117,118,119,142] [11,112,200] (e4 @hrl @hgm @hlm @hbm) ?_
          repeat with_reducible refine cj ?_ ?_
          all_goals try first | omega | (intros; (repeat' apply And.intro) <;> first | assumption | omega | decide) | (intro hgd; exact absurd hgd (by decide)) | rfl | (simp only [go_sem, reduceIte, reduceCtorEq, zA, zM, zE, zL, zD, zS, zP, zB, zI, zR, hrl, hgm, hlm, hbm]; done) | (intro _hgd; simp_all [go_sem]; done)
          refine AW.cn ?_ ?_
          ·intro hb
           have hlq1 : lq t m x = true := by rw [hlqm, ← qm]; simpa using hb
           rw [if_pos hlq1] at hbsk
           refine AW.regionK 0 (fun _ => none) [3, 4, 9, 11, 12, 14, 15, 16, 113, 114, 117, 118, 119] [11, 112, 200] ?_
           simp only [go_sem, reduceIte, reduceCtorEq, zA, zM, zE, zL, zD, zS, zP, zB, zI, zR, htk, ints_app, nats_app, nats_len, ints_len]
           repeat with_reducible refine cj ?_ ?_
           all_goals try first | omega | (simp [scP, scalar]; done) | exact scP_words _ | exact scP_ints _ | exact scP_bools _
           refine hK12 _ _ _ ?_; clear hK12
           refine AW.rg [3,4,9,11,12,14,15,16,113,114,117,118,119] [11,112,200] trivial ?_
           rw [← hQl2]; change Exists _
           refine ⟨_, ?hm, k + 1, ?_, ?_, ?_, ?_, ?_, ?_, rfl, ?henv, ?hstore, ?hst⟩
           case henv =>
            repeat' (first | rfl | apply env_cons | apply st_cons | apply int_eq | apply bool_eq | apply rsl_eq | apply osl_eq | apply sl_eq | apply ptr_eq | apply agg_eq | apply es_cons | apply row_cons)
            all_goals (first | (rw [hbsk]; done) | (rw [hbsk]; simp; done) | (simp; done) | omega)
           case hstore =>
            repeat' (first | rfl | apply env_cons | apply st_cons | apply int_eq | apply bool_eq | apply rsl_eq | apply osl_eq | apply sl_eq | apply ptr_eq | apply agg_eq | apply es_cons | apply row_cons)
            all_goals (rw [hbsk])
           case hst =>
            first | trivial | omega | (simp; done) | (simp; omega)
           case hm => omega
          ·intro hb
           have hlq1 : ¬ lq t m x = true := by rw [hlqm, ← qm]; simpa using hb
           rw [if_neg hlq1] at hbsk
           refine AW.skip ?_
           refine hK12 _ _ _ ?_; clear hK12
           refine AW.rg [3,4,9,11,12,14,15,16,113,114,117,118,119] [11,112,200] trivial ?_
           rw [← hQl2]; change Exists _
           refine ⟨_, ?hm, k + 1, ?_, ?_, ?_, ?_, ?_, ?_, rfl, ?henv, ?hstore, ?hst⟩
           case henv =>
            repeat' (first | rfl | apply env_cons | apply st_cons | apply int_eq | apply bool_eq | apply rsl_eq | apply osl_eq | apply sl_eq | apply ptr_eq | apply agg_eq | apply es_cons | apply row_cons)
            all_goals (first | (rw [hbsk]; done) | (rw [hbsk]; simp; done) | (simp; done) | omega)
           case hstore =>
            repeat' (first | rfl | apply env_cons | apply st_cons | apply int_eq | apply bool_eq | apply rsl_eq | apply osl_eq | apply sl_eq | apply ptr_eq | apply agg_eq | apply es_cons | apply row_cons)
            all_goals (rw [hbsk])
           case hst =>
            first | trivial | omega | (simp; done) | (simp; omega)
           case hm => omega
        ·intro hb
         have hkk : k = N := by omega
         rw [hkk]
         have htk : (ints (nats (bk x N))).take (bk x N).length = ints (nats (bk x N)) := List.take_of_length_le (by rw [ints_len, nats_len]; exact Nat.le_refl _)
         generalize bk x N = bl at *
         refine AW.kx [3,4,9,11,12,14,15,16,113,114] [11,112,200] ?_
         rw [← hQl2]
         refine hK10 _ _ _ ?_; clear hK10
         refine AW.so 0 (fun ii => if ii = 3 then some (.reads true (.tup [.agg [.int .i64 N, .rsl 1 (words WX)], .int .i64 ((0 : Nat) : Int)])) else none) [3,4,9,11,12,14,15,19,20,113,114] [11,112,19] (e2 @htk @hIi) ?_
         repeat with_reducible refine cj ?_ ?_
         all_goals try first | (exact hofx) | omega | exact ent (by kernel_rfl)
         refine AW.so 0 (fun ii => if ii = 4 then some (.reads true (.int .i64 (P x : Nat))) else none) [3,4,9,11,12,14,15,20,113,114] [11,112] (e4 @hpllx @nats_len @ints_len @hns) ?_
         repeat with_reducible refine cj ?_ ?_
         all_goals try first | (exact hixx) | omega | exact ent (by kernel_rfl)
         refine AW.sg [3,4,9,11,12,14,113,114,169] [11,112] (e2 @hpll (e5 @nats_len @ints_len @hgx1 @hns @qx)) ?_
         repeat with_reducible refine cj ?_ ?_
         all_goals try first | omega | (intros; (repeat' apply And.intro) <;> first | assumption | omega | decide) | (intro hgd; exact absurd hgd (by decide)) | rfl | (simp only [go_sem, reduceIte, reduceCtorEq, zA, zM, zE, zL, zD, zS, zP, zB, zI, zR, hpll, nats_len, ints_len, hgx1, hns, qx]; done) | (intro _hgd; simp_all [go_sem]; done)
         refine AW.cn ?_ ?_
         ·intro hb
          exfalso; first | (simp at hb; done) | (simp at hb; omega)
         ·intro hb
          refine AW.skip ?_
          refine hK9 _ _ _ ?_; clear hK9
          refine AW.rg [3,4,9,11,12,14,113,114] [11,112] trivial ?_
          rw [← hQl1]; change Exists _
          refine ⟨_, ?hm, x + 1, ?_, ?_, ?_, ?_, rfl, ?henv, ?hstore, ?hst⟩
          case henv =>
           repeat' (first | rfl | apply env_cons | apply st_cons | apply int_eq | apply bool_eq | apply rsl_eq | apply osl_eq | apply sl_eq | apply ptr_eq | apply agg_eq | apply es_cons | apply row_cons)
           all_goals (first | (simp; done) | omega | (simp; omega))
          case hstore =>
           repeat' (first | rfl | apply env_cons | apply st_cons | apply int_eq | apply bool_eq | apply rsl_eq | apply osl_eq | apply sl_eq | apply ptr_eq | apply agg_eq | apply es_cons | apply row_cons)
           all_goals (first | rfl | (rw [← hplx]; simp [nats, List.map_set]; done) | (simp; done))
          case hst =>
           first | trivial | omega | (simp; done) | (simp; omega)
          case hm => omega
       ·intro hb
        have hxx : x = n := by omega
        rw [hxx]
        refine AW.kx [3,4,11,14] [11,112] ?_
        rw [← hQl1]
        refine hK7 _ _ _ ?_; clear hK7
        refine AW.so 0 (fun ii => if ii = 1 then some (.reads false (.rsl 1 RE)) else none) [3,4,14,21] [112] trivial ?_
        repeat with_reducible refine cj ?_ ?_
        all_goals try first | (exact hte) | omega | exact ent (by kernel_rfl)
        refine AW.seq fun K14 hK14 => ?_
        refine AW.sg [3,4,14,21,173,174] [112] trivial ?_
        refine AW.block ?_
        refine AW.loopE (fun mm ee ss kk => ∃ (x g v : Nat), n - x = mm ∧ ee = [(3, .int .i64 n), (4, .rsl 1 R), (14, .sl ⟨112, g, none⟩ 0 n none), (21, .rsl 1 RE), (173, .int .i64 n), (174, .int .i64 (x : Nat))] ∧ ss = [(112, some ⟨g, v, 1, ints (nats (pl n))⟩)] ∧ (x ≤ n)) ?_ ?_
        ·exact ⟨_, 0, _, _, rfl, eD, eD, eT⟩
        rintro mm ee ss kk ⟨x, g, v, rfl, rfl, rfl, hI⟩
        generalize hQl3 : thenQ _ _ = Ql3
        refine AW.sg [3,4,14,21,173,174,175] [112] trivial ?_
        refine AW.seq fun K15 hK15 => ?_
        refine AW.cn ?_ ?_
        ·intro hb
         have hxn : x < n := by omega
         refine AW.skip ?_
         refine hK15 _ _ _ ?_; clear hK15
         refine AW.seq fun K16 hK16 => ?_
         refine AW.block ?_
         refine AW.sg [3,4,14,21,22,173,174] [112] trivial ?_
         refine AW.sg [3,4,14,21,22,173,174,177,178] [112] trivial ?_
         refine AW.block ?_
         refine AW.loopE (fun mm ee ss kk => ∃ (y g v : Nat), n - y = mm ∧ ee = [(3, .int .i64 n), (4, .rsl 1 R), (14, .sl ⟨112, g, none⟩ 0 n none), (21, .rsl 1 RE), (22, .int .i64 (x : Nat)), (173, .int .i64 n), (174, .int .i64 (x : Nat)), (177, .int .i64 n), (178, .int .i64 (y : Nat))] ∧ ss = [(112, some ⟨g, v, 1, ints (nats (pl n))⟩)] ∧ (y ≤ n)) ?_ ?_
         ·exact ⟨_, 0, _, _, rfl, eD, eD, eT⟩
         rintro mm ee ss kk ⟨y, g, v, rfl, rfl, rfl, hI⟩
         generalize hQl4 : thenQ _ _ = Ql4
         refine AW.sg [3,4,14,21,22,173,174,177,178,179] [112] trivial ?_
         refine AW.seq fun K17 hK17 => ?_
         refine AW.cn ?_ ?_
         ·intro hb
          have hyn : y < n := by omega
          have hg1 := hgr x hxn
          have hg2 := hge (P x) (hPl x hxn)
          have hg3 : (ints (nats (pl n))).getD x [] = [.int .i64 (P x : Nat)] := by rw [nats_getD (by rw [hpll]; exact hxn), hplg x hxn]
          have hg4 : (ints (nats (pl n))).getD y [] = [.int .i64 (P y : Nat)] := by rw [nats_getD (by rw [hpll]; exact hyn), hplg y hyn]
          have hg5 := hbr x y hxn hyn
          have hg6 := hbe (P x) (P y) (hPl x hxn) (hPl y hyn)
          rw [hPa x y hxn hyn] at hg6
          have hg7 := hblr x hxn
          have hg8 := hble (P x) (hPl x hxn)
          have hg9 := hpll n
          have hpx := hPl x hxn
          have hpy := hPl y hyn
          have hpi := hPi x y hxn hyn
          have qp : decide (((P x : Nat) : Int) = (P y : Nat)) = decide ((x : Int) = (y : Nat)) := decide_eq_decide.2 (by omega)
          refine AW.skip ?_
          refine hK17 _ _ _ ?_; clear hK17
          refine AW.seq fun K18 hK18 => ?_
          refine AW.block ?_
          refine AW.sg [3,4,14,21,22,23,173,174,177,178] [112] trivial ?_
          refine AW.sd mixed 0 (fun _ => none) [3,4,14,21,22,173,174,177,178,217] [112] (e2 @hrl (e5 @hre @hg1 @hg2 @hg3 (e5 @hg4 @hg5 @hg6 @hg7 (e5 @hg8 @hg9 @nats_len @ints_len @qp)))) ?_
          repeat with_reducible refine cj ?_ ?_
          all_goals try first | omega | exact chk (by kernel_rfl) | (intros; (repeat' apply And.intro) <;> first | assumption | omega | decide) | (intro hgd; exact absurd hgd (by decide)) | rfl | (simp only [go_sem, reduceIte, reduceCtorEq, zA, zM, zE, zL, zD, zS, zP, zB, zI, zR, hrl, hre, hg1, hg2, hg3, hg4, hg5, hg6, hg7, hg8, hg9, nats_len, ints_len, qp]; done) | (intro _hgd; simp_all [go_sem]; done)
          refine AW.cn ?_ ?_
          ·intro hb
           exfalso; revert hb; cases decide ((x : Int) = (y : Nat)) <;> simp
          ·intro hb
           refine AW.skip ?_
           refine hK18 _ _ _ ?_; clear hK18
           refine AW.rg [3,4,14,21,22,173,174,177,178] [112] trivial ?_
           rw [← hQl4]; change Exists _
           exact ⟨_, eO, y + 1, _, _, rfl, eD, eD, eT⟩
         ·intro hb
          refine AW.kx [3,4,14,21,173,174] [112] ?_
          rw [← hQl4]
          refine hK16 _ _ _ ?_; clear hK16
          refine AW.rg [3,4,14,21,173,174] [112] trivial ?_
          rw [← hQl3]; change Exists _
          exact ⟨_, eO, x + 1, _, _, rfl, eD, eD, eT⟩
        ·intro hb
         refine AW.kx [] [] ?_
         rw [← hQl3]
         refine hK14 _ _ _ ?_; clear hK14
         refine AW.sg [2] [] trivial ?_
         rw [← hQr]
         refine AW.rt trivial ?_
         exact Wk.refl _
end Go.Proofs.B

/- The least isomorphism of two orders, plainly. -/
namespace Go.AM
end Go.AM

/- A reader's contract, for a root that is given away with the call. -/
namespace Go.AM
end Go.AM

namespace Go.Proofs.B
open Go.AM Go
set_option maxRecDepth 100000
set_option maxHeartbeats 4000000
end Go.Proofs.B

namespace Go.Proofs.B
open Go.AM Go
set_option maxRecDepth 100000
set_option maxHeartbeats 4000000
end Go.Proofs.B

namespace Go.Proofs.B
open Go.AM Go
set_option maxRecDepth 100000
set_option maxHeartbeats 4000000
end Go.Proofs.B

namespace Go.Proofs.B
open Go.AM Go
set_option maxRecDepth 100000
set_option maxHeartbeats 4000000
end Go.Proofs.B

namespace Go.Proofs.B
open Go.AM Go
set_option maxRecDepth 100000
set_option maxHeartbeats 4000000
theorem val_ex (rs : List USet) (hl : longR rs) (hok : ∀ x ∈ rs, okW x.W) : ∃ b, Reads Tryz.prog 58 false [relV rs] (.bool b) ∧ Reads Tryz.prog 11 false [relV rs] (.bool b) ∧
  (b = true → ∃ t, rs = t.map SB ∧ Sq rs.length t ∧ rs.length ≤ 512 ∧ poB rs.length t = true ∧ relV rs = relB t) := by
 rcases rel_cases rs hok with ⟨t, ht, hs, hn, hp⟩ | hb
 ·have e : relV rs = relB t := by rw [relB_SB, ← ht]
  have h1 := pvalid_g _ t hs hn
  have h2 := rval_g _ t hs hn
  rw [hp, ← e] at h1 h2
  exact ⟨true, h1, order_r _ _ h2, fun _ => ⟨t, ht, hs, hn, hp, e⟩⟩
 ·obtain ⟨h1, h2⟩ := rval_bad rs hl hb
  exact ⟨false, h1, order_r _ _ h2, fun h => by cases h⟩
end Go.Proofs.B

namespace Go.Proofs.B
open Go.AM Go
set_option maxRecDepth 100000
set_option maxHeartbeats 4000000
end Go.Proofs.B

/- The reference's list of ideals, plainly. -/
namespace Go.AM
/-- The place of a set in a sorted list. -/
def insP (l : List (List Bool)) (s : List Bool) : Nat := (l.takeWhile fun x => decide (cmpS x s < 0)).length
def insAt (l : List (List Bool)) (s : List Bool) : List (List Bool) := l.take (insP l s) ++ s :: l.drop (insP l s)
theorem insP_le (l : List (List Bool)) (s : List Bool) : insP l s ≤ l.length := by
  unfold insP; exact (List.takeWhile_sublist _).length_le
theorem insAt_len (l : List (List Bool)) (s : List Bool) : (insAt l s).length = l.length + 1 := by
  unfold insAt
  have := insP_le l s
  simp; omega
theorem insAt_cons (x : List Bool) (l : List (List Bool)) (s : List Bool) : insAt (x :: l) s = if cmpS x s < 0 then x :: insAt l s else s :: x :: l := by
  unfold insAt insP
  rw [List.takeWhile_cons]
  by_cases h : cmpS x s < 0
  · simp [h]
  · simp [h]
theorem insAt_insS {n : Nat} {s : List Bool} (hs : s.length = n) : ∀ {l : List (List Bool)} (_ : ∀ a ∈ l, a.length = n) (_ : StrS l) (_ : s ∉ l), insAt l s = insS s l
  | [], _, _, _ => rfl
  | x :: l, hl, h, hn => by
    obtain ⟨ha, hb⟩ := List.pairwise_cons.1 h
    have hx := hl x (by simp)
    have hne : s ≠ x := fun e => hn (by simp [e])
    rw [insAt_cons]
    unfold insS
    by_cases h1 : cmpS x s < 0
    · rw [if_pos h1, if_neg (cmpS_asymm (by omega) h1), if_neg hne, insAt_insS hs (fun a ha => hl a (by simp [ha])) hb (fun h => hn (by simp [h]))]
    · rw [if_neg h1, if_pos]
      exact (cmpS_total (by omega) hne).resolve_right h1
end Go.AM

namespace Go.Proofs.B
open Go.AM Go
set_option maxRecDepth 100000
set_option maxHeartbeats 4000000
end Go.Proofs.B

/- The reference's ideals, plainly. -/
namespace Go.AM
def insL' (l : List (List Bool)) (s : List Bool) : List (List Bool) := if s ∈ l then l else insAt l s
theorem insAt_mem (l : List (List Bool)) (s a : List Bool) : a ∈ insAt l s ↔ a = s ∨ a ∈ l := by
  unfold insAt
  rw [List.mem_append, List.mem_cons]
  have : a ∈ l ↔ a ∈ l.take (insP l s) ∨ a ∈ l.drop (insP l s) := by rw [← List.mem_append, List.take_append_drop]
  rw [this]
  constructor
  · rintro (h | h | h)
    · exact .inr (.inl h)
    · exact .inl h
    · exact .inr (.inr h)
  · rintro (h | h | h)
    · exact .inr (.inl h)
    · exact .inl h
    · exact .inr (.inr h)
theorem insL_mem (l : List (List Bool)) (s a : List Bool) : a ∈ insL' l s ↔ a = s ∨ a ∈ l := by
  unfold insL'
  split
  · rename_i h
    exact ⟨.inr, fun h' => h'.elim (fun e => by rw [e]; exact h) id⟩
  · exact insAt_mem l s a
theorem insL_str {n : Nat} {l : List (List Bool)} {s : List Bool} (hl : ∀ a ∈ l, a.length = n) (hs : s.length = n) (h : StrS l) : StrS (insL' l s) := by
  unfold insL'
  split
  · exact h
  · rename_i hn
    rw [insAt_insS hs hl h hn]
    exact insS_str hs hl h
theorem insL_ge (l : List (List Bool)) (s : List Bool) : l.length ≤ (insL' l s).length := by
  unfold insL'
  split
  · omega
  · rw [insAt_len]; omega
/-- What stands before a place stays, if what comes in belongs behind it. -/
theorem insL_at {l : List (List Bool)} {s b : List Bool} {n p : Nat} (hl : ∀ a ∈ l, a.length = n) (hs : s.length = n) (h : StrS l) (hp : l[p]? = some b) (hb : cmpS b s < 0) : (insL' l s)[p]? = some b := by
  unfold insL'
  split
  · exact hp
  · obtain ⟨h1, h2⟩ := List.getElem?_eq_some_iff.1 hp
    have hlt : p < insP l s := by
      apply Classical.byContradiction
      intro hno
      have hle : insP l s ≤ p := by omega
      have hq : insP l s < l.length := by omega
      have hnot : ¬ cmpS (l[insP l s]) s < 0 := by
        have : ∀ (l : List (List Bool)) (hq : insP l s < l.length), ¬ cmpS (l[insP l s]) s < 0 := by
          intro l
          unfold insP
          induction l with
          | nil => intro hq; simp at hq
          | cons x l ih =>
            intro hq
            by_cases hx : cmpS x s < 0
            · simp only [List.takeWhile_cons, decide_eq_true hx, if_true, List.length_cons] at hq ⊢
              simp only [List.getElem_cons_succ]
              exact ih (by simpa using hq)
            · simp only [List.takeWhile_cons, decide_eq_false hx, Bool.false_eq_true, if_false, List.length_nil] at hq ⊢
              simpa using hx
        exact this l hq
      rcases Nat.lt_or_eq_of_le hle with h3 | h3
      · have h4 := List.pairwise_iff_getElem.1 h (insP l s) p hq h1 h3
        rw [h2] at h4
        refine hnot (cmpS_trans ?_ ?_ h4 hb)
        · rw [hl _ (List.getElem_mem hq), ← h2, hl _ (List.getElem_mem h1)]
        · rw [hs, hl _ (List.getElem_mem hq)]
      · have : l[insP l s] = b := by rw [← h2]; congr 1
        rw [this] at hnot
        exact hnot hb
    unfold insAt
    rw [List.getElem?_append_left (by rw [List.length_take]; omega), List.getElem?_take, if_pos hlt, hp]
/-- What holds of the list of ideals that grows. -/
structure RidI (n : Nat) (t : List (List Bool)) (O : List (List Bool)) (at_ : Nat) : Prop where
  str : StrS O
  id : ∀ b ∈ O, b.length = n ∧ idB n t b = true
  emp : List.replicate n false ∈ O
  kid : ∀ p, p < at_ → ∀ b, O[p]? = some b → ∀ j, j ∈ nxL t b n n → b.set j true ∈ O
  le : at_ ≤ O.length
theorem RidI.init {n : Nat} {t : List (List Bool)} : RidI n t [List.replicate n false] 0 :=
  ⟨List.pairwise_singleton .., fun b hb => by rw [List.mem_singleton.1 hb]; exact ⟨by simp, id_empty n t⟩, by simp, fun p hp => by omega, by simp⟩
theorem RidI.all {n : Nat} {t : List (List Bool)} (hp : IsPo n t) {O : List (List Bool)} (h : RidI n t O O.length) : O = allU (invT n t) n := by
  refine StrS.unique (n := n) (fun a ha => (h.id a ha).1) allU_len h.str (allU_str _ _) fun a => ⟨fun ha => (mem_allU hp a).2 (h.id a ha), fun ha => ?_⟩
  have key : ∀ k, ∀ b, b ∈ lvlK (invT n t) n k → b ∈ O := by
    intro k
    induction k with
    | zero => intro b hb; simp only [lvlK, List.mem_singleton] at hb; rw [hb]; exact h.emp
    | succ k ih =>
      intro b hb
      obtain ⟨c, hc, hk⟩ := (lvlN_mem (invT n t) (lvlK (invT n t) n k) b).1 hb
      have hcO := ih c hc
      have hcl := (h.id c hcO).1
      obtain ⟨j, hj, rfl⟩ := (kids_mem hcl).1 hk
      obtain ⟨p, hp1, hp2⟩ := List.getElem_of_mem hcO
      exact h.kid p hp1 c (by rw [List.getElem?_eq_getElem hp1, hp2]) j hj
  obtain ⟨j, _, hj⟩ := mem_outK.1 ha
  exact key j a hj
theorem RidI.len {n : Nat} {t : List (List Bool)} (hp : IsPo n t) {O : List (List Bool)} {a : Nat} (h : RidI n t O a) : O.length ≤ (allU (invT n t) n).length :=
  subL_len h.str.nodup fun b hb => (mem_allU hp b).2 (h.id b hb)
/-- Within a round: the place's set, and how far its children are in. -/
structure RidJ (n : Nat) (t : List (List Bool)) (O : List (List Bool)) (a : Nat) (b : List Bool) (i : Nat) : Prop where
  inv : RidI n t O a
  at_ : O[a]? = some b
  kid : ∀ j, j < i → j ∈ nxL t b n n → b.set j true ∈ O
theorem RidJ.skip {n : Nat} {t O : List (List Bool)} {a i : Nat} {b : List Bool} (h : RidJ n t O a b i) (hn : i ∉ nxL t b n n) : RidJ n t O a b (i + 1) :=
  ⟨h.inv, h.at_, fun j hj hm => by
    rcases Nat.lt_succ_iff_lt_or_eq.1 hj with h1 | h1
    · exact h.kid j h1 hm
    · subst h1; exact absurd hm hn⟩
theorem RidJ.put {n : Nat} {t O : List (List Bool)} (hp : IsPo n t) {a i : Nat} {b : List Bool} (h : RidJ n t O a b i) (hm : i ∈ nxL t b n n) : RidJ n t (insL' O (b.set i true)) a b (i + 1) := by
  have hbO : b ∈ O := List.mem_of_getElem? h.at_
  obtain ⟨hbl, hbi⟩ := h.inv.id b hbO
  obtain ⟨hin, hnx⟩ := mem_nx.1 hm
  have hf := (nxP_iff.1 hnx).1
  have hsl : (b.set i true).length = n := by simp [hbl]
  have hsi : idB n t (b.set i true) = true := by rw [id_with hp hbl hbi hin hf]; exact decide_eq_true hm
  have hl : ∀ c ∈ O, c.length = n := fun c hc => (h.inv.id c hc).1
  have hcnt := cnt_set (b := b) (i := i) (by omega) hf
  have hlt : cmpS b (b.set i true) < 0 := by
    rw [cmpS_lt]
    refine ⟨fun e => ?_, .inl ?_⟩
    · rw [← e] at hcnt; omega
    · unfold cntB; omega
  have hlow : ∀ p c, p ≤ a → O[p]? = some c → (insL' O (b.set i true))[p]? = some c := fun p c hpa hc => by
    refine insL_at hl hsl h.inv.str hc ?_
    rcases Nat.lt_or_eq_of_le hpa with h1 | h1
    · obtain ⟨q1, q2⟩ := List.getElem?_eq_some_iff.1 hc
      obtain ⟨r1, r2⟩ := List.getElem?_eq_some_iff.1 h.at_
      have := List.pairwise_iff_getElem.1 h.inv.str p a q1 r1 h1
      rw [q2, r2] at this
      have hcl : c.length = n := hl c (List.mem_of_getElem? hc)
      exact cmpS_trans (by omega) (by omega) this hlt
    · subst h1
      rw [h.at_] at hc
      obtain rfl := Option.some.inj hc
      exact hlt
  refine ⟨⟨insL_str hl hsl h.inv.str, fun c hc => ?_, (insL_mem _ _ _).2 (.inr h.inv.emp), fun p hp' c hc j hj => ?_, ?_⟩, hlow a b (Nat.le_refl _) h.at_, fun j hj hmj => ?_⟩
  · rcases (insL_mem _ _ _).1 hc with rfl | hc
    · exact ⟨hsl, hsi⟩
    · exact h.inv.id c hc
  · have hpl : p < O.length := by have := h.inv.le; omega
    have h0 := hlow p (O[p]) (by omega) (List.getElem?_eq_getElem hpl)
    rw [h0] at hc
    obtain rfl := Option.some.inj hc
    exact (insL_mem _ _ _).2 (.inr (h.inv.kid p hp' _ (List.getElem?_eq_getElem hpl) j hj))
  · have := h.inv.le
    have := insL_ge O (b.set i true)
    omega
  · rcases Nat.lt_succ_iff_lt_or_eq.1 hj with h1 | h1
    · exact (insL_mem _ _ _).2 (.inr (h.kid j h1 hmj))
    · subst h1; exact (insL_mem _ _ _).2 (.inl rfl)
end Go.AM

/- A bit that is not set may be added. -/
namespace Go.AM
end Go.AM

namespace Go.Proofs.B
open Go.AM Go
set_option maxRecDepth 100000
set_option maxHeartbeats 4000000
end Go.Proofs.B

namespace Go.Proofs.B
open Go.AM Go
set_option maxRecDepth 100000
set_option maxHeartbeats 4000000
end Go.Proofs.B

namespace Go.Proofs.B
open Go.AM Go
set_option maxRecDepth 100000
set_option maxHeartbeats 4000000
end Go.Proofs.B

namespace Go.Proofs.B
open Go.AM Go
set_option maxRecDepth 100000
set_option maxHeartbeats 4000000
end Go.Proofs.B

namespace Go.Proofs.B
open Go.AM Go
set_option maxRecDepth 100000
set_option maxHeartbeats 4000000
/-- What is said of distributivity: the answer, and the least triple. -/
def DisQ (J M : List (List Int)) (n : Nat) (b : Bool) (x y z : Int) : Prop :=
 ((∀ a, a < n → ∀ b, b < n → ∀ c, c < n → dsP J M a b c = true) ∧ b = true ∧ x = 0 ∧ y = 0 ∧ z = 0) ∨
 (∃ i j k : Nat, i < n ∧ j < n ∧ k < n ∧ disP J M n i j k ∧ dsP J M i j k = false ∧ b = false ∧ x = i ∧ y = j ∧ z = k)
theorem DisQ.toA {J M : List (List Int)} {n : Nat} {b : Bool} {x y z : Int} (h : DisQ J M n b x y z) : DisA J M n (.tup [.bool b, .agg [.int .i64 x, .int .i64 y, .int .i64 z], .int .i64 0]) := by
 rcases h with ⟨h, rfl, rfl, rfl, rfl⟩ | ⟨i, j, k, h1, h2, h3, h4, h5, rfl, rfl, rfl, rfl⟩
 ·exact .inl ⟨h, rfl⟩
 ·exact .inr ⟨i, j, k, h1, h2, h3, h4, h5, rfl⟩
theorem DisQ.ex (J M : List (List Int)) (n : Nat) : ∃ b x y z, DisQ J M n b x y z := by
 obtain ⟨v, h⟩ := DisA.ex J M n
 rcases h with ⟨h, _⟩ | ⟨i, j, k, h1, h2, h3, h4, h5, _⟩
 ·exact ⟨_, _, _, _, .inl ⟨h, rfl, rfl, rfl, rfl⟩⟩
 ·exact ⟨_, _, _, _, .inr ⟨i, j, k, h1, h2, h3, h4, h5, rfl, rfl, rfl, rfl⟩⟩
end Go.Proofs.B

namespace Go.Proofs.B
open Go.AM Go
set_option maxRecDepth 100000
set_option maxHeartbeats 4000000
theorem lats_g (n : Nat) (t : List (List Bool)) (hs : Sq n t) (hn : n ≤ 30) (hp : poB n t = true) (hf : greatB (t.map SB) = false) (hlat : latB t n = true) : Reads Tryz.prog 5 false [relB t] (.bool true) := by
 have hn5 : n ≤ 512 := by omega
 have hg := great_r (t.map SB) (longR_SB hs hn5)
 rw [hf, ← relB_SB] at hg
 have hpo := (poB_iff hs).1 hp
 have hv := rval_g n t hs hn5
 rw [hp] at hv
 have hil := islat_g n t hs hn5 hp
 rw [hlat] at hil
 have h0n : 0 < n := by
  have := hlat
  unfold latB at this
  rw [Bool.and_eq_true] at this
  exact of_decide_eq_true this.1
 have hall : ((List.range n).all fun i => noneT (jnT t n) i && noneT (mtT t n) i) = true := by
  have := hlat
  unfold latB at this
  rw [Bool.and_eq_true] at this
  exact this.2
 have htb := tables_g n t hs hn5 hp h0n
 rw [show tabV t n = .tup [.agg [.rsl 1 (lisR (jnT t n)), .rsl 1 (lisR (mtT t n))], .bool true] from if_pos hall] at htb
 have hJ : TabOk (jnT t n) n := tabOk_of (upR_len ..) fun i hi => by
  have := List.all_eq_true.1 hall i (List.mem_range.2 hi)
  rw [Bool.and_eq_true] at this
  exact this.1
 have hM : TabOk (mtT t n) n := tabOk_of (upR_len ..) fun i hi => by
  have := List.all_eq_true.1 hall i (List.mem_range.2 hi)
  rw [Bool.and_eq_true] at this
  exact this.2
 obtain ⟨bq, x, y, z, hq⟩ := DisQ.ex (jnT t n) (mtT t n) n
 have hds := dist_ok n t hs _ _ hJ hM hn5 _ hq.toA htb
 have hir := irr_g n t hs hn5 hp hlat
 obtain ⟨I, Q, U, P, hI0, hQ0, hU0, hIn, hIm, hsQ, hpQ, hnU, hdU, hP, hPi, hPa⟩ := lat_all n t hs hpo hlat
 rw [← hI0, ← hQ0] at hir
 have H : LatO n t I Q bq x y z := ⟨hg, order_r _ _ hv, hil, (table_r n t hs hn5).old, hds, hir⟩
 have hpB := (poB_iff hsQ).2 hpQ
 have hUl : ∀ b ∈ U, b.length = I.length := by rw [hU0]; exact allU_len
 have hid1 : U.length ≤ 512 → Reads Tryz.prog 12 false [relB Q] (.tup [relB (inclT U), .rsl 2 (tabR U), .int .i64 ((0 : Nat) : Int)]) := fun h5 => by
  have hlo := list_ok I.length Q hsQ (by omega) hpB (by rw [← hU0]; omega)
  rw [← hU0] at hlo
  exact ideals_g I.length (tabR Q) (by omega) U hUl h5 (countI_ok _ _ _ hlo) hlo
 cases hb : bq
 ·have hlt : n < U.length := by
   rcases Nat.lt_or_eq_of_le hnU with h | h
   ·exact h
   ·have hd := hdU.2 h.symm
    rcases hq with ⟨_, e, _⟩ | ⟨i, j, k, h1, h2, h3, _, h5, _⟩
    ·rw [hb] at e; cases e
    ·rw [hd i h1 j h2 k h3] at h5; cases h5
  rw [hb] at H
  by_cases h5 : U.length ≤ 512
  ·exact lats_n n t hs hn I Q hIn hsQ x y z H U (inclT U) hlt h5 (hid1 h5)
  ·refine lats_b n t hs hn I Q hIn hsQ x y z H ?_
   by_cases h6 : U.length ≤ 5000
   ·have hlo := list_ok I.length Q hsQ (by omega) hpB (by rw [← hU0]; exact h6)
    rw [← hU0] at hlo
    exact ideals_big _ _ _ (countI_ok _ _ _ hlo) (.inr ⟨rfl, by omega⟩)
   ·exact ideals_big _ _ _ (countI_nil _ _ (list_big I.length Q hsQ (by omega) hpB (by rw [← hU0]; exact h6))) (.inl rfl)
 ·have hU : U.length = n := by
   refine hdU.1 ?_
   rcases hq with ⟨h, _⟩ | ⟨i, j, k, h1, h2, h3, _, h5, e, _⟩
   ·exact h
   ·rw [hb] at e; cases e
  rw [hb] at H
  exact lats_d n t hs hn I Q hIn hIm hsQ x y z H U hU hUl (hid1 (by omega)) P hP hPi hPa
theorem law_lattices (rs : List USet) (hl : longR rs) (hok : ∀ x ∈ rs, okW x.W) : Reads Tryz.prog 5 false [relV rs] (.bool true) := by
 obtain ⟨b, _, ho, hb⟩ := val_ex rs hl hok
 cases hg : greatB rs
 ·cases b
  ·exact lats_0 rs hl false false ho (fun h => by cases h) (.inr (.inl rfl))
  ·obtain ⟨t, ht, hs, hn, hp, e⟩ := hb rfl
   have hil := islat_g _ t hs hn hp
   cases hlat : latB t rs.length
   ·rw [hlat, ← e] at hil
    exact lats_0 rs hl true false ho (fun _ => hil) (.inr (.inr rfl))
   ·rw [e]
    have h30 := great_len hg
    rw [ht] at hg
    exact lats_g _ t hs h30 hp hg hlat
 ·have hc : ∃ c, b = true → Reads Tryz.prog 15 false [relV rs] (.bool c) := by
   cases b
   ·exact ⟨false, fun h => by cases h⟩
   ·obtain ⟨t, ht, hs, hn, hp, e⟩ := hb rfl
    have hil := islat_g _ t hs hn hp
    rw [← e] at hil
    exact ⟨_, fun _ => hil⟩
  obtain ⟨c, hc⟩ := hc
  exact lats_0 rs hl b c ho hc (.inl hg)
end Go.Proofs.B

/- The shapes of arguments. -/
namespace Go.AM
theorem fit_int {P : Program} {t : TypeId} {k : IntKind} (hu : P.underlying t = some (.int k)) {f : Nat} {x : List AV} (h : Fit P f t x) : ∃ n, x = [.int k n] ∧ k.min ≤ n ∧ n ≤ k.max := by
  cases f with
  | zero => exact h.elim
  | succ f => unfold Fit at h; rw [hu] at h; exact h
theorem fit_slice {P : Program} {t e : TypeId} {m : Nat} (hu : P.underlying t = some (.slice e)) (hm : P.cellsOf e = m) (h0 : m ≠ 0) {f : Nat} {x : List AV} (h : Fit P f t x) : ∃ es f', x = [.rsl m es] ∧ es.length ≤ maxLen ∧ ∀ y ∈ es, Fit P f' e y := by
  cases f with
  | zero => exact h.elim
  | succ f =>
    unfold Fit at h; rw [hu] at h
    rcases h with h | ⟨es, h1, h2, h3⟩
    · exact absurd (hm ▸ h) h0
    · rw [hm] at h1; exact ⟨es, f, h1, h2, fun y hy => (h3 y hy).2⟩
theorem fit_struct {P : Program} {t : TypeId} {fs : Array Field} (hu : P.underlying t = some (.struct fs)) {f : Nat} {x : List AV} (h : Fit P f t x) : ∃ f' parts, x = List.flatten parts ∧ F2 (fun (fl : Field) p => Fit P f' fl.type p) fs.toList parts := by
  cases f with
  | zero => exact h.elim
  | succ f =>
    unfold Fit at h; rw [hu] at h
    obtain ⟨parts, h1, h2⟩ := h
    exact ⟨f, parts, h1, forall2_imp (fun _ _ h => h.2) h2⟩
theorem F2.two {α β : Type} {R : α → β → Prop} {a b : α} {l : List β} (h : F2 R [a, b] l) : ∃ x y, l = [x, y] ∧ R a x ∧ R b y := by
  cases h with | cons h1 t => cases t with | cons h2 t => cases t with | nil => exact ⟨_, _, rfl, h1, h2⟩
theorem exists_mapP {α β : Type} {f : α → β} {p : α → Prop} : ∀ {l : List β}, (∀ x ∈ l, ∃ a, x = f a ∧ p a) → ∃ m : List α, l = m.map f ∧ ∀ a ∈ m, p a
  | [], _ => ⟨[], rfl, fun _ h => by cases h⟩
  | x :: l, h => by
    obtain ⟨a, rfl, ha⟩ := h x (List.mem_cons_self ..)
    obtain ⟨m, rfl, hm⟩ := exists_mapP fun y hy => h y (List.mem_cons_of_mem _ hy)
    exact ⟨a :: m, rfl, fun b hb => by rcases List.mem_cons.1 hb with rfl | hb; exact ha; exact hm b hb⟩
theorem okW_of {W : List Int} (h : ∀ w ∈ W, 0 ≤ w ∧ w ≤ 18446744073709551615) : okW W := fun i => by
  by_cases hi : i < W.length
  · have := h _ (mem_getD hi 0); omega
  · rw [List.getD_eq_getElem?_getD, List.getElem?_eq_none (by omega)]; simp
end Go.AM

/- A laid table, as the machine's package variable. -/
namespace Go.AM
theorem rptr_of_laid {P : Program} {n : String} {g : Nat} {t e : TypeId} {k : IntKind} {L : List Int} {W : World} (hg : P.globalNamed n = some g) (ht : (P.globals[g]?).map (·.type) = some t) (hu : P.underlying t = some (.array L.length e))
    (hc : P.cellsOf e = 1) (hc2 : P.cellsOf t = L.length) (hu2 : P.underlying e = some (.int k)) (hL : L ≠ []) (h : laidMet P [(n, .agg (L.map fun i => .lit (.int k i)))] W) : RelP (immF W fun _ => False) W (.rptr (L.map (AV.int k))) (.pointer (some ⟨g, 0, none⟩)) := by
  obtain ⟨ps, ⟨g0, t0, cs0, f0, p0, q0, hg0, ht0, hv0, hd0, _, _⟩, _, _⟩ := h
  obtain rfl := Option.some.inj (hg.symm.trans hg0)
  obtain rfl := Option.some.inj (ht.symm.trans ht0)
  obtain ⟨xs, m, rfl, hx, hlen, hn, hel⟩ := DataW.trod_array hu hd0
  have hcell : ∀ j, j < L.length → W.cell? ⟨g, j, none⟩ = some (.int k (L.getD j 0)) := fun j hj => by
    have h0 := hel j hj
    rw [hc, Nat.mul_one] at h0
    have hjx : j < xs.length := by omega
    rw [List.getElem?_eq_getElem hjx] at h0
    obtain ⟨z, e1, e2, _⟩ := DataW.trod_int hu2 h0
    have hxs : xs.map (·.1) = L.map fun i => .lit (.int k i) := by
      simp only [Prod.mk.injEq, DataW.agg.injEq] at hx
      exact hx.1.symm
    have hzj : (xs.map (·.1))[j]? = (L.map fun i => (.lit (.int k i) : DataW Unit))[j]? := by rw [hxs]
    rw [List.getElem?_map, List.getElem?_map, List.getElem?_eq_getElem hjx, List.getElem?_eq_getElem hj, e2] at hzj
    simp only [Option.map_some, Option.some.injEq, DataW.lit.injEq, Lit.int.injEq] at hzj
    have hz : z = L.getD j 0 := by rw [hzj.2]; simp [List.getD_eq_getElem?_getD, hj]
    have hcs : cs0[j]? = some (.int k z) := by
      have hl : cs0.toList.length = L.length := by rw [hlen, hc2]
      have hd : cs0.toList.drop j = cs0.toList[j]'(by omega) :: cs0.toList.drop (j + 1) := List.drop_eq_getElem_cons (by omega)
      rw [hd] at e1
      simp only [List.take_succ_cons, List.take_zero, List.cons.injEq, and_true] at e1
      rw [← Array.getElem?_toList, List.getElem?_eq_getElem (by omega), e1]
    rw [World.var?_cell hg hv0 j, hcs, hz]
  have hlt : g < W.heap.size := by
    cases L with
    | nil => exact absurd rfl hL
    | cons a l =>
      have := hcell 0 (by simp)
      unfold World.cell? at this
      cases hh : W.heap[g]? with
      | none => simp [hh] at this
      | some o => exact heap_lt hh
  refine .rptr _ g 0 (fun j => .int k (L.getD j 0)) ⟨hlt, fun h => h⟩ (fun j hj => ?_) (fun j hj => ?_)
  · rw [List.length_map] at hj
    rw [Nat.zero_add]
    exact hcell j hj
  · rw [List.length_map] at hj
    have e : (L.map (AV.int k)).getD j .any = .int k (L.getD j 0) := by simp [List.getD_eq_getElem?_getD, hj]
    rw [e]
    exact .int _ _
end Go.AM

/- The shapes of the birkhoff laws' arguments. -/
namespace Go.AM
open Go.Proofs
theorem fit_words {f : Nat} {x : List AV} (h : Fit Tryz.prog f 39 x) : ∃ W : List Int, x = [.rsl 1 (words W)] ∧ W.length ≤ 9223372036854775807 ∧ okW W := by
  obtain ⟨es, f2, rfl, h5, h6⟩ := fit_slice (m := 1) Tryz.underlying39 (by kernel_rfl) (by decide) h
  obtain ⟨ws, rfl, hw⟩ := exists_mapP (f := fun x : Int => [AV.int .u64 x]) (p := fun w => 0 ≤ w ∧ w ≤ 18446744073709551615) fun y hy => by
    obtain ⟨n, e, h1, h2⟩ := fit_int Tryz.underlying45 (h6 y hy)
    exact ⟨n, e, by simpa [IntKind.min, IntKind.signed] using h1, by simpa [IntKind.max, IntKind.signed, IntKind.bits] using h2⟩
  exact ⟨ws, rfl, by simpa [maxLen] using h5, okW_of hw⟩
theorem fit_set {f : Nat} {x : List AV} (h : Fit Tryz.prog f 41 x) : ∃ y : USet, x = rowV y ∧ y.W.length ≤ 9223372036854775807 ∧ okW y.W := by
  obtain ⟨f', parts, rfl, h2⟩ := fit_struct Tryz.underlying41 h
  obtain ⟨a, b, rfl, h3, h4⟩ := F2.two h2
  obtain ⟨i, rfl, _⟩ := fit_int Tryz.underlying3 h3
  obtain ⟨W, rfl, h5, h6⟩ := fit_words h4
  exact ⟨⟨i, W⟩, rfl, h5, h6⟩
theorem F2.one {α β : Type} {R : α → β → Prop} {a : α} {l : List β} (h : F2 R [a] l) : ∃ x, l = [x] ∧ R a x := by
  cases h with | cons h1 t => cases t with | nil => exact ⟨_, rfl, h1⟩
theorem fit_rel {f : Nat} {x : List AV} (h : Fit Tryz.prog f 24 x) : ∃ rs : List USet, x = [.rsl 2 (rs.map rowV)] ∧ (rs.length ≤ 9223372036854775807 ∧ ∀ y ∈ rs, y.W.length ≤ 9223372036854775807) ∧ ∀ y ∈ rs, okW y.W := by
  obtain ⟨f', parts, rfl, h2⟩ := fit_struct Tryz.underlying24 h
  obtain ⟨a, rfl, h3⟩ := F2.one h2
  obtain ⟨es, f2, rfl, h5, h6⟩ := fit_slice (m := 2) Tryz.underlying22 (by kernel_rfl) (by decide) h3
  obtain ⟨rs, rfl, hr⟩ := exists_mapP (f := rowV) (p := fun y => y.W.length ≤ 9223372036854775807 ∧ okW y.W) fun y hy => fit_set (h6 y hy)
  exact ⟨rs, rfl, ⟨by simpa [maxLen] using h5, fun y hy => (hr y hy).1⟩, fun y hy => (hr y hy).2⟩
theorem laidMet_tail {P : Program} {W : World} {x : String × DataW Unit} {l : List (String × DataW Unit)} (h : laidMet P (x :: l) W) : laidMet P l W := by
  obtain ⟨ps, ⟨g, t, cs, f, p, q, hg, ht, hv, hd, hr, rfl⟩, hn, hc⟩ := h
  exact ⟨q, hr, (List.nodup_append.1 hn).2.1, fun b off hm => hc b off (List.mem_append.2 (.inr hm))⟩
theorem laidMet_head {P : Program} {W : World} {x : String × DataW Unit} {l : List (String × DataW Unit)} (h : laidMet P (x :: l) W) : laidMet P [x] W := by
  obtain ⟨ps, ⟨g, t, cs, f, p, q, hg, ht, hv, hd, hr, rfl⟩, hn, hc⟩ := h
  refine ⟨MemPlace.row ⟨g, 0, none⟩ cs.size ++ p ++ [], ⟨g, t, cs, f, p, [], hg, ht, hv, hd, rfl, rfl⟩, ?_, fun b off hm => ?_⟩
  · rw [List.append_nil]; exact (List.nodup_append.1 hn).1
  · rw [List.append_nil] at hm; exact hc b off (List.mem_append.2 (.inl hm))
theorem pgl {W : World} (h : laidMetH Tryz.prog [("math/bits.deBruijn32tab", YtppocnbagombeaaGreatDoor.Rows.laid_math_bits_deBruijn32tab), ("math/bits.deBruijn64tab", YtppocnbagombeaaGreatDoor.Rows.laid_math_bits_deBruijn64tab), ("internal/strconv.uint64pow10", YtppocnbagombeaaGreatDoor.Rows.laid_internal_strconv_uint64pow10)] W) : GL (immF W fun _ => False) W := fun g cs e => by
  rw [MakeChecks.laidMetH_plain _ _ _ (by rfl)] at h
  have h2 := laidMet_head (laidMet_tail h)
  cases g with
  | zero =>
    rw [globA_aux] at e
    obtain rfl := Option.some.inj e
    exact rptr_of_laid (L := tzTab) (by kernel_rfl : Tryz.prog.globalNamed "math/bits.deBruijn64tab" = some 0) (by kernel_rfl : (Tryz.prog.globals[0]?).map (·.type) = some 136) (e := 5) Tryz.underlying136 (by kernel_rfl) (by kernel_rfl) Tryz.underlying5 (by decide) h2
  | succ g => cases e
theorem pmet (os : Os) (args : Array Value) : laidMetH Tryz.prog [("math/bits.deBruijn32tab", YtppocnbagombeaaGreatDoor.Rows.laid_math_bits_deBruijn32tab), ("math/bits.deBruijn64tab", YtppocnbagombeaaGreatDoor.Rows.laid_math_bits_deBruijn64tab), ("internal/strconv.uint64pow10", YtppocnbagombeaaGreatDoor.Rows.laid_internal_strconv_uint64pow10)] ((World.doorLaid Tryz.prog 400 os).forCall (fun _ _ => 0) ⟨#[], args, []⟩).memory :=
  laidMetH_of_parts3 (fuel := 8) (laidMet_of_run' 8 (by kernel_rfl) (by kernel_rfl)) (by kernel_rfl) (by kernel_rfl)
end Go.AM

