/- Lemmas and contracts, part 5: an abstract machine over the model, and the functions that the statement reaches. -/
import Derived.Test.YtcnldaccdojdkaaDoorDimensionStandardP4
import Derived.Carry
import Derived.RowKit
import Derived.OpenShut
import Derived.Below
import Derived.ChangeSame
import Derived.JoinedOf
import Derived.Handed
import Derived.MakeChecks
import Derived.LaidMore
import Derived.Test.YtcnldaccdojdkaaDoorRows
set_option linter.unusedVariables false
set_option linter.unusedSimpArgs false
/- How many extensions go on from an ideal; what the map of ways says; ranks. -/
namespace Go.AM
def sumF (p : Nat → Bool) (f : Nat → Nat) (m : Nat) : Nat := fr p (fun s x => s + f x) m 0
theorem sumF_zero (p : Nat → Bool) (f : Nat → Nat) : sumF p f 0 = 0 := rfl
theorem sumF_succ {p : Nat → Bool} (f : Nat → Nat) {k : Nat} (h : p k = true) : sumF p f (k + 1) = sumF p f k + f k := fr_succ _ h _
theorem sumF_miss {p : Nat → Bool} (f : Nat → Nat) {k : Nat} (h : p k = false) : sumF p f (k + 1) = sumF p f k := fr_miss _ h _
theorem sumF_mono (p : Nat → Bool) (f : Nat → Nat) (i : Nat) : ∀ j, i ≤ j → sumF p f i ≤ sumF p f j
  | 0, h => by rw [Nat.le_zero.1 h]; exact Nat.le_refl _
  | j + 1, h => by
    rcases Nat.eq_or_lt_of_le h with e | e
    · rw [e]; exact Nat.le_refl _
    · have := sumF_mono p f i j (by omega)
      cases hp : p j with
      | true => rw [sumF_succ f hp]; omega
      | false => rw [sumF_miss f hp]; exact this
/-- How many ways to place the m elements that are left. -/
def cE (bel : List (List Int)) (n : Nat) : Nat → List Bool → Nat
  | 0, _ => 1
  | m + 1, S => sumF (freeL bel S) (fun x => cE bel n m (S.set x true)) n
/-! ### A map after a put. -/
theorem keyEq_eq {S : List Bool} {r : AV} (h : keyEq (.str (keyS S)) r = true) (T : List Bool) : keyEq (.str (keyS T)) r = decide (T = S) := by
  cases r with
  | str b =>
    have h0 : (keyS S == b) = true := h
    have h1 : (keyS S).data = b.data := by rw [ba_beq] at h0; exact eq_of_beq h0
    show (keyS T == b) = _
    rw [ba_beq, ← h1, ← ba_beq]
    exact keyEq_str T S
  | _ => simp [keyEq] at h
theorem mapAt_put (S T : List Bool) (v : AV) : ∀ (es : List (List AV)), mapAt (mapPut es (.str (keyS S)) v) (.str (keyS T)) = if T = S then some v else mapAt es (.str (keyS T)) := by
  have key : ∀ (es : List (List AV)) (i : Nat), (mapFind (mapPut es (.str (keyS S)) v) (.str (keyS T)) i).map (·.2) = if T = S then some v else (mapFind es (.str (keyS T)) i).map (·.2) := by
    intro es
    induction es with
    | nil =>
      intro i
      simp only [mapPut, mapFind]
      have : (([AV.str (keyS S), v] : List AV).getD 0 .any) = .str (keyS S) := rfl
      rw [this, keyEq_str]
      by_cases h : T = S <;> simp [h]
    | cons row es ih =>
      intro i
      unfold mapPut
      by_cases h : keyEq (.str (keyS S)) (row.getD 0 .any) = true
      · rw [if_pos h]
        have hT := keyEq_eq h T
        simp only [mapFind]
        have : (([AV.str (keyS S), v] : List AV).getD 0 .any) = .str (keyS S) := rfl
        rw [this, keyEq_str, hT]
        by_cases e : T = S <;> simp [e]
      · rw [if_neg h]
        simp only [mapFind]
        by_cases e : keyEq (.str (keyS T)) (row.getD 0 .any) = true
        · rw [if_pos e, if_pos e]
          by_cases e2 : T = S
          · subst e2; exact absurd e h
          · simp [e2]
        · rw [if_neg e, if_neg e]
          exact ih (i + 1)
  intro es
  exact key es 0
theorem mapI_put (es : List (List AV)) (S T : List Bool) (v : Int) : mapI (mapPut es (.str (keyS S)) (.int .i64 v)) (.str (keyS T)) = if T = S then v else mapI es (.str (keyS T)) := by
  unfold mapI
  rw [mapAt_put]
  by_cases h : T = S <;> simp [h]
theorem fr_congr {α : Type} {p : Nat → Bool} {f g : α → Nat → α} : ∀ m (a : α), (∀ a x, x < m → p x = true → f a x = g a x) → fr p f m a = fr p g m a
  | 0, _, _ => rfl
  | m + 1, a, h => by
    have ih := fr_congr (p := p) (f := f) (g := g) m a fun a x hx => h a x (by omega)
    cases hp : p m with
    | true => rw [fr_succ f hp, fr_succ g hp, ih, h _ m (by omega) hp]
    | false => rw [fr_miss f hp, fr_miss g hp, ih]
theorem wayS_congr {bel : List (List Int)} {n a : Nat} {es es' : List (List AV)} {S : List Bool} (hS : S.length = n) (h : ∀ T, cntT T = cntT S + 1 → mapI es (.str (keyS T)) = mapI es' (.str (keyS T))) : wayS bel n es S a = wayS bel n es' S a := by
  unfold wayS sumW
  split
  · rfl
  · exact fr_congr n 0 fun s x hx hp => by rw [h (S.set x true) (cntT_set (by omega) (freeL_not hp))]
theorem steps_other {bel : List (List Int)} {n a : Nat} {T : List Bool} : ∀ (L : List (List Bool)) (es : List (List AV)), T ∉ L → mapI (L.foldl (stepW bel n a) es) (.str (keyS T)) = mapI es (.str (keyS T))
  | [], _, _ => rfl
  | S :: L, es, h => by
    rw [List.foldl_cons, steps_other L _ (fun h' => h (List.mem_cons_of_mem _ h'))]
    unfold stepW
    have hne : T ≠ S := fun e => h (by rw [e]; exact List.mem_cons_self)
    rw [mapI_put, if_neg hne]
theorem steps_at {bel : List (List Int)} {n a : Nat} {T : List Bool} : ∀ (L : List (List Bool)) (es : List (List AV)), (∀ S ∈ L, S.length = n ∧ cntT S = a) → T ∈ L → mapI (L.foldl (stepW bel n a) es) (.str (keyS T)) = wayS bel n es T a
  | S :: L, es, hL, h => by
    have hS := hL S List.mem_cons_self
    have hstep : ∀ U, cntT U = a + 1 → mapI (stepW bel n a es S) (.str (keyS U)) = mapI es (.str (keyS U)) := fun U hU => by
      unfold stepW
      rw [mapI_put, if_neg (fun e => by rw [e, hS.2] at hU; omega)]
    rw [List.foldl_cons]
    by_cases hT : T ∈ L
    · rw [steps_at L _ (fun S h => hL S (List.mem_cons_of_mem _ h)) hT]
      have hT2 := hL T (List.mem_cons_of_mem _ hT)
      exact wayS_congr hT2.1 fun U hU => hstep U (by rw [hU, hT2.2])
    · rcases List.mem_cons.1 h with e | e
      · subst e
        rw [steps_other L _ hT]
        unfold stepW
        rw [mapI_put, if_pos rfl]
      · exact absurd e hT
theorem lvAt_cnt {bel : List (List Int)} {n : Nat} : ∀ {j : Nat} {S : List Bool}, S ∈ lvAt bel n j → cntT S = j
  | 0, S, h => by rw [List.mem_singleton.1 h]; exact cntT_rep n
  | j + 1, S, h => by
    obtain ⟨S', h1, x, hx, hf, rfl⟩ := mem_nextL.1 h
    rw [cntT_set (by rw [lvAt_len h1]; exact hx) (freeL_not hf), lvAt_cnt h1]
theorem lvAt_next {bel : List (List Int)} {n j x : Nat} {S : List Bool} (h : S ∈ lvAt bel n j) (hx : x < n) (hf : freeL bel S x = true) : S.set x true ∈ lvAt bel n (j + 1) := mem_nextL.2 ⟨S, h, x, hx, hf, rfl⟩
theorem min_sum {p : Nat → Bool} {f : Nat → Nat} {w : Nat → Int} : ∀ m, (∀ x, x < m → p x = true → w x = min (f x : Int) 1125899906842625) → fr p (fun s x => min (s + w x) 1125899906842625) m (0 : Int) = min (sumF p f m : Int) 1125899906842625
  | 0, _ => by simp only [fr_zero, sumF_zero]; decide
  | m + 1, h => by
    have ih := min_sum (p := p) (f := f) (w := w) m fun x hx => h x (by omega)
    cases hp : p m with
    | true => rw [fr_succ _ hp, sumF_succ f hp, ih, h m (by omega) hp]; omega
    | false => rw [fr_miss _ hp, sumF_miss f hp, ih]
theorem downW_spec {bel : List (List Int)} {n : Nat} : ∀ m, m ≤ n + 1 → ∀ a, n < a + m → a ≤ n → ∀ S ∈ lvAt bel n a, mapI (downW bel n m) (.str (keyS S)) = min (cE bel n (n - a) S : Int) 1125899906842625
  | 0, _, a, h1, h2, _, _ => by omega
  | m + 1, hm, a, h1, h2, S, hS => by
    have ih := downW_spec (bel := bel) (n := n) m (by omega)
    have hL : ∀ T ∈ lvAt bel n (n - m), T.length = n ∧ cntT T = n - m := fun T hT => ⟨lvAt_len hT, lvAt_cnt hT⟩
    show mapI ((lvAt bel n (n - m)).foldl (stepW bel n (n - m)) (downW bel n m)) _ = _
    by_cases e : a = n - m
    · subst e
      rw [steps_at _ _ hL hS]
      unfold wayS
      by_cases e2 : n - m = n
      · rw [if_pos e2, show n - (n - m) = 0 by omega]; simp only [cE]; decide
      · rw [if_neg e2]
        obtain ⟨q, hq⟩ : ∃ q, n - (n - m) = q + 1 := ⟨m - 1, by omega⟩
        rw [hq]
        unfold sumW cE
        refine min_sum n fun x hx hf => ?_
        have := ih (n - m + 1) (by omega) (by omega) _ (lvAt_next hS hx hf)
        rw [show n - (n - m + 1) = q by omega] at this
        exact this
    · rw [steps_other _ _ (fun h => by
        have h3 := lvAt_cnt h
        rw [lvAt_cnt hS] at h3
        exact e h3)]
      exact ih a (by omega) h2 S hS
theorem ways_spec {bel : List (List Int)} {n a : Nat} (ha : a ≤ n) {S : List Bool} (hS : S ∈ lvAt bel n a) : mapI (waysE bel n) (.str (keyS S)) = min (cE bel n (n - a) S : Int) 1125899906842625 :=
  downW_spec (n + 1) (Nat.le_refl _) a (by omega) ha S hS
/-! ### Ranks. -/
theorem IsExt.lv {n : Nat} {bel : List (List Int)} {l : List Int} (h : IsExt n bel l) : ∀ m, m ≤ n → dAt n l m ∈ lvAt bel n m
  | 0, _ => by simp [dAt, exD, lvAt]
  | m + 1, hm => by
    have h1 := h.rng m (by omega)
    rw [dAt_succ (by rw [h.len]; omega)]
    exact lvAt_next (h.lv m (by omega)) (by omega) (h.free m (by omega))
def rankC (bel : List (List Int)) (n : Nat) (l : List Int) : Nat → Nat
  | 0 => 0
  | m + 1 => rankC bel n l m + sumF (freeL bel (dAt n l m)) (fun x => cE bel n (n - (m + 1)) ((dAt n l m).set x true)) (l.getD m 0).toNat
theorem cE_at {bel : List (List Int)} {n m : Nat} (hm : m < n) (S : List Bool) : cE bel n (n - m) S = sumF (freeL bel S) (fun x => cE bel n (n - (m + 1)) (S.set x true)) n := by
  obtain ⟨q, hq⟩ : ∃ q, n - m = q + 1 := ⟨n - m - 1, by omega⟩
  rw [hq, show n - (m + 1) = q by omega]; rfl
theorem IsExt.step {n : Nat} {bel : List (List Int)} {l : List Int} (h : IsExt n bel l) {m : Nat} (hm : m < n) : rankC bel n l (m + 1) + cE bel n (n - (m + 1)) (dAt n l (m + 1)) ≤ rankC bel n l m + cE bel n (n - m) (dAt n l m) := by
  have h1 := h.rng m hm
  have h2 := h.free m hm
  rw [cE_at hm, dAt_succ (by rw [h.len]; omega)]
  have h3 := sumF_succ (p := freeL bel (dAt n l m)) (fun x => cE bel n (n - (m + 1)) ((dAt n l m).set x true)) h2
  have h4 := sumF_mono (freeL bel (dAt n l m)) (fun x => cE bel n (n - (m + 1)) ((dAt n l m).set x true)) ((l.getD m 0).toNat + 1) n (by omega)
  show rankC bel n l m + _ + _ ≤ _
  omega
theorem IsExt.down {n : Nat} {bel : List (List Int)} {l : List Int} (h : IsExt n bel l) (m : Nat) : ∀ q, m ≤ q → q ≤ n → rankC bel n l q + cE bel n (n - q) (dAt n l q) ≤ rankC bel n l m + cE bel n (n - m) (dAt n l m)
  | 0, h1, _ => by rw [Nat.le_zero.1 h1]; exact Nat.le_refl _
  | q + 1, h1, h2 => by
    rcases Nat.eq_or_lt_of_le h1 with e | e
    · rw [e]; exact Nat.le_refl _
    · exact Nat.le_trans (h.step (by omega)) (h.down m q (by omega) (by omega))
theorem IsExt.bound {n : Nat} {bel : List (List Int)} {l : List Int} (h : IsExt n bel l) {m : Nat} (hm : m < n) {i : Nat} (hi : i ≤ n) : rankC bel n l m + sumF (freeL bel (dAt n l m)) (fun x => cE bel n (n - (m + 1)) ((dAt n l m).set x true)) i ≤ cE bel n n (List.replicate n false) := by
  have h1 := h.down 0 m (Nat.zero_le _) (by omega)
  have h2 := cE_at (bel := bel) hm (dAt n l m)
  have h4 := sumF_mono (freeL bel (dAt n l m)) (fun x => cE bel n (n - (m + 1)) ((dAt n l m).set x true)) i n hi
  have h5 : dAt n l 0 = List.replicate n false := rfl
  have h6 : rankC bel n l 0 = 0 := rfl
  rw [h5, h6, Nat.sub_zero] at h1
  omega
/-- The rank by the map of ways. -/
theorem IsExt.ways {n : Nat} {bel : List (List Int)} {l : List Int} (h : IsExt n bel l) (hbig : cE bel n n (List.replicate n false) ≤ 1125899906842624) {m : Nat} (hm : m < n) {x : Nat} (hx : x < n) (hf : freeL bel (dAt n l m) x = true) :
    mapI (waysE bel n) (.str (keyS ((dAt n l m).set x true))) = (cE bel n (n - (m + 1)) ((dAt n l m).set x true) : Int) := by
  rw [ways_spec (a := m + 1) (by omega) (lvAt_next (h.lv m (by omega)) hx hf)]
  have h1 := h.down 0 m (Nat.zero_le _) (by omega)
  have h2 := cE_at (bel := bel) hm (dAt n l m)
  have h3 := sumF_succ (p := freeL bel (dAt n l m)) (fun x => cE bel n (n - (m + 1)) ((dAt n l m).set x true)) hf
  have h4 := sumF_mono (freeL bel (dAt n l m)) (fun x => cE bel n (n - (m + 1)) ((dAt n l m).set x true)) (x + 1) n (by omega)
  have h5 : dAt n l 0 = List.replicate n false := rfl
  have h6 : rankC bel n l 0 = 0 := rfl
  rw [h5, h6, Nat.sub_zero] at h1
  omega
end Go.AM

/- The reference's words about linear extensions. -/
namespace Go.AM
def eaOk (n : Nat) (d : List Bool) (i : Int) : Bool := decide (0 ≤ i) && decide (i < n) && !d.getD i.toNat false
def eachGo (n : Nat) : List Bool → List Int → Bool
  | _, [] => true
  | d, i :: l => eaOk n d i && eachGo n (d.set i.toNat true) l
def eachB (n : Nat) (l : List Int) : Bool := decide (l.length = n) && eachGo n (List.replicate n false) l
theorem eachGo_app (n : Nat) : ∀ (l m : List Int) (d : List Bool), eachGo n d (l ++ m) = (eachGo n d l && eachGo n (exD d l) m)
  | [], m, d => by simp [eachGo, exD]
  | i :: l, m, d => by
    show (eaOk n d i && eachGo n (d.set i.toNat true) (l ++ m)) = ((eaOk n d i && eachGo n (d.set i.toNat true) l) && eachGo n (exD (d.set i.toNat true) l) m)
    rw [eachGo_app n l m, Bool.and_assoc]
structure IsEach (n : Nat) (l : List Int) : Prop where
  len : l.length = n
  rng : ∀ m, m < n → 0 ≤ l.getD m 0 ∧ l.getD m 0 < (n : Int)
  new : ∀ m, m < n → (dAt n l m).getD (l.getD m 0).toNat false = false
theorem eachGo_at {n : Nat} {d : List Bool} {l : List Int} (h : eachGo n d l = true) {m : Nat} (hm : m < l.length) : eaOk n (exD d (l.take m)) (l.getD m 0) = true := by
  have h1 := eachGo_app n (l.take m) (l.drop m) d
  rw [List.take_append_drop, h] at h1
  have h2 : eachGo n (exD d (l.take m)) (l.drop m) = true := by
    cases e : eachGo n (exD d (l.take m)) (l.drop m) with
    | true => rfl
    | false => rw [e] at h1; simp at h1
  rw [List.drop_eq_getElem_cons hm] at h2
  unfold eachGo at h2
  simp only [Bool.and_eq_true] at h2
  have : l.getD m 0 = l[m] := by simp [List.getD_eq_getElem?_getD, List.getElem?_eq_getElem hm]
  rw [this]; exact h2.1
theorem eachB_iff {n : Nat} {l : List Int} : eachB n l = true ↔ IsEach n l := by
  constructor
  · intro h
    unfold eachB at h
    simp only [Bool.and_eq_true, decide_eq_true_eq] at h
    have key := fun m (hm : m < n) => eachGo_at h.2 (m := m) (by omega)
    unfold eaOk at key
    simp only [Bool.and_eq_true, decide_eq_true_eq, Bool.not_eq_true'] at key
    exact ⟨h.1, fun m hm => (key m hm).1, fun m hm => (key m hm).2⟩
  · intro h
    unfold eachB
    simp only [Bool.and_eq_true, decide_eq_true_eq]
    refine ⟨h.len, ?_⟩
    have : ∀ m, m ≤ n → eachGo n (List.replicate n false) (l.take m) = true := by
      intro m
      induction m with
      | zero => intro _; simp [eachGo]
      | succ m ih =>
        intro hm
        rw [List.take_add_one, List.getElem?_eq_getElem (by rw [h.len]; omega), Option.toList_some, eachGo_app, ih (by omega), Bool.true_and]
        have h1 := h.rng m (by omega)
        have h2 := h.new m (by omega)
        have e : l[m]'(by rw [h.len]; omega) = l.getD m 0 := by simp [List.getD_eq_getElem?_getD, List.getElem?_eq_getElem (show m < l.length by rw [h.len]; omega)]
        rw [e]
        unfold dAt at h2
        simp only [eachGo, eaOk, h1.1, h1.2, h2, decide_true, Bool.and_self, Bool.not_false]
    have := this n (Nat.le_refl _)
    rwa [List.take_of_length_le (by rw [h.len]; exact Nat.le_refl _)] at this
/-- What is marked was in the list. -/
theorem dAt_mem {n : Nat} {l : List Int} (hr : ∀ m, m < n → 0 ≤ l.getD m 0 ∧ l.getD m 0 < (n : Int)) (hl : l.length = n) {i : Nat} (hi : i < n) : ∀ m, m ≤ n → ((dAt n l m).getD i false = true ↔ ∃ k, k < m ∧ l.getD k 0 = (i : Nat))
  | 0, _ => by simp [dAt, exD, List.getD_eq_getElem?_getD, List.getElem?_replicate]; split <;> simp
  | m + 1, hm => by
    have ih := dAt_mem hr hl hi m (by omega)
    have h1 := hr m (by omega)
    rw [dAt_succ (by omega), getD_setB]
    by_cases e : (l.getD m 0).toNat = i
    · rw [if_pos ⟨e, by rw [dAt_len]; omega⟩]
      exact ⟨fun _ => ⟨m, by omega, by omega⟩, fun _ => rfl⟩
    · rw [if_neg (fun h => e h.1), ih]
      constructor
      · rintro ⟨k, h2, h3⟩; exact ⟨k, by omega, h3⟩
      · rintro ⟨k, h2, h3⟩
        rcases Nat.lt_succ_iff_lt_or_eq.1 h2 with h4 | h4
        · exact ⟨k, h4, h3⟩
        · subst h4; omega
theorem IsEach.cnt {n : Nat} {l : List Int} (h : IsEach n l) : ∀ m, m ≤ n → cntT (dAt n l m) = m
  | 0, _ => by simp [dAt, exD, cntT_rep]
  | m + 1, hm => by
    have h1 := h.rng m (by omega)
    rw [dAt_succ (by rw [h.len]; omega), cntT_set (by rw [dAt_len]; omega) (h.new m (by omega)), h.cnt m (by omega)]
theorem IsEach.has {n : Nat} {l : List Int} (h : IsEach n l) {i : Nat} (hi : i < n) : ∃ k, k < n ∧ l.getD k 0 = (i : Nat) := by
  have := all_true (d := dAt n l n) (by rw [h.cnt n (Nat.le_refl _), dAt_len])
  rw [dAt_len] at this
  refine (dAt_mem h.rng h.len hi n (Nat.le_refl _)).1 ?_
  rw [this]; simp [List.getD_eq_getElem?_getD, hi]
theorem IsEach.inj {n : Nat} {l : List Int} (h : IsEach n l) {a b : Nat} (ha : a < b) (hb : b < n) : l.getD a 0 ≠ l.getD b 0 := by
  intro e
  have h1 := h.rng b hb
  have h2 := h.new b hb
  have h3 := (dAt_mem h.rng h.len (i := (l.getD b 0).toNat) (by omega) b (by omega)).2 ⟨a, ha, by omega⟩
  rw [h2] at h3; cases h3
theorem IsExt.each {n : Nat} {bel : List (List Int)} {l : List Int} (h : IsExt n bel l) : IsEach n l := ⟨h.len, h.rng, fun m hm => freeL_not (h.free m hm)⟩
/-- No later element is below an earlier one. -/
def noLess (t : List (List Bool)) (l : List Int) (j i : Nat) : Bool := !atT t (l.getD j 0).toNat (l.getD i 0).toNat
theorem ext_iff {n : Nat} {t : List (List Bool)} (hp : IsPo n t) {l : List Int} : extB n (belL n t) l = true ↔ eachB n l = true ∧ ∀ j, j < n → ∀ i, i < j → noLess t l j i = true := by
  rw [extB_iff, eachB_iff]
  constructor
  · intro h
    refine ⟨h.each, fun j hj i hi => ?_⟩
    have h1 := h.rng i (by omega)
    have h2 := h.rng j hj
    unfold noLess
    cases ha : atT t (l.getD j 0).toNat (l.getD i 0).toNat with
    | false => rfl
    | true =>
      have h3 := ((freeL_iff (by omega)).1 (h.free i (by omega))).2 _ (by omega) ha
      obtain ⟨k, h4, h5⟩ := (dAt_mem h.rng h.len (by omega) i (by omega)).1 h3
      exact absurd (show l.getD k 0 = l.getD j 0 by omega) (h.each.inj (a := k) (b := j) (by omega) hj)
  · rintro ⟨h, hno⟩
    refine ⟨h.len, h.rng, fun m hm => ?_⟩
    have h1 := h.rng m hm
    refine (freeL_iff (by omega)).2 ⟨h.new m hm, fun j hj ha => ?_⟩
    obtain ⟨k, h2, h3⟩ := h.has hj
    refine (dAt_mem h.rng h.len hj m (by omega)).2 ⟨k, ?_, h3⟩
    apply Classical.byContradiction
    intro hk
    rcases Nat.eq_or_lt_of_le (Nat.le_of_not_lt hk) with e | e
    · subst e
      rw [h3, Int.toNat_natCast] at ha
      rw [hp.irr j hj] at ha; cases ha
    · have h4 := hno k h2 m e
      unfold noLess at h4
      rw [h3, Int.toNat_natCast, ha] at h4; cases h4
end Go.AM

/- The reference's way to count: from an ideal upwards, with the ways to each one. -/
namespace Go.AM
structure RStE where
  nx : List (List Bool)
  sm : List Int
  bg : Bool
def capM (v : Int) : Int := if 1125899906842624 < v then 1125899906842625 else v
def rNew (st : RStE) (y : List Bool) : RStE := if y ∈ st.nx then st else ⟨st.nx ++ [y], st.sm ++ [0], st.bg⟩
def rPut (st : RStE) (a : Nat) (w : Int) : RStE := ⟨st.nx, st.sm.set a (capM (st.sm.getD a 0 + w)), st.bg || decide (1125899906842624 < st.sm.getD a 0 + w)⟩
def rAdd (w : Int) (st : RStE) (y : List Bool) : RStE := rPut (rNew st y) ((rNew st y).nx.idxOf y) w
def rS (bel : List (List Int)) (S : List Bool) (w : Int) (m : Nat) (st : RStE) : RStE := fr (freeL bel S) (fun st x => rAdd w st (S.set x true)) m st
def rFold (bel : List (List Int)) (n : Nat) (L : List (List Bool × Int)) (st : RStE) : RStE := L.foldl (fun st p => rS bel p.1 p.2 n st) st
structure ROk (st : RStE) : Prop where
  len : st.nx.length = st.sm.length
  rng : ∀ v ∈ st.sm, 0 ≤ v ∧ v ≤ 1125899906842625
  cap : st.bg = false → ∀ v ∈ st.sm, v ≤ 1125899906842624
theorem ROk.new {st : RStE} (h : ROk st) (y : List Bool) : ROk (rNew st y) := by
  unfold rNew
  split
  · exact h
  · refine ⟨by simp [h.len], fun v hv => ?_, fun hb v hv => ?_⟩
    · rcases List.mem_append.1 hv with e | e
      · exact h.rng v e
      · rw [List.mem_singleton.1 e]; exact ⟨by decide, by decide⟩
    · rcases List.mem_append.1 hv with e | e
      · exact h.cap hb v e
      · rw [List.mem_singleton.1 e]; decide
theorem ROk.getD {st : RStE} (h : ROk st) (a : Nat) : 0 ≤ st.sm.getD a 0 ∧ st.sm.getD a 0 ≤ 1125899906842625 := by
  by_cases ha : a < st.sm.length
  · rw [List.getD_eq_getElem?_getD, List.getElem?_eq_getElem ha]
    exact h.rng _ (List.getElem_mem ha)
  · rw [List.getD_eq_getElem?_getD, List.getElem?_eq_none (by omega)]
    exact ⟨by decide, by decide⟩
theorem ROk.put {st : RStE} (h : ROk st) (a : Nat) {w : Int} (hw : 0 ≤ w) : ROk (rPut st a w) := by
  refine ⟨by simp [rPut, h.len], fun v hv => ?_, fun hb v hv => ?_⟩
  · rcases List.mem_or_eq_of_mem_set hv with e | e
    · exact h.rng v e
    · have := h.getD a
      rw [e]; unfold capM; split <;> omega
  · simp only [rPut, Bool.or_eq_false_iff, decide_eq_false_iff_not] at hb
    rcases List.mem_or_eq_of_mem_set hv with e | e
    · exact h.cap hb.1 v e
    · rw [e]; unfold capM; rw [if_neg hb.2]; omega
theorem ROk.add {st : RStE} (h : ROk st) (y : List Bool) {w : Int} (hw : 0 ≤ w) : ROk (rAdd w st y) := (h.new y).put _ hw
theorem ROk.s {bel : List (List Int)} {S : List Bool} {w : Int} (hw : 0 ≤ w) : ∀ (m : Nat) {st : RStE}, ROk st → ROk (rS bel S w m st)
  | 0, _, h => h
  | m + 1, st, h => by
    have ih := ROk.s (bel := bel) (S := S) hw m h
    unfold rS at *
    cases hf : freeL bel S m with
    | true => rw [fr_succ _ hf]; exact ih.add _ hw
    | false => rw [fr_miss _ hf]; exact ih
theorem ROk.fold {bel : List (List Int)} {n : Nat} : ∀ {L : List (List Bool × Int)} {st : RStE}, (∀ p ∈ L, 0 ≤ p.2) → ROk st → ROk (rFold bel n L st)
  | [], _, _, h => h
  | p :: L, st, hL, h => by
    have := ROk.fold (bel := bel) (n := n) (L := L) (fun q hq => hL q (List.mem_cons_of_mem _ hq)) (h.s (bel := bel) (S := p.1) (hL p List.mem_cons_self) n)
    exact this
/-! ### What the sums say. -/
end Go.AM

/- The reference's count is the number of ways. -/
namespace Go.AM
theorem ROk.empty (b : Bool) : ROk ⟨[], [], b⟩ := ⟨rfl, fun v hv => (by cases hv), fun _ v hv => (by cases hv)⟩
end Go.AM

/- Each rank is the rank of an extension. -/
namespace Go.AM
theorem getD_left {l : List Int} {x : Int} {q : Nat} (h : q < l.length) : (l ++ [x]).getD q 0 = l.getD q 0 := by
  rw [List.getD_eq_getElem?_getD, List.getElem?_append_left h, ← List.getD_eq_getElem?_getD]
theorem getD_last {l : List Int} {x : Int} : (l ++ [x]).getD l.length 0 = x := by simp [List.getD_eq_getElem?_getD]
theorem dAt_left {n : Nat} {l : List Int} {x : Int} {q : Nat} (h : q ≤ l.length) : dAt n (l ++ [x]) q = dAt n l q := by
  unfold dAt; rw [List.take_append_of_le_length h]
structure IsPre (n : Nat) (bel : List (List Int)) (l : List Int) : Prop where
  le : l.length ≤ n
  rng : ∀ m, m < l.length → 0 ≤ l.getD m 0 ∧ l.getD m 0 < (n : Int)
  free : ∀ m, m < l.length → freeL bel (dAt n l m) (l.getD m 0).toNat = true
theorem IsPre.snoc {n : Nat} {bel : List (List Int)} {l : List Int} (h : IsPre n bel l) {x : Nat} (hl : l.length < n) (hx : x < n) (hf : freeL bel (dAt n l l.length) x = true) : IsPre n bel (l ++ [((x : Nat) : Int)]) := by
  refine ⟨by simp; omega, fun m hm => ?_, fun m hm => ?_⟩
  · simp only [List.length_append, List.length_cons, List.length_nil] at hm
    by_cases e : m < l.length
    · rw [getD_left e]; exact h.rng m e
    · rw [show m = l.length by omega, getD_last]; omega
  · simp only [List.length_append, List.length_cons, List.length_nil] at hm
    by_cases e : m < l.length
    · rw [getD_left e, dAt_left (by omega)]; exact h.free m e
    · rw [show m = l.length by omega, getD_last, dAt_left (Nat.le_refl _)]; exact hf
theorem IsPre.ext {n : Nat} {bel : List (List Int)} {l : List Int} (h : IsPre n bel l) (hl : l.length = n) : IsExt n bel l := ⟨hl, fun m hm => h.rng m (by omega), fun m hm => h.free m (by omega)⟩
end Go.AM

/- The next extension has the next rank. -/
namespace Go.AM
theorem IsExt.pre {n : Nat} {bel : List (List Int)} {l : List Int} (h : IsExt n bel l) (m : Nat) (hm : m ≤ n) : IsPre n bel (l.take m) := by
  have hl : (l.take m).length = m := by simp [h.len, hm]
  have hg : ∀ q, q < m → (l.take m).getD q 0 = l.getD q 0 := fun q hq => by rw [List.getD_eq_getElem?_getD, List.getElem?_take_of_lt hq, ← List.getD_eq_getElem?_getD]
  have hd : ∀ q, q ≤ m → dAt n (l.take m) q = dAt n l q := fun q hq => by unfold dAt; rw [List.take_take, Nat.min_eq_left hq]
  refine ⟨by omega, fun q hq => ?_, fun q hq => ?_⟩
  · rw [hg q (by omega)]; exact h.rng q (by omega)
  · rw [hg q (by omega), hd q (by omega)]; exact h.free q (by omega)
/-! ### Small orders. -/
end Go.AM

/- An order with one more pair. -/
namespace Go.AM
def leT (t : List (List Bool)) (x a : Nat) : Bool := decide (x = a) || atT t x a
def mRow (n : Nat) (t : List (List Bool)) (a b x : Nat) : List Bool := (List.range n).map fun z => atT t x z || (leT t x a && leT t b z)
def mT (n : Nat) (t : List (List Bool)) (a b : Nat) : List (List Bool) := (List.range n).map (mRow n t a b)
theorem mRow_len (n : Nat) (t : List (List Bool)) (a b x : Nat) : (mRow n t a b x).length = n := by simp [mRow]
theorem mRow_get {n : Nat} {t : List (List Bool)} {a b x z : Nat} (hz : z < n) : (mRow n t a b x).getD z false = (atT t x z || (leT t x a && leT t b z)) := by
  simp [mRow, List.getD_eq_getElem?_getD, hz]
theorem mT_row {n : Nat} {t : List (List Bool)} {a b x : Nat} (hx : x < n) : rowT (mT n t a b) x = mRow n t a b x := by
  simp [rowT, mT, List.getD_eq_getElem?_getD, hx]
theorem mT_sq (n : Nat) (t : List (List Bool)) (a b : Nat) : Sq n (mT n t a b) := ⟨by simp [mT], fun r hr => by
  obtain ⟨x, _, rfl⟩ := List.mem_map.1 hr
  exact mRow_len n t a b x⟩
theorem mT_at {n : Nat} {t : List (List Bool)} {a b x z : Nat} (hx : x < n) (hz : z < n) : atT (mT n t a b) x z = (atT t x z || (leT t x a && leT t b z)) := by
  unfold atT; rw [mT_row hx, mRow_get hz]; rfl
theorem leT_trans {n : Nat} {t : List (List Bool)} (hp : IsPo n t) {x y z : Nat} (hx : x < n) (hy : y < n) (hz : z < n) (h1 : leT t x y = true) (h2 : leT t y z = true) : leT t x z = true := by
  unfold leT at *
  simp only [Bool.or_eq_true, decide_eq_true_eq] at *
  rcases h1 with rfl | h1
  · exact h2
  · rcases h2 with rfl | h2
    · exact .inr h1
    · exact .inr (hp.trans x y z hx hy hz h1 h2)
theorem mT_po {n : Nat} {t : List (List Bool)} (hp : IsPo n t) {a b : Nat} (ha : a < n) (hb : b < n) (hba : leT t b a = false) : IsPo n (mT n t a b) := by
  have hle : ∀ {x y}, atT t x y = true → leT t x y = true := fun h => by unfold leT; rw [h]; simp
  refine ⟨fun x hx => ?_, fun x y z hx hy hz h1 h2 => ?_⟩
  · rw [mT_at hx hx, hp.irr x hx, Bool.false_or]
    cases e : leT t x a && leT t b x with
    | false => rfl
    | true =>
      rw [Bool.and_eq_true] at e
      rw [leT_trans hp hb hx ha e.2 e.1] at hba; cases hba
  · rw [mT_at hx hy] at h1
    rw [mT_at hy hz] at h2
    rw [mT_at hx hz]
    simp only [Bool.or_eq_true, Bool.and_eq_true] at *
    rcases h1 with h1 | ⟨h1, h1'⟩
    · rcases h2 with h2 | ⟨h2, h2'⟩
      · exact .inl (hp.trans x y z hx hy hz h1 h2)
      · exact .inr ⟨leT_trans hp hx hy ha (hle h1) h2, h2'⟩
    · rcases h2 with h2 | ⟨h2, h2'⟩
      · exact .inr ⟨h1, leT_trans hp hb hy hz h1' (hle h2)⟩
      · exfalso
        rw [leT_trans hp hb hy ha h1' h2] at hba; cases hba
end Go.AM

/- The search's classes are closures: what is dealt can be reversed, and what cannot be put cannot be reversed. -/
namespace Go.AM
theorem warsh_put {n : Nat} {u : List (List Bool)} (hu : Sq n u) (hac : acyc n u = true) {a b : Nat} (ha : a < n) (hb : b < n) (hba : leT (warsh n u) b a = false) : warsh n (putT u a b) = mT n (warsh n u) a b := by
  have hw := warsh_po hu hac
  have hm := mT_po hw ha hb hba
  have hq := hu.putT ha b
  refine tab_ext hq.warsh (mT_sq _ _ _ _) fun i j hi hj => bool_ext ?_
  constructor
  · intro h
    refine warsh_least hq (S := fun i j => atT (mT n (warsh n u) a b) i j = true) (fun i j hi hj h => ?_) (fun i k j hi hk hj h1 h2 => hm.trans i k j hi hk hj h1 h2) hi hj h
    rw [atT_putT hu ha hb] at h
    rw [mT_at hi hj]
    simp only [Bool.or_eq_true, Bool.and_eq_true, decide_eq_true_eq] at h ⊢
    rcases h with ⟨rfl, rfl⟩ | h
    · right; simp [leT]
    · left; exact warsh_sub hu hi hj h
  · intro h
    have hsub : ∀ x y, x < n → y < n → atT (warsh n u) x y = true → atT (warsh n (putT u a b)) x y = true := fun x y hx hy h => by
      refine warsh_least hu (S := fun i j => atT (warsh n (putT u a b)) i j = true) (fun i j hi hj h => warsh_sub hq hi hj ?_) (fun i k j hi hk hj h1 h2 => warsh_trans hq hi hk hj h1 h2) hx hy h
      rw [atT_putT hu ha hb, h, Bool.or_true]
    have hab : atT (warsh n (putT u a b)) a b = true := warsh_sub hq ha hb (by rw [atT_putT hu ha hb]; simp)
    rw [mT_at hi hj] at h
    simp only [Bool.or_eq_true, Bool.and_eq_true, leT, decide_eq_true_eq] at h
    rcases h with h | ⟨h1, h2⟩
    · exact hsub i j hi hj h
    · have h3 : atT (warsh n (putT u a b)) i b = true := by
        rcases h1 with rfl | h1
        · exact hab
        · exact warsh_trans hq hi ha hb (hsub i a hi ha h1) hab
      rcases h2 with rfl | h2
      · exact h3
      · exact warsh_trans hq hi hb hj h3 (hsub b j hb hj h2)
theorem acyc_put {n : Nat} {u : List (List Bool)} (hu : Sq n u) (hac : acyc n u = true) {a b : Nat} (ha : a < n) (hb : b < n) : acyc n (putT u a b) = !leT (warsh n u) b a := by
  cases h : leT (warsh n u) b a with
  | false =>
    have hm := mT_po (warsh_po hu hac) ha hb h
    rw [Bool.not_false]
    exact acyc_iff.2 fun i hi => by rw [warsh_put hu hac ha hb h]; exact hm.irr i hi
  | true =>
    rw [Bool.not_true]
    cases e : acyc n (putT u a b) with
    | false => rfl
    | true =>
      exfalso
      have hq := hu.putT ha b
      have h0 := acyc_iff.1 e b hb
      have hab : atT (warsh n (putT u a b)) a b = true := warsh_sub hq ha hb (by rw [atT_putT hu ha hb]; simp)
      simp only [leT, Bool.or_eq_true, decide_eq_true_eq] at h
      rcases h with rfl | h
      · rw [hab] at h0; cases h0
      · have : atT (warsh n (putT u a b)) b a = true := warsh_least hu (S := fun i j => atT (warsh n (putT u a b)) i j = true) (fun i j hi hj h => warsh_sub hq hi hj (by rw [atT_putT hu ha hb, h, Bool.or_true])) (fun i k j hi hk hj h1 h2 => warsh_trans hq hi hk hj h1 h2) hb ha h
        rw [warsh_trans hq hb ha hb this hab] at h0; cases h0
/-- A class stands for the closure of an order and of the turned pairs. -/
structure CI (n : Nat) (t : List (List Bool)) (q : List (Nat × Nat)) (c : List Nat) : Prop where
  cls : Cls c
  rng : ∀ x ∈ q, x.1 < n ∧ x.2 < n
  acy : acyc n (addTs t q) = true
  rel : ∀ i j, i < 8 → j < 8 → (c.getD i 0).testBit j = (decide (i < n) && decide (j < n) && atT (warsh n (addTs t q)) i j)
theorem addTs_snoc (t : List (List Bool)) (q : List (Nat × Nat)) (x : Nat × Nat) : addTs t (q ++ [x]) = putT (addTs t q) x.2 x.1 := by
  unfold addTs; rw [List.foldl_append]; rfl
theorem cputL_get (c : List Nat) (hc : c.length = 8) (a v : Nat) {k : Nat} (hk : k < 8) : ∀ m, m ≤ 8 → (cputL c a v m).getD k 0 = if k < m then cputR a v k (c.getD k 0) else c.getD k 0
  | 0, _ => by simp [cputL]
  | m + 1, hm => by
    have ih := cputL_get c hc a v hk m (by omega)
    unfold cputL
    by_cases e : m = k
    · subst e
      rw [getD_set_eq (by rw [cputL_len]; omega), ih, if_neg (by omega), if_pos (by omega)]
    · rw [getD_set_ne e, ih]
      by_cases h : k < m
      · rw [if_pos h, if_pos (by omega)]
      · rw [if_neg h, if_neg (by omega)]
theorem CI.bad {n : Nat} {t : List (List Bool)} (hs : Sq n t) {q : List (Nat × Nat)} {c : List Nat} (h : CI n t q c) (hn : n ≤ 8) {x : Nat × Nat} (h1 : x.1 < n) (h2 : x.2 < n) : acyc n (addTs t (q ++ [x])) = !badC c x.2 x.1 := by
  have hsq := addTs_sq (L := q) hs fun y hy => (h.rng y hy).2
  rw [addTs_snoc, acyc_put hsq h.acy h2 h1]
  congr 1
  unfold badC leT
  rw [h.rel x.1 x.2 (by omega) (by omega), decide_eq_true h1, decide_eq_true h2]
  congr 1
  exact decide_eq_decide.2 eq_comm
theorem testBit_or_two (x v b j : Nat) : (x ||| (v ||| 2 ^ b)).testBit j = (x.testBit j || (v.testBit j || decide (b = j))) := by
  rw [Nat.testBit_or, Nat.testBit_or, Nat.testBit_two_pow]
theorem CI.snoc {n : Nat} {t : List (List Bool)} (hs : Sq n t) {q : List (Nat × Nat)} {c : List Nat} (h : CI n t q c) (hn : n ≤ 8) {x : Nat × Nat} (h1 : x.1 < n) (h2 : x.2 < n) (hb : badC c x.2 x.1 = false) : CI n t (q ++ [x]) (cputC c x.2 x.1) := by
  have hsq := addTs_sq (L := q) hs fun y hy => (h.rng y hy).2
  have hac : acyc n (addTs t (q ++ [x])) = true := by rw [h.bad hs hn h1 h2, hb]; rfl
  have hle : leT (warsh n (addTs t q)) x.1 x.2 = false := by
    have := acyc_put hsq h.acy h2 h1
    rw [← addTs_snoc, hac] at this
    cases e : leT (warsh n (addTs t q)) x.1 x.2 with
    | false => rfl
    | true => rw [e] at this; cases this
  refine ⟨cputC_cls h.cls (by omega), fun y hy => ?_, hac, fun i j hi hj => ?_⟩
  · rcases List.mem_append.1 hy with hy | hy
    · exact h.rng y hy
    · rw [List.mem_singleton.1 hy]; exact ⟨h1, h2⟩
  · unfold cputC
    rw [cputL_get c h.cls.1 x.2 (afterC c x.1) hi 8 (Nat.le_refl _), if_pos hi]
    have r1 := h.rel i j hi hj
    have r2 := h.rel i x.2 hi (by omega)
    have r3 := h.rel x.1 j (by omega) hj
    rw [decide_eq_true h1] at r3
    rw [decide_eq_true h2] at r2
    rw [addTs_snoc, warsh_put hsq h.acy h2 h1 hle]
    unfold cputR
    by_cases hin : i < n
    · rw [decide_eq_true hin] at r1 r2 ⊢
      by_cases hjn : j < n
      · rw [decide_eq_true hjn] at r1 r3 ⊢
        rw [mT_at hin hjn]
        simp only [Bool.true_and] at r1 r2 r3 ⊢
        unfold leT
        split
        · rename_i hc
          unfold afterC
          rw [testBit_or_two, r1, r3]
          rw [r2] at hc
          rw [hc, Bool.true_and]
          congr 1
          rw [Bool.or_comm]
        · rename_i hc
          rw [r2] at hc
          have hc2 : (decide (i = x.2) || atT (warsh n (addTs t q)) i x.2) = false := by simpa using hc
          rw [r1, hc2, Bool.false_and, Bool.or_false]
      · rw [decide_eq_false hjn] at r1 r3 ⊢
        simp only [Bool.and_false, Bool.false_and] at r1 r3 ⊢
        split
        · unfold afterC
          rw [testBit_or_two, r1, r3, decide_eq_false (by omega)]; rfl
        · exact r1
    · rw [decide_eq_false hin] at r1 r2 ⊢
      simp only [Bool.false_and] at r1 r2 ⊢
      rw [if_neg]
      · exact r1
      · rw [r2, decide_eq_false (by omega)]; decide
theorem byte_bit (W : List Int) (hW : okW W) {j : Nat} (hj : j < 8) : (byteN W).testBit j = hasW W j := by
  rw [hasW_nat hW, show j / 64 = 0 by omega, show j % 64 = j by omega]
  have h0 := (hW 0).1
  unfold byteN
  obtain ⟨w, hw⟩ : ∃ w : Nat, W.getD 0 0 = (w : Int) := ⟨_, (Int.toNat_of_nonneg h0).symm⟩
  rw [hw]
  have : (((w : Int) % 256).toNat) = w % 2 ^ 8 := by omega
  rw [this, Int.toNat_natCast, Nat.testBit_mod_two_pow]
  simp [hj]
theorem CI.start {n : Nat} {t : List (List Bool)} (hs : Sq n t) (hp : IsPo n t) (hn : n ≤ 8) : CI n t [] (startT n t) := by
  refine ⟨startAt_cls n t n, by simp, ?_, fun i j hi hj => ?_⟩
  · exact hp.acyc hs
  · unfold startT
    rw [startAt_get n t n hi]
    show _ = (decide (i < n) && decide (j < n) && atT (warsh n t) i j)
    rw [hp.warsh hs]
    by_cases hin : i < n
    · rw [if_pos hin, decide_eq_true hin, Bool.true_and]
      have hrl := hs.rowLen hin
      have hwl := setW_len' (rowT t i)
      have hok := setW_ok (rowT t i)
      rw [hrl] at hok
      have h64 : j / 64 < (setW (rowT t i) (rowT t i).length).length := by
        rw [hwl, hrl]; unfold wordsN; rw [Int.tdiv_eq_ediv_of_nonneg (by omega)]; omega
      have hh := hasW_setW (rowT t i) h64
      rw [hrl] at hh
      rw [byte_bit _ hok hj, hh]
      by_cases hjn : j < n
      · rw [decide_eq_true hjn, Bool.true_and]; rfl
      · rw [decide_eq_false hjn, Bool.false_and, getD_out (by omega)]
    · rw [if_neg hin, decide_eq_false hin]; simp
/-! ### The search. -/
/-- What the search keeps: classes and what is dealt to them. -/
structure SI (n : Nat) (t : List (List Bool)) (P : List (Nat × Nat)) (i : Nat) (cl : List (List Nat)) (de : List (List (Nat × Nat))) : Prop where
  len : cl.length = de.length
  ci : ∀ k, k < de.length → CI n t (de.getD k []) (cl.getD k [])
  ne : ∀ k, k < de.length → de.getD k [] ≠ []
  all : ∀ x ∈ P.take i, ∃ k, k < de.length ∧ x ∈ de.getD k []
  le : de.length ≤ i
  rows : ∀ k, (de.getD k []).length ≤ i
  from_ : ∀ k, ∀ x ∈ de.getD k [], x ∈ P
theorem SI.nil (n : Nat) (t : List (List Bool)) (P : List (Nat × Nat)) : SI n t P 0 [] [] := ⟨rfl, fun k h => absurd h (Nat.not_lt_zero _), fun k h => absurd h (Nat.not_lt_zero _), fun x h => absurd h (by simp), Nat.le_refl _, fun k => by rw [getD_out (by simp)]; exact Nat.le_refl _, fun k x h => absurd h (by rw [getD_out (by simp)]; simp)⟩
theorem addP_get {de : List (List (Nat × Nat))} {j k : Nat} {x : Nat × Nat} (hj : j < de.length) : (addP de j x).getD k [] = if j = k then de.getD k [] ++ [x] else de.getD k [] := by
  unfold addP
  by_cases e : j = k
  · subst e; rw [getD_set_eq hj, if_pos rfl]
  · rw [getD_set_ne e, if_neg e]
theorem snoc_get {α : Type} (l : List α) (x d : α) (k : Nat) : (l ++ [x]).getD k d = if k < l.length then l.getD k d else if k = l.length then x else d := by
  rw [getD_append]
  split
  · rfl
  · split
    · rename_i h1 h2; rw [h2, Nat.sub_self]; rfl
    · rename_i h1 h2
      have h3 : [x].length ≤ k - l.length := by rw [List.length_singleton]; omega
      exact getD_out h3 d
theorem SI.put {n : Nat} {t : List (List Bool)} (hs : Sq n t) (hn : n ≤ 8) {P : List (Nat × Nat)} (hP : ∀ x ∈ P, x.1 < n ∧ x.2 < n) {i : Nat} {cl : List (List Nat)} {de : List (List (Nat × Nat))} (h : SI n t P i cl de) {x : Nat × Nat} (hx : P[i]? = some x) {j : Nat} (hj : j < cl.length)
    (hb : badC (cl.getD j []) x.2 x.1 = false) : SI n t P (i + 1) (cl.set j (cputC (cl.getD j []) x.2 x.1)) (addP de j x) := by
  have hjd : j < de.length := by rw [← h.len]; exact hj
  have hxP := List.mem_of_getElem? hx
  have hxr := hP x hxP
  have hlen : (addP de j x).length = de.length := by simp [addP]
  refine ⟨by rw [hlen]; simpa using h.len, fun k hk => ?_, fun k hk => ?_, fun y hy => ?_, by rw [hlen]; have := h.le; omega, fun k => ?_, fun k y hy => ?_⟩
  · rw [hlen] at hk
    rw [addP_get hjd]
    by_cases e : j = k
    · subst e; rw [if_pos rfl, getD_set_eq hj]
      exact (h.ci j hk).snoc hs hn hxr.1 hxr.2 hb
    · rw [if_neg e, getD_set_ne e]; exact h.ci k hk
  · rw [hlen] at hk
    rw [addP_get hjd]
    split
    · simp
    · exact h.ne k hk
  · rw [List.take_add_one, hx] at hy
    rcases List.mem_append.1 hy with hy | hy
    · obtain ⟨k, hk, hm⟩ := h.all y hy
      refine ⟨k, by rw [hlen]; exact hk, ?_⟩
      rw [addP_get hjd]; split
      · exact List.mem_append_left _ hm
      · exact hm
    · obtain rfl : y = x := by simpa using hy
      exact ⟨j, by rw [hlen]; exact hjd, by rw [addP_get hjd, if_pos rfl]; simp⟩
  · rw [addP_get hjd]
    have := h.rows k
    split
    · rw [List.length_append, List.length_singleton]; omega
    · omega
  · rw [addP_get hjd] at hy
    split at hy
    · rcases List.mem_append.1 hy with hy | hy
      · exact h.from_ k y hy
      · rw [List.mem_singleton.1 hy]; exact hxP
    · exact h.from_ k y hy
/-- A pair that the order does not have can be put into a new class. -/
theorem newC_ci {n : Nat} {t : List (List Bool)} (hs : Sq n t) (hp : IsPo n t) (hn : n ≤ 8) {x : Nat × Nat} (h1 : x.1 < n) (h2 : x.2 < n) (hi : leT t x.1 x.2 = false) : badC (startT n t) x.2 x.1 = false ∧ CI n t [x] (newC (startT n t) x) := by
  have hst := CI.start hs hp hn
  have hb : badC (startT n t) x.2 x.1 = false := by
    unfold badC
    rw [hst.rel x.1 x.2 (by omega) (by omega), decide_eq_true h1, decide_eq_true h2]
    show (decide (x.2 = x.1) || (true && true && atT (warsh n t) x.1 x.2)) = false
    rw [hp.warsh hs]
    unfold leT at hi
    rw [Bool.or_eq_false_iff] at hi ⊢
    exact ⟨by simpa [eq_comm] using hi.1, by simpa using hi.2⟩
  refine ⟨hb, ?_⟩
  unfold newC
  rw [hb]
  exact hst.snoc hs hn h1 h2 hb
theorem SI.grow {n : Nat} {t : List (List Bool)} (hs : Sq n t) (hp : IsPo n t) (hn : n ≤ 8) {P : List (Nat × Nat)} (hP : ∀ x ∈ P, x.1 < n ∧ x.2 < n ∧ leT t x.1 x.2 = false) {i : Nat} {cl : List (List Nat)} {de : List (List (Nat × Nat))} (h : SI n t P i cl de) {x : Nat × Nat} (hx : P[i]? = some x) :
    SI n t P (i + 1) (cl ++ [newC (startT n t) x]) (de ++ [[x]]) := by
  have hxP := List.mem_of_getElem? hx
  obtain ⟨h1, h2, h3⟩ := hP x hxP
  have hnew := (newC_ci hs hp hn h1 h2 h3).2
  have hlen : (de ++ [[x]]).length = de.length + 1 := by simp
  refine ⟨by simp [h.len], fun k hk => ?_, fun k hk => ?_, fun y hy => ?_, by rw [hlen]; have := h.le; omega, fun k => ?_, fun k y hy => ?_⟩
  · rw [hlen] at hk
    rw [snoc_get, snoc_get, h.len]
    by_cases e : k < de.length
    · rw [if_pos e, if_pos e]; exact h.ci k e
    · rw [if_neg e, if_neg e, if_pos (by omega), if_pos (by omega)]; exact hnew
  · rw [hlen] at hk
    rw [snoc_get]
    by_cases e : k < de.length
    · rw [if_pos e]; exact h.ne k e
    · rw [if_neg e, if_pos (by omega)]; simp
  · rw [List.take_add_one, hx] at hy
    rcases List.mem_append.1 hy with hy | hy
    · obtain ⟨k, hk, hm⟩ := h.all y hy
      exact ⟨k, by rw [hlen]; omega, by rw [snoc_get, if_pos hk]; exact hm⟩
    · obtain rfl : y = x := by simpa using hy
      exact ⟨de.length, by rw [hlen]; omega, by rw [snoc_get, if_neg (by omega), if_pos rfl]; simp⟩
  · rw [snoc_get]
    have := h.rows k
    split
    · omega
    · split
      · simp
      · simp
  · rw [snoc_get] at hy
    split at hy
    · exact h.from_ k y hy
    · split at hy
      · rw [List.mem_singleton.1 hy]; exact hxP
      · simp at hy
end Go.AM

/- What the search finds: classes that can be reversed, as few as possible. -/
namespace Go.AM
theorem crB_inc {n : Nat} {t : List (List Bool)} {x y : Nat} (h : crB n t x y = true) : x ≠ y ∧ atT t x y = false ∧ atT t y x = false := by
  unfold crB at h
  simp only [Bool.and_eq_true, Bool.not_eq_true', Bool.or_eq_false_iff, decide_eq_false_iff_not] at h
  exact ⟨h.1.1.1, h.1.1.2, h.1.2⟩
theorem critT_inc {n : Nat} {t : List (List Bool)} {x : Nat × Nat} (h : x ∈ critT n t) : x.1 < n ∧ x.2 < n ∧ leT t x.1 x.2 = false := by
  have h1 := crA_mem.1 h
  have h2 := crB_inc h1.2.2
  refine ⟨h1.1, h1.2.1, ?_⟩
  unfold leT
  rw [decide_eq_false h2.1, h2.2.1]; rfl
theorem crit_si {n : Nat} {t : List (List Bool)} (hs : Sq n t) (hp : IsPo n t) (hn : n ≤ 8) {m : Nat} {r : Dl} (h : dealP m (startT n t) (critT n t) [] [] = some r) : SI n t (critT n t) (critT n t).length r.1 r.2 :=
  dealP_keep (fun i cl de => SI n t (critT n t) i cl de) (critT n t)
    (fun i x cl de j hx hI hj hb => hI.put hs hn (fun y hy => ⟨(critT_inc hy).1, (critT_inc hy).2.1⟩) hx hj hb)
    (fun i x cl de hx hI _ => hI.grow hs hp hn (fun y hy => critT_inc hy) hx)
    (critT n t) 0 [] [] r (Nat.zero_le _) rfl (SI.nil n t _) h
theorem mostF_ex {st : List Nat} {P : List (Nat × Nat)} : ∀ (f m : Nat), P.length < f + m → 0 < f → ∃ m', m ≤ m' ∧ dealP m' st P [] [] = some (mostF st P f m) ∧ ∀ k, m ≤ k → k < m' → dealP k st P [] [] = none
  | 0, m, _, h0 => by omega
  | f + 1, m, h, _ => by
    cases hr : dealP m st P [] [] with
    | some r => exact ⟨m, Nat.le_refl _, by rw [hr, mostF_some hr], fun k h1 h2 => by omega⟩
    | none =>
      have hm := dealP_none hr
      obtain ⟨m', h1, h2, h3⟩ := mostF_ex (st := st) (P := P) f (m + 1) (by omega) (by omega)
      refine ⟨m', by omega, by rw [mostF_none hr]; exact h2, fun k hk1 hk2 => ?_⟩
      rcases Nat.lt_or_ge m k with h4 | h4
      · exact h3 k h4 hk2
      · obtain rfl : k = m := by omega
        exact hr
theorem deals_ex (n : Nat) (t : List (List Bool)) : ∃ m, 1 ≤ m ∧ dealP m (startT n t) (critT n t) [] [] = some (dealsT n t) ∧ ∀ k, 1 ≤ k → k < m → dealP k (startT n t) (critT n t) [] [] = none :=
  mostF_ex _ 1 (by omega) (by omega)
theorem dealt_si {n : Nat} {t : List (List Bool)} (hs : Sq n t) (hp : IsPo n t) (hn : n ≤ 8) : SI n t (critT n t) (critT n t).length (dealsT n t).1 (dealsT n t).2 := by
  obtain ⟨m, _, h, _⟩ := deals_ex n t
  exact crit_si hs hp hn h
theorem mem_get {α : Type} {l : List α} {x : α} (h : x ∈ l) (d : α) : ∃ k, k < l.length ∧ l.getD k d = x := by
  obtain ⟨k, hk, rfl⟩ := List.mem_iff_getElem.1 h
  exact ⟨k, hk, by simp [List.getD_eq_getElem?_getD, hk]⟩
theorem dealt_ok {n : Nat} {t : List (List Bool)} (hs : Sq n t) (hp : IsPo n t) (hn : n ≤ 8) : DealtOk n t := by
  have h := dealt_si hs hp hn
  have hc := critT_le t hn
  unfold dealtT at *
  constructor
  · have := h.le
    unfold dealtT; split
    · simp
    · omega
  · intro q hq
    unfold dealtT at hq
    split at hq
    · obtain rfl := List.mem_singleton.1 hq
      exact ⟨by simp, by simp, by exact hp.acyc hs⟩
    · obtain ⟨k, hk, rfl⟩ := mem_get hq []
      have h1 := h.ci k hk
      exact ⟨by have := h.rows k; omega, h1.rng, h1.acy⟩
/-! ### The reference's search. -/
end Go.AM

namespace Go.Proofs.D
open Go.AM Go
set_option maxRecDepth 100000
set_option maxHeartbeats 2000000
theorem crit_g (n : Nat) (t : List (List Bool)) (hs : Sq n t) (hn : n ≤ 512) (hv : poB n t = true) : Reads Tryd.prog 12 false [relB t] (.tup [.rsl 2 (prs (critT n t)), .int .i64 ((0 : Nat) : Int)]) := by
  have h := pvalid_g n t hs hn
  rw [hv] at h
  have hc := Reads.old (critical_r n t hs hn)
  unfold relB at *
  refine Reads.body (rs := [.tmp 2, .tmp 3]) Tryd.func12 rfl Tryd.ntmps12 rfl (by simp) ?_
  generalize hQr : retQ _ _ _ = Qr
  -- block 5
  -- region 0
  refine AW.sg [1] [1] trivial ?_
  refine AW.seq fun K1 hK1 => ?_
  -- region 1
  refine AW.so 0 (fun ii => if ii = 1 then some (.reads false (.bool true)) else none) [1,6] [1] trivial ?_
  -- cond 1
  refine AW.cn ?_ ?_
  · intro hb
    simp at hb
  · intro hb
    refine AW.skip ?_
    refine hK1 _ _ _ ?_; clear hK1
    -- region 3
    refine AW.so 0 (fun ii => if ii = 1 then some (.reads false (.rsl 2 (prs (critT n t)))) else none) [2,3] [] trivial ?_
    -- ret 2
    rw [← hQr]
    refine AW.rt trivial ?_
    exact Wk.of_eq rfl
theorem dim_g (n : Nat) (t : List (List Bool)) (hs : Sq n t) (hn : n ≤ 8) (hv : poB n t = true) : Reads Tryd.prog 23 false [relB t] (.tup [.int .i64 (dealtT n t).length, .int .i64 ((0 : Nat) : Int)]) := by
  have hd := dealt_ok hs ((poB_iff hs).1 hv) hn
  have hr := realizer_g n t hs hn hv hd
  have hl : (lisR (realT n t)).length = (dealtT n t).length := by rw [lisR_len, realT_len]
  unfold relB at *
  refine Reads.body (rs := [.tmp 2, .tmp 3]) Tryd.func23 rfl Tryd.ntmps23 rfl (by simp) ?_
  generalize hQr : retQ _ _ _ = Qr
  -- block 10
  -- region 0
  refine AW.sg [1] [1] (@hl) ?_
  -- region 1
  refine AW.so 0 (fun ii => if ii = 1 then some (.reads false (.tup [.rsl 1 (lisR (realT n t)), .int .i64 ((0 : Nat) : Int)])) else none) [4,5] [] (@hl) ?_
  refine AW.seq fun K1 hK1 => ?_
  -- region 2
  refine AW.sg [4,5,12] [] (@hl) ?_
  repeat with_reducible refine cj ?_ ?_
  all_goals try first | (exact hr) | omega
  -- cond 1
  refine AW.cn ?_ ?_
  · intro hb
    exfalso; simp at hb
  · intro hb
    refine AW.skip ?_
    refine hK1 _ _ _ ?_; clear hK1
    -- region 4
    refine AW.sg [2,3] [] (@hl) ?_
    -- ret 2
    rw [← hQr]
    refine AW.rt (@hl) ?_
    exact Wk.of_eq rfl
end Go.Proofs.D

/- The order that lists have in common. -/
namespace Go.AM
def plI (n : Nat) (l : List Int) : Nat → List Int
  | 0 => List.replicate n 0
  | m + 1 => (plI n l m).set (l.getD m 0).toNat ((m : Int) + 1)
theorem plI_len (n : Nat) (l : List Int) : ∀ m, (plI n l m).length = n
  | 0 => by simp [plI]
  | m + 1 => by simp [plI, plI_len n l m]
theorem getD_setI (b : List Int) (i j : Nat) (x : Int) : (b.set i x).getD j 0 = if i = j ∧ i < b.length then x else b.getD j 0 := by
  rw [List.getD_eq_getElem?_getD, List.getElem?_set]
  by_cases h : i = j
  · subst h
    by_cases h2 : i < b.length
    · simp [h2]
    · simp [h2, List.getD_eq_getElem?_getD]
  · simp [h, List.getD_eq_getElem?_getD]
theorem plI_at {n : Nat} {l : List Int} (hE : IsEach n l) : ∀ m, m ≤ n → ∀ k, k < m → (plI n l m).getD (l.getD k 0).toNat 0 = (k : Int) + 1
  | 0, _, k, hk => by omega
  | m + 1, hm, k, hk => by
    have hr := hE.rng m (by omega)
    have hrk := hE.rng k (by omega)
    show ((plI n l m).set (l.getD m 0).toNat ((m : Int) + 1)).getD (l.getD k 0).toNat 0 = _
    rw [getD_setI, plI_len]
    by_cases e : k = m
    · subst e; rw [if_pos ⟨rfl, by omega⟩]
    · have hne := hE.inj (a := k) (b := m) (by omega) (by omega)
      rw [if_neg (fun h => hne (by omega))]
      exact plI_at hE m (by omega) k (by omega)
/-- The place of i in l, as the reference finds it. -/
def refA (l : List Int) (i : Int) : Nat → Int
  | 0 => 0
  | m + 1 => if l.getD m 0 = i then (m : Nat) else refA l i m
def bfA (n : Nat) (i j : Nat) (l : List Int) : Bool := decide (refA l i n < refA l j n)
theorem refA_at {n : Nat} {l : List Int} (hE : IsEach n l) {k : Nat} {i : Int} (hk : l.getD k 0 = i) : ∀ m, m ≤ n → k < m → refA l i m = (k : Nat)
  | 0, _, h => by omega
  | m + 1, hm, h => by
    unfold refA
    by_cases e : k = m
    · subst e; rw [if_pos hk]
    · have hne := hE.inj (a := k) (b := m) (by omega) (by omega)
      rw [if_neg (fun h => hne (by rw [hk, h]))]
      exact refA_at hE hk m (by omega) (by omega)
theorem atv_ref {n : Nat} {l : List Int} (hE : IsEach n l) {i : Nat} (hi : i < n) : (plI n l n).getD i 0 = refA l (i : Nat) n + 1 ∧ ∃ k : Nat, k < n ∧ l.getD k 0 = (i : Nat) ∧ refA l (i : Nat) n = (k : Nat) := by
  obtain ⟨k, hk, he⟩ := hE.has hi
  have h1 := plI_at hE n (Nat.le_refl _) k hk
  rw [he, Int.toNat_natCast] at h1
  have h2 := refA_at hE he n (Nat.le_refl _) hk
  exact ⟨by rw [h1, h2], k, hk, he, h2⟩
end Go.AM

/- The meet of all extensions is the order. -/
namespace Go.AM
/-- Of an extension: what is less stands before. -/
theorem ext_bf {n : Nat} {t : List (List Bool)} (hp : IsPo n t) {l : List Int} (hx : extB n (belL n t) l = true) {i j : Nat} (hi : i < n) (hj : j < n) (ha : atT t i j = true) : bfA n i j l = true := by
  obtain ⟨h1, h2⟩ := (ext_iff hp).1 hx
  have hE := eachB_iff.1 h1
  obtain ⟨_, ki, b1, c1, d1⟩ := atv_ref hE hi
  obtain ⟨_, kj, b2, c2, d2⟩ := atv_ref hE hj
  unfold bfA
  rw [d1, d2, decide_eq_true_eq]
  rcases Nat.lt_trichotomy ki kj with e | e | e
  · omega
  · exfalso
    subst e
    have : i = j := by omega
    subst this
    rw [hp.irr i hi] at ha; cases ha
  · exfalso
    have h3 := h2 ki b1 kj e
    unfold noLess at h3
    rw [c1, c2, Int.toNat_natCast, Int.toNat_natCast, ha] at h3
    cases h3
structure SzI (n : Nat) (bel : List (List Int)) (C : Nat) (A : List (List Int)) (L : List Int) : Prop where
  pos : 1 ≤ A.length
  le : A.length ≤ C
  ok : ∀ j, j < A.length → IsExt n bel (A.getD j []) ∧ rankC bel n (A.getD j []) n = j
  last : A.getD (A.length - 1) [] = L
theorem SzI.snoc {n : Nat} {bel : List (List Int)} {C : Nat} {A : List (List Int)} {L r : List Int} (h : SzI n bel C A L) (hC : A.length < C) (hr : IsExt n bel r) (hk : rankC bel n r n = A.length) : SzI n bel C (A ++ [r]) r := by
  refine ⟨by simp, by simp; omega, fun j hj => ?_, by simp [List.getD_eq_getElem?_getD]⟩
  simp only [List.length_append, List.length_cons, List.length_nil] at hj
  by_cases e : j < A.length
  · rw [List.getD_eq_getElem?_getD, List.getElem?_append_left e, ← List.getD_eq_getElem?_getD]; exact h.ok j e
  · have e2 : j = A.length := by omega
    subst e2
    rw [List.getD_eq_getElem?_getD, List.getElem?_append_right (Nat.le_refl _)]
    simp
    exact ⟨hr, hk⟩
end Go.AM

/- Realizers: the program's test and the reference's are one. -/
namespace Go.AM
/-- The places of a list's numbers: of the program, and of the reference. -/
def plZ (n : Nat) (l : List Int) : Nat → List Int
  | 0 => List.replicate n 0
  | m + 1 => (plZ n l m).set (l.getD m 0).toNat (m : Nat)
theorem plZ_len (n : Nat) (l : List Int) : ∀ m, (plZ n l m).length = n
  | 0 => by simp [plZ]
  | m + 1 => by simp [plZ, plZ_len n l m]
theorem bfA_trans {n : Nat} {l : List Int} {i j k : Nat} (h1 : bfA n i j l = true) (h2 : bfA n j k l = true) : bfA n i k l = true := by
  unfold bfA at *
  simp only [decide_eq_true_eq] at *
  omega
theorem bfA_irr {n : Nat} {l : List Int} {i : Nat} : bfA n i i l = false := by
  unfold bfA; exact decide_eq_false (by omega)
/-- Extensions are lists of all elements in which what is less comes before. -/
theorem extB_bf {n : Nat} {t : List (List Bool)} (hp : IsPo n t) {l : List Int} : extB n (belL n t) l = true ↔ IsEach n l ∧ ∀ i j, i < n → j < n → atT t i j = true → bfA n i j l = true := by
  constructor
  · intro h
    exact ⟨eachB_iff.1 ((ext_iff hp).1 h).1, fun i j hi hj ha => ext_bf hp h hi hj ha⟩
  · rintro ⟨hE, h⟩
    refine (ext_iff hp).2 ⟨eachB_iff.2 hE, fun j hj i hi => ?_⟩
    unfold noLess
    have r1 := hE.rng j hj
    have r2 := hE.rng i (by omega)
    cases e : atT t (l.getD j 0).toNat (l.getD i 0).toNat with
    | false => rfl
    | true =>
      have := h _ _ (by omega) (by omega) e
      unfold bfA at this
      rw [Int.toNat_of_nonneg r1.1, Int.toNat_of_nonneg r2.1, refA_at hE rfl n (Nat.le_refl _) hj, refA_at hE rfl n (Nat.le_refl _) (show i < n by omega)] at this
      simp only [decide_eq_true_eq] at this
      omega
/-- The program's test. -/
def geZ (i j : Nat) (p : List Int) : Bool := decide (p.getD j 0 ≤ p.getD i 0)
def prZ (n : Nat) (t : List (List Bool)) (ls : List (List Int)) (i j : Nat) : Bool := (!(ls.map fun l => plZ n l n).any (geZ i j)) == atT t i j
def rlzB (n : Nat) (t : List (List Bool)) (ls : List (List Int)) : Bool := !decide (ls.length = 0) && (ls.all (extB n (belL n t)) && (List.range n).all fun i => (List.range n).all fun j => prZ n t ls i j)
/-- What a realizer is. -/
structure IsRlz (n : Nat) (t : List (List Bool)) (ls : List (List Int)) : Prop where
  ne : ls ≠ []
  ext : ∀ l ∈ ls, extB n (belL n t) l = true
  rev : ∀ i j, i < n → j < n → i ≠ j → atT t i j = false → ∃ l ∈ ls, bfA n j i l = true
end Go.AM

namespace Go.Proofs.D
open Go.AM Go
set_option maxRecDepth 100000
set_option maxHeartbeats 4000000
theorem gez_r (i j : Nat) (x : List Int) (hi : i < x.length) (hj : j < x.length) : Reads Tryd.prog 43 false [.rsl 1 (ints x), .rptr [.int .i64 i], .rptr [.int .i64 j]] (.bool (geZ i j x)) := by
  have h1 := ints_getD (l := x) (i := i) hi
  have h2 := ints_getD (l := x) (i := j) hj
  refine Reads.body (rs := [.tmp 4]) Tryd.func43 rfl Tryd.ntmps43 rfl (by simp) ?_
  generalize hQr : retQ _ _ _ = Qr
  -- block 1
  -- region 0
  refine AW.sg [0,1,2] [] (e4 @ints_len @h1 @h2 @Int.toNat_natCast) ?_
  -- region 1
  refine AW.sd mixed 0 (fun _ => none) [4] [] (e4 @ints_len @h1 @h2 @Int.toNat_natCast) ?_
  -- ret 1
  rw [← hQr]
  refine AW.rt (e4 @ints_len @h1 @h2 @Int.toNat_natCast) ?_
  exact Wk.refl _
theorem ixgez_r (a b n : Nat) (ls : List (List Int)) (hl : ls.length ≤ 9223372036854775807) (hA : a < n) (hC : b < n) (hx : ∀ x ∈ ls, x.length = n) : Reads Tryd.prog 63 false [.rsl 1 (lisR ls), .fn 43 [.rptr [.int .i64 a], .rptr [.int .i64 b]]] (.int .i64 (ixf (geZ a b) ls)) := by
  have hx0 := hx
  refine Reads.body (rs := [.tmp 4]) Tryd.func63 rfl Tryd.ntmps63 rfl (by simp) ?_
  generalize hQr : retQ _ _ _ = Qr
  -- block 2
  -- region 0
  refine AW.sg [0,1] [] (@lisR_len) ?_
  refine AW.seq fun K1 hK1 => ?_
  -- region 1
  refine AW.sg [0,1,7,8] [] (@lisR_len) ?_
  refine AW.block ?_
  -- loop 1
  refine AW.loopE (fun mm ee ss kk => ∃ (j : Nat), ls.length - j = mm ∧ ee = [(0, .rsl 1 (lisR ls)), (1, .fn 43 [.rptr [.int .i64 a], .rptr [.int .i64 b]]), (7, .int .i64 ls.length), (8, .int .i64 (j : Nat))] ∧ ss = [] ∧ (j ≤ ls.length ∧ (ls.take j).any (geZ a b) = false)) ?_ ?_
  -- init 1
  · exact ⟨_, 0, rfl, eD, eD, eT⟩
  rintro mm ee ss kk ⟨j, rfl, rfl, rfl, hI⟩
  generalize hQl1 : thenQ _ _ = Ql1
  obtain ⟨hj, hall⟩ := hI
  -- region 2
  refine AW.sg [0,1,7,8,9] [] (@lisR_len) ?_
  refine AW.seq fun K2 hK2 => ?_
  -- cond 1
  refine AW.cn ?_ ?_
  · intro hb
    obtain ⟨x, hx⟩ := getI (l := ls) (j := j) (by omega)
    have hgx : (lisR ls).getD j [] = [.rsl 1 (ints x)] := by simp [lisR, List.getD_eq_getElem?_getD, hx]
    have hats := any_take_succ (p := geZ a b) hx
    have hbx := gez_r a b x (by rw [hx0 x (List.mem_of_getElem? hx)]; exact hA) (by rw [hx0 x (List.mem_of_getElem? hx)]; exact hC)
    refine AW.skip ?_
    refine hK2 _ _ _ ?_; clear hK2
    refine AW.seq fun K3 hK3 => ?_
    refine AW.block ?_
    -- region 3
    refine AW.sg [0,1,5,7,8] [] (@lisR_len) ?_
    -- region 4
    refine AW.so 0 (fun ii => if ii = 5 then some (.reads false (.bool (geZ a b x))) else none) [0,1,5,7,8,16] [] (e2 @lisR_len @hgx) ?_
    repeat with_reducible refine cj ?_ ?_
    all_goals try first | (exact hbx) | omega | exact ent (by kernel_rfl)
    -- cond 2
    refine AW.cn ?_ ?_
    · intro hb
      -- region 5
      refine AW.sg [4] [] (@lisR_len) ?_
      -- ret 1
      rw [← hQl1, ← hQr]
      refine AW.rt (@lisR_len) ?_
      exact Wk.of_eq (by rw [ixf_at hx hb hall])
    · intro hb
      refine AW.skip ?_
      refine hK3 _ _ _ ?_; clear hK3
      -- region 6
      refine AW.rg [0,1,7,8] [] (@lisR_len) ?_
      -- again 1
      rw [← hQl1]; change Exists _
      exact ⟨_, eO, j + 1, rfl, eD, eD, (⟨by omega, by rw [hats, hall, hb]; rfl⟩)⟩
  · intro hb
    -- exit 0
    refine AW.kx [] [] ?_
    rw [← hQl1]
    refine hK1 _ _ _ ?_; clear hK1
    -- region 7
    refine AW.sg [4] [] (@lisR_len) ?_
    -- ret 2
    rw [← hQr]
    refine AW.rt (@lisR_len) ?_
    exact Wk.of_eq (by rw [List.take_of_length_le (by omega)] at hall; rw [ixf_none hall])
theorem ctgez_r (a b n : Nat) (ls : List (List Int)) (hl : ls.length ≤ 9223372036854775807) (hA : a < n) (hC : b < n) (hx : ∀ x ∈ ls, x.length = n) : Reads Tryd.prog 32 false [.rsl 1 (lisR ls), .fn 43 [.rptr [.int .i64 a], .rptr [.int .i64 b]]] (.bool (ls.any (geZ a b))) := by
  have h := ixgez_r a b n ls hl hA hC hx
  have hge := ixf_ge (geZ a b) ls
  refine Reads.body (rs := [.tmp 4]) Tryd.func32 rfl Tryd.ntmps32 rfl (by simp) ?_
  generalize hQr : retQ _ _ _ = Qr
  -- block 3
  -- region 0
  refine AW.sg [0,1] [] trivial ?_
  -- region 1
  refine AW.so 0 (fun ii => if ii = 2 then some (.reads false (.int .i64 (ixf (geZ a b) ls))) else none) [4] [] trivial ?_
  repeat with_reducible refine cj ?_ ?_
  all_goals try first | (exact h) | omega | exact ent (by kernel_rfl)
  -- ret 1
  rw [← hQr]
  refine AW.rt trivial ?_
  exact Wk.of_eq (by rw [hge])
/-- The places that are laid so far. -/
def plT (n : Nat) (ls : List (List Int)) (k : Nat) : List (List AV) := lisR ((ls.take k).map fun l => plZ n l n) ++ List.replicate (ls.length - k) [AV.nilsl]
theorem plT_len (n : Nat) (ls : List (List Int)) {k : Nat} (hk : k ≤ ls.length) : (plT n ls k).length = ls.length := by
  unfold plT; rw [List.length_append, lisR_len]; simp; omega
theorem plT_set (n : Nat) (ls : List (List Int)) {k : Nat} (hk : k < ls.length) {x : List Int} (hx : ls[k]? = some x) : (plT n ls k).set k [.rsl 1 (ints (plZ n x n))] = plT n ls (k + 1) := by
  unfold plT
  have hl : (lisR ((ls.take k).map fun l => plZ n l n)).length = k := by rw [lisR_len]; simp; omega
  rw [List.set_append_right _ _ (by omega), hl, Nat.sub_self, List.take_add_one, hx]
  obtain ⟨j, hj⟩ : ∃ j, ls.length - k = j + 1 := ⟨ls.length - k - 1, by omega⟩
  rw [hj, List.replicate_succ, List.set_cons_zero, show ls.length - (k + 1) = j by omega]
  simp [lisR]
theorem plT_get (n : Nat) (ls : List (List Int)) {k : Nat} (hk : k < ls.length) : (plT n ls k).getD k [] = [AV.nilsl] := by
  unfold plT
  have hl : (lisR ((ls.take k).map fun l => plZ n l n)).length = k := by rw [lisR_len]; simp; omega
  rw [Go.AM.getD_append, if_neg (by omega), hl, Nat.sub_self, List.getD_eq_getElem?_getD, List.getElem?_replicate, if_pos (by omega)]; rfl
theorem realizes_g (n : Nat) (t : List (List Bool)) (hs : Sq n t) (hn : n ≤ 512) (hv : poB n t = true) (ls : List (List Int)) (hl : ls.length ≤ 1000) (hle : ∀ x ∈ ls, x.length ≤ 9223372036854775807) : Reads Tryd.prog 13 false [relB t, .rsl 1 (lisR ls)] (.bool (rlzB n t ls)) := by
  have hp := (poB_iff hs).1 hv
  have h := pvalid_g n t hs hn
  rw [hv] at h
  have hisx := fun l hll => is_g n t hs hn l hll
  have htl := tabR_len t
  have hlen := hs.len
  have hml : (ls.map fun l => plZ n l n).length = ls.length := by simp
  have hme : ∀ x ∈ ls.map (fun l => plZ n l n), x.length = n := fun x hx => by obtain ⟨l, _, rfl⟩ := List.mem_map.1 hx; exact plZ_len n l n
  have hct := fun i j hi hj => Reads.flat (ctgez_r i j n (ls.map fun l => plZ n l n) (by rw [hml]; omega) hi hj hme) rfl
  have hrB : rlzB n t ls = (!decide (ls.length = 0) && (ls.all (extB n (belL n t)) && (List.range n).all fun i => (List.range n).all fun j => prZ n t ls i j)) := rfl
  have hz : List.replicate n [AV.int .i64 0] = ints (List.replicate n 0) := by simp [ints]
  unfold relB at *
  refine Reads.body (rs := [.tmp 4]) Tryd.func13 rfl Tryd.ntmps13 rfl (by simp) ?_
  generalize hQr : retQ _ _ _ = Qr
  -- block 5
  -- region 0
  refine AW.sg [1,2] [2] (e3 @lisR_len @htl @hlen) ?_
  refine AW.seq fun K1 hK1 => ?_
  -- region 1
  refine AW.so 0 (fun ii => if ii = 1 then some (.reads false (.bool true)) else none) [1,2,21] [2] (e3 @lisR_len @htl @hlen) ?_
  repeat with_reducible refine cj ?_ ?_
  all_goals try first | (exact h) | (intros; (repeat' apply And.intro) <;> first | assumption | (exact h)) | omega | exact ent (by kernel_rfl) | (intro hgd; exact absurd hgd (by decide)) | rfl | (simp only [go_sem, reduceIte, reduceCtorEq, Nat.reduceAdd, Nat.reduceMul, Nat.reduceEqDiff, Nat.reduceLT, Nat.reduceLeDiff, Nat.reduceSub, Nat.reducePow, Nat.reduceBEq, Int.reduceToNat, List.reduceReplicate, lisR_len, htl, hlen]; done) | (intro _hgd; simp_all [go_sem]; done)
  -- cond 1
  refine AW.cn ?_ ?_
  · intro hb
    -- region 2
    refine AW.sg [4] [] (e3 @lisR_len @htl @hlen) ?_
    -- ret 1
    rw [← hQr]
    refine AW.rt (e3 @lisR_len @htl @hlen) ?_
    exact Wk.of_eq (by rw [hrB, decide_eq_true (by simpa using hb)]; rfl)
  · intro hb
    have hne : ls.length ≠ 0 := by simpa using hb
    have hrB2 : rlzB n t ls = (ls.all (extB n (belL n t)) && (List.range n).all fun i => (List.range n).all fun j => prZ n t ls i j) := by rw [hrB, decide_eq_false hne]; rfl
    refine AW.skip ?_
    refine hK1 _ _ _ ?_; clear hK1
    -- region 3
    refine AW.sg [1,2,5] [2] (e3 @lisR_len @htl @hlen) ?_
    -- region 4
    refine AW.sg [1,2,5,6] [2,27] (e3 @lisR_len @htl @hlen) ?_
    refine AW.seq fun K2 hK2 => ?_
    -- region 5
    refine AW.sg [2,5,6,28,29,30] [2,27] (e3 @lisR_len @htl @hlen) ?_
    refine AW.block ?_
    -- loop 1
    refine AW.loopE (fun mm ee ss kk => ∃ (k g2 v2 g v : Nat), ls.length - k = mm ∧ ee = [(2, .ptr ⟨2, g2, none⟩ 0 0), (5, .int .i64 n), (6, .sl ⟨27, g, none⟩ 0 ls.length none), (28, .rsl 1 (lisR ls)), (29, .int .i64 ls.length), (30, .int .i64 (k : Nat))] ∧ ss = [(2, some ⟨g2, v2, 1, [[.rsl 2 (tabR t)]]⟩), (27, some ⟨g, v, 1, plT n ls k⟩)] ∧ (k ≤ ls.length ∧ (ls.take k).all (extB n (belL n t)) = true)) ?_ ?_
    -- init 1
    · refine ⟨_, 0, ?_, ?_, ?_, ?_, rfl, ?henv, ?hstore, ?hst⟩
      case henv =>
        repeat' (first | rfl | refine env_cons ?_ ?_ | refine st_cons ?_ ?_ ?_ ?_ | refine int_eq ?_ | refine bool_eq ?_ | refine rsl_eq ?_ | refine osl_eq ?_ | refine sl_eq ?_ ?_ ?_ | refine ptr_eq ?_ ?_ ?_ | refine agg_eq ?_ | refine es_cons ?_ ?_ | refine row_cons ?_ ?_)
        all_goals (first | (simp; done) | omega | (simp; omega))
      case hstore =>
        repeat' (first | rfl | refine env_cons ?_ ?_ | refine st_cons ?_ ?_ ?_ ?_ | refine int_eq ?_ | refine bool_eq ?_ | refine rsl_eq ?_ | refine osl_eq ?_ | refine sl_eq ?_ ?_ ?_ | refine ptr_eq ?_ ?_ ?_ | refine agg_eq ?_ | refine es_cons ?_ ?_ | refine row_cons ?_ ?_)
        all_goals (first | rfl | (simp [plT, lisR]))
      case hst =>
        exact ⟨Nat.zero_le _, rfl⟩
    rintro mm ee ss kk ⟨k, g2, v2, g, v, rfl, rfl, rfl, hI⟩
    generalize hQl1 : thenQ _ _ = Ql1
    obtain ⟨hk, hall⟩ := hI
    -- region 6
    refine AW.sg [2,5,6,28,29,30,31] [2,27,42] (e3 @lisR_len @htl @hlen) ?_
    refine AW.seq fun K3 hK3 => ?_
    -- cond 2
    refine AW.cn ?_ ?_
    · intro hb
      obtain ⟨x, hx⟩ := getI (l := ls) (j := k) (by omega)
      have hgx : (lisR ls).getD k [] = [.rsl 1 (ints x)] := by simp [lisR, List.getD_eq_getElem?_getD, hx]
      have hats := all_take_succ (p := extB n (belL n t)) hx
      have hxm := List.mem_of_getElem? hx
      have hix := hisx x (hle x hxm)
      rw [hv, Bool.true_and] at hix
      have hPl := plT_len n ls hk
      have hPg := plT_get n ls (show k < ls.length by omega)
      have hPs := plT_set n ls (show k < ls.length by omega) hx
      refine AW.skip ?_
      refine hK3 _ _ _ ?_; clear hK3
      refine AW.seq fun K4 hK4 => ?_
      refine AW.block ?_
      -- region 7
      refine AW.sg [2,5,6,7,8,28,29,30] [2,27,42] (e4 @lisR_len @htl @hlen @hgx) ?_
      refine AW.seq fun K5 hK5 => ?_
      -- region 8
      refine AW.so 0 (fun ii => if ii = 2 then some (.reads false (.bool (extB n (belL n t) x))) else none) [2,5,6,7,8,28,29,30,38] [2,27,42] (e3 @lisR_len @htl @hlen) ?_
      repeat with_reducible refine cj ?_ ?_
      all_goals try first | (exact hix) | omega | exact ent (by kernel_rfl)
      -- cond 3
      refine AW.cn ?_ ?_
      · intro hb
        -- region 9
        refine AW.sg [4] [] (e3 @lisR_len @htl @hlen) ?_
        -- ret 2
        rw [← hQl1, ← hQr]
        refine AW.rt (e3 @lisR_len @htl @hlen) ?_
        have hf : ls.all (extB n (belL n t)) = false := by
          refine Bool.eq_false_iff.2 fun e => ?_
          have := List.all_eq_true.1 e x hxm
          rw [this] at hb; cases hb
        exact Wk.of_eq (by rw [hrB2, hf]; rfl)
      · intro hb
        have hex : extB n (belL n t) x = true := by simpa using hb
        obtain ⟨hE, _⟩ := (extB_bf hp).1 hex
        have hxl := hE.len
        refine AW.skip ?_
        refine hK5 _ _ _ ?_; clear hK5
        -- region 10
        refine AW.sg [2,5,6,7,8,28,29,30] [2,27,42] (e5 @lisR_len @htl @hlen @hPl @hPg) ?_
        -- region 11
        refine AW.sg [2,5,6,7,28,29,30,44,45,46] [2,27,42] (e3 @lisR_len @htl @hlen) ?_
        refine AW.block ?_
        -- loop 2
        refine AW.loopE (fun mm ee ss kk => ∃ (m g2 v2 g v gc vc : Nat), n - m = mm ∧ ee = [(2, .ptr ⟨2, g2, none⟩ 0 0), (5, .int .i64 n), (6, .sl ⟨27, g, none⟩ 0 ls.length none), (7, .int .i64 (k : Nat)), (28, .rsl 1 (lisR ls)), (29, .int .i64 ls.length), (30, .int .i64 (k : Nat)), (44, .rsl 1 (ints x)), (45, .int .i64 n), (46, .int .i64 (m : Nat))] ∧ ss = [(2, some ⟨g2, v2, 1, [[.rsl 2 (tabR t)]]⟩), (27, some ⟨g, v, 1, (plT n ls k).set k [.sl ⟨42, gc, none⟩ 0 n none]⟩), (42, some ⟨gc, vc, 1, ints (plZ n x m)⟩)] ∧ (m ≤ n)) ?_ ?_
        -- init 2
        · refine ⟨_, 0, ?_, ?_, ?_, ?_, ?_, ?_, rfl, ?henv, ?hstore, ?hst⟩
          case henv =>
            repeat' (first | rfl | refine env_cons ?_ ?_ | refine st_cons ?_ ?_ ?_ ?_ | refine int_eq ?_ | refine bool_eq ?_ | refine rsl_eq ?_ | refine osl_eq ?_ | refine sl_eq ?_ ?_ ?_ | refine ptr_eq ?_ ?_ ?_ | refine agg_eq ?_ | refine es_cons ?_ ?_ | refine row_cons ?_ ?_)
            all_goals (first | omega | rfl | (rw [hxl]) | (simp [hxl]))
          case hstore =>
            repeat' (first | rfl | refine env_cons ?_ ?_ | refine st_cons ?_ ?_ ?_ ?_ | refine int_eq ?_ | refine bool_eq ?_ | refine rsl_eq ?_ | refine osl_eq ?_ | refine sl_eq ?_ ?_ ?_ | refine ptr_eq ?_ ?_ ?_ | refine agg_eq ?_ | refine es_cons ?_ ?_ | refine row_cons ?_ ?_)
            all_goals (first | (rw [show plZ n x 0 = List.replicate n 0 from rfl, ← hz]; done) | skip)
            all_goals trace_state
          case hst =>
            first | trivial | omega | (simp; done) | (simp; omega)
        rintro mm ee ss kk ⟨m, g2, v2, g, v, gc, vc, rfl, rfl, rfl, hI⟩
        generalize hQl2 : thenQ _ _ = Ql2
        -- region 12
        refine AW.sg [2,5,6,7,28,29,30,44,45,46,47] [2,27,42] (e3 @lisR_len @htl @hlen) ?_
        refine AW.seq fun K6 hK6 => ?_
        -- cond 4
        refine AW.cn ?_ ?_
        · intro hb
          have hgm := ints_getD (l := x) (i := m) (by omega)
          have hrg := hE.rng m (by omega)
          have hcl : ((plT n ls k).set k [AV.sl ⟨42, gc, none⟩ 0 n none]).getD k [] = [AV.sl ⟨42, gc, none⟩ 0 n none] := Go.AM.getD_set_eq (by omega) _ _
          have hsl : ((plT n ls k).set k [AV.sl ⟨42, gc, none⟩ 0 n none]).length = ls.length := by rw [List.length_set]; exact hPl
          have hzl := ints_len (plZ n x m)
          rw [plZ_len] at hzl
          have hzs : (ints (plZ n x m)).set (x.getD m 0).toNat [.int .i64 (m : Nat)] = ints (plZ n x (m + 1)) := by simp [ints, plZ, List.map_set]
          refine AW.skip ?_
          refine hK6 _ _ _ ?_; clear hK6
          refine AW.seq fun K7 hK7 => ?_
          refine AW.block ?_
          -- region 13
          refine AW.sg [2,5,6,7,9,10,28,29,30,44,45,46] [2,27,42] (e4 @lisR_len @htl @hlen @hgm) ?_
          -- region 14
          refine AW.rg [2,5,6,7,28,29,30,44,45,46] [2,27,42] (e3 @lisR_len @htl (e5 @hlen @hcl @hsl @hzl @hzs)) ?_
          refine hK7 _ _ _ ?_; clear hK7
          -- region 15
          refine AW.rg [2,5,6,7,28,29,30,44,45,46] [2,27,42] (e3 @lisR_len @htl @hlen) ?_
          -- again 2
          rw [← hQl2]; change Exists _
          exact ⟨_, eO, m + 1, _, _, _, _, _, _, rfl, eD, eD, eT⟩
        · intro hb
          obtain rfl : m = n := by omega
          have hcl : ((plT m ls k).set k [AV.sl ⟨42, gc, none⟩ 0 m none]).getD k [] = [AV.sl ⟨42, gc, none⟩ 0 m none] := Go.AM.getD_set_eq (by omega) _ _
          have hsl : ((plT m ls k).set k [AV.sl ⟨42, gc, none⟩ 0 m none]).length = ls.length := by rw [List.length_set]; exact hPl
          have hss : ∀ a, ((plT m ls k).set k [AV.sl ⟨42, gc, none⟩ 0 m none]).set k a = (plT m ls k).set k a := fun a => List.set_set ..
          have htk : (ints (plZ m x m)).take m = ints (plZ m x m) := List.take_of_length_le (by rw [ints_len, plZ_len]; omega)
          refine AW.frzCellK [42] 5 27 k 0 ?_
          simp only [go_sem, reduceIte, Nat.reduceEqDiff, Nat.reduceLT, hcl, hsl, hss, htk]
          refine ⟨rfl, by omega, ?_⟩
          -- exit 2
          refine AW.kx [2,5,6,28,29,30] [2,27,42] ?_
          rw [← hQl2]
          refine hK4 _ _ _ ?_; clear hK4
          -- region 16
          refine AW.rg [2,5,6,28,29,30] [2,27] (e3 @lisR_len @htl @hlen) ?_
          -- again 1
          rw [← hQl1]; change Exists _
          refine ⟨_, ?hm, k + 1, ?_, ?_, ?_, ?_, rfl, ?henv, ?hstore, ?hst⟩
          case henv =>
            repeat' (first | rfl | refine env_cons ?_ ?_ | refine st_cons ?_ ?_ ?_ ?_ | refine int_eq ?_ | refine bool_eq ?_ | refine rsl_eq ?_ | refine osl_eq ?_ | refine sl_eq ?_ ?_ ?_ | refine ptr_eq ?_ ?_ ?_ | refine agg_eq ?_ | refine es_cons ?_ ?_ | refine row_cons ?_ ?_)
            all_goals (first | (simp; done) | omega | (simp; omega))
          case hstore =>
            repeat' (first | rfl | refine env_cons ?_ ?_ | refine st_cons ?_ ?_ ?_ ?_ | refine int_eq ?_ | refine bool_eq ?_ | refine rsl_eq ?_ | refine osl_eq ?_ | refine sl_eq ?_ ?_ ?_ | refine ptr_eq ?_ ?_ ?_ | refine agg_eq ?_ | refine es_cons ?_ ?_ | refine row_cons ?_ ?_)
            all_goals (first | (rw [← hPs]; done) | skip)
            all_goals trace_state
          case hst =>
            exact ⟨by omega, by rw [hats, hall, hex]; rfl⟩
          case hm => omega
    · intro hb
      have hkl : k = ls.length := by omega
      rw [hkl, List.take_of_length_le (Nat.le_refl _)] at hall
      have hrB3 : rlzB n t ls = (List.range n).all fun i => (List.range n).all fun j => prZ n t ls i j := by rw [hrB2, hall]; rfl
      have hpT : plT n ls k = lisR (ls.map fun l => plZ n l n) := by
        unfold plT; rw [hkl, List.take_of_length_le (Nat.le_refl _)]; simp
      rw [hpT]
      have htl2 : (lisR (ls.map fun l => plZ n l n)).take ls.length = lisR (ls.map fun l => plZ n l n) := List.take_of_length_le (by rw [lisR_len, hml]; omega)
      have hpz : ∀ i j, prZ n t ls i j = ((!(ls.map fun l => plZ n l n).any (geZ i j)) == atT t i j) := fun _ _ => rfl
      generalize hA : (ls.map fun l => plZ n l n) = A at *
      refine AW.freezeK [27] [6] [2, 5] [2] ?_
      simp only [go_sem, reduceIte, Nat.reduceEqDiff, htl2, vwc_lisR]
      -- exit 0
      refine AW.kx [2,5,6] [2,27,42] ?_
      rw [← hQl1]
      refine hK2 _ _ _ ?_; clear hK2
      refine AW.seq fun K8 hK8 => ?_
      -- region 17
      refine AW.sg [2,5,6,60,61] [2] (e3 @lisR_len @htl @hlen) ?_
      refine AW.block ?_
      -- loop 3
      refine AW.loopE (fun mm ee ss kk => ∃ (i g2 v2 : Nat), n - i = mm ∧ ee = [(2, .ptr ⟨2, g2, none⟩ 0 0), (5, .int .i64 n), (6, .rsl 1 (lisR A)), (60, .int .i64 n), (61, .int .i64 (i : Nat))] ∧ ss = [(2, some ⟨g2, v2, 1, [[.rsl 2 (tabR t)]]⟩)] ∧ (i ≤ n ∧ ((List.range i).all fun i => (List.range n).all fun j => prZ n t ls i j) = true)) ?_ ?_
      -- init 3
      · exact ⟨_, 0, _, _, rfl, eD, eD, (⟨Nat.zero_le _, rfl⟩)⟩
      rintro mm ee ss kk ⟨i, g2, v2, rfl, rfl, rfl, hI⟩
      generalize hQl3 : thenQ _ _ = Ql3
      obtain ⟨hi, hal⟩ := hI
      -- region 18
      refine AW.sg [2,5,6,60,61,62] [2] (e3 @lisR_len @htl @hlen) ?_
      refine AW.seq fun K9 hK9 => ?_
      -- cond 5
      refine AW.cn ?_ ?_
      · intro hb
        have hin : i < n := by omega
        have hasu := all_succ (fun i => (List.range n).all fun j => prZ n t ls i j) i
        rw [hal, Bool.true_and] at hasu
        refine AW.skip ?_
        refine hK9 _ _ _ ?_; clear hK9
        refine AW.seq fun K10 hK10 => ?_
        refine AW.block ?_
        -- region 19
        refine AW.sg [2,5,6,11,60,61] [2,11] (e3 @lisR_len @htl @hlen) ?_
        -- region 20
        refine AW.sg [2,5,6,11,60,61,64,65] [2,11] (e3 @lisR_len @htl @hlen) ?_
        refine AW.block ?_
        -- loop 4
        refine AW.loopE (fun mm ee ss kk => ∃ (j g2 v2 g11 v11 : Nat), n - j = mm ∧ ee = [(2, .ptr ⟨2, g2, none⟩ 0 0), (5, .int .i64 n), (6, .rsl 1 (lisR A)), (11, .ptr ⟨11, g11, none⟩ 0 0), (60, .int .i64 n), (61, .int .i64 (i : Nat)), (64, .int .i64 n), (65, .int .i64 (j : Nat))] ∧ ss = [(2, some ⟨g2, v2, 1, [[.rsl 2 (tabR t)]]⟩), (11, some ⟨g11, v11, 1, [[.int .i64 (i : Nat)]]⟩)] ∧ (j ≤ n ∧ ((List.range j).all fun j => prZ n t ls i j) = true)) ?_ ?_
        -- init 4
        · exact ⟨_, 0, _, _, _, _, rfl, eD, eD, (⟨Nat.zero_le _, rfl⟩)⟩
        rintro mm ee ss kk ⟨j, g2, v2, g11, v11, rfl, rfl, rfl, hI⟩
        generalize hQl4 : thenQ _ _ = Ql4
        obtain ⟨hj, hal2⟩ := hI
        -- region 21
        refine AW.sg [2,5,6,11,60,61,64,65,66] [2,11] (e3 @lisR_len @htl @hlen) ?_
        refine AW.seq fun K11 hK11 => ?_
        -- cond 6
        refine AW.cn ?_ ?_
        · intro hb
          have hjn : j < n := by omega
          have hjsu := all_succ (fun j => prZ n t ls i j) j
          rw [hal2, Bool.true_and] at hjsu
          have hc := hct i j hin hjn
          have hpij := hpz i j
          have hgi := tabR_get (t := t) (i := i) (by omega)
          have hri := hs.rowLen hin
          have hhb := rowN_r (rowT t i) (by omega) j (by omega)
          have hat : atT t i j = (rowT t i).getD j false := rfl
          rw [← hat] at hhb
          unfold rowB at hhb
          refine AW.skip ?_
          refine hK11 _ _ _ ?_; clear hK11
          refine AW.seq fun K12 hK12 => ?_
          refine AW.block ?_
          -- region 22
          refine AW.sg [2,5,6,11,12,60,61,64,65] [2,11,12] (e3 @lisR_len @htl @hlen) ?_
          -- region 23
          refine AW.so 0 (fun ii => if ii = 2 then some (.reads true (.bool (A.any (geZ i j)))) else none) [2,5,6,11,12,13,60,61,64,65] [2,11,12] (e3 @lisR_len @htl @hlen) ?_
          repeat with_reducible refine cj ?_ ?_
          all_goals try first | (exact hc) | omega | exact ent (by kernel_rfl)
          -- region 24
          refine AW.sd mixed 0 (fun ii => if ii = 7 then some (.reads false (.bool (atT t i j))) else none) [2,5,6,11,60,61,64,65,80] [2,11,12] (e2 @lisR_len (e5 @htl @hlen @hgi @rowB.eq_1 @hri)) ?_
          repeat with_reducible refine cj ?_ ?_
          all_goals try first | ((rw [hri] at hhb; exact hhb)) | omega | exact chk (by kernel_rfl) | exact ent (by kernel_rfl)
          -- cond 7
          refine AW.cn ?_ ?_
          · intro hb
            -- region 25
            refine AW.sg [4] [2] (e3 @lisR_len @htl @hlen) ?_
            -- ret 3
            rw [← hQl4, ← hQl3, ← hQr]
            refine AW.rt (e3 @lisR_len @htl @hlen) ?_
            have hf : prZ n t ls i j = false := by rw [hpij]; revert hb; cases A.any (geZ i j) <;> cases atT t i j <;> simp
            have h1 : ((List.range n).all fun j => prZ n t ls i j) = false := all_cut hjn hf
            exact Wk.of_eq (by rw [hrB3, all_cut hin h1])
          · intro hb
            refine AW.skip ?_
            refine hK12 _ _ _ ?_; clear hK12
            -- region 26
            refine AW.rg [2,5,6,11,60,61,64,65] [2,11] (e3 @lisR_len @htl @hlen) ?_
            -- again 4
            rw [← hQl4]; change Exists _
            exact ⟨_, eO, j + 1, _, _, _, _, rfl, eD, eD, (⟨by omega, by rw [hjsu, hpij]; revert hb; cases A.any (geZ i j) <;> cases atT t i j <;> simp⟩)⟩
        · intro hb
          have hjn : j = n := by omega
          rw [hjn] at hal2
          -- exit 6
          refine AW.kx [2,5,6,60,61] [2,11] ?_
          rw [← hQl4]
          refine hK10 _ _ _ ?_; clear hK10
          -- region 27
          refine AW.rg [2,5,6,60,61] [2] (e3 @lisR_len @htl @hlen) ?_
          -- again 3
          rw [← hQl3]; change Exists _
          exact ⟨_, eO, i + 1, _, _, rfl, eD, eD, (⟨by omega, by rw [hasu, hal2]⟩)⟩
      · intro hb
        have hin : i = n := by omega
        rw [hin] at hal
        -- exit 4
        refine AW.kx [] [2] ?_
        rw [← hQl3]
        refine hK8 _ _ _ ?_; clear hK8
        -- region 28
        refine AW.sg [4] [2] (e3 @lisR_len @htl @hlen) ?_
        -- ret 4
        rw [← hQr]
        refine AW.rt (e3 @lisR_len @htl @hlen) ?_
        exact Wk.of_eq (by rw [hrB3, hal])
end Go.Proofs.D

namespace Go.Proofs.D
open Go.AM Go
set_option maxRecDepth 100000
set_option maxHeartbeats 4000000
end Go.Proofs.D

namespace Go.Proofs.D
open Go.AM Go
set_option maxRecDepth 100000
set_option maxHeartbeats 4000000
end Go.Proofs.D

/- Critical pairs: the reference's test is the program's; and they decide what a realizer is. -/
namespace Go.AM
/-- The order of a relation's nodes has what is related in the order. -/
def natL (l : List Nat) : List Int := l.map fun (i : Nat) => (i : Int)
theorem natL_get {l : List Nat} {k : Nat} (hk : k < l.length) : (natL l).getD k 0 = ((l[k] : Nat) : Int) := by
  simp [natL, List.getD_eq_getElem?_getD, hk]
theorem natL_each {n : Nat} {l : List Nat} (hl : l.length = n) (hnd : l.Nodup) (hr : ∀ i ∈ l, i < n) : IsEach n (natL l) := by
  have hlen : (natL l).length = n := by simp [natL, hl]
  refine ⟨hlen, fun m hm => ?_, fun m hm => ?_⟩
  · rw [natL_get (by omega)]
    have := hr _ (List.getElem_mem (show m < l.length by omega))
    omega
  · have hrg : ∀ m, m < n → 0 ≤ (natL l).getD m 0 ∧ (natL l).getD m 0 < (n : Int) := fun m hm => by
      rw [natL_get (by omega)]
      have := hr _ (List.getElem_mem (show m < l.length by omega))
      omega
    have h1 := hrg m hm
    cases e : (dAt n (natL l) m).getD ((natL l).getD m 0).toNat false with
    | false => rfl
    | true =>
      obtain ⟨k, hk, he⟩ := (dAt_mem hrg hlen (i := ((natL l).getD m 0).toNat) (by omega) m (by omega)).1 e
      rw [natL_get (by omega), natL_get (by omega)] at he
      have h2 : l[k] = l[m] := by omega
      have := (List.getElem_inj hnd).1 h2
      omega
theorem natL_ref {n : Nat} {l : List Nat} (hl : l.length = n) (hnd : l.Nodup) (hr : ∀ i ∈ l, i < n) {k i : Nat} (h : l[k]? = some i) : refA (natL l) (i : Nat) n = (k : Int) := by
  obtain ⟨hk, he⟩ := List.getElem?_eq_some_iff.1 h
  have hE := natL_each hl hnd hr
  have := refA_at hE (k := k) (i := (i : Int)) (by rw [natL_get hk, he]) n (Nat.le_refl _) (by omega)
  exact this
end Go.AM

namespace Go.Proofs.D
open Go.AM Go
set_option maxRecDepth 100000
set_option maxHeartbeats 4000000
theorem rset_r (b : List Bool) (hl : b.length ≤ 100000) : Reads Tryd.prog 60 true [.rsl 1 (bools b)] (.agg [.int .i64 b.length, .rsl 1 (words (setW b b.length))]) := by
  have hwn := wordsN_rng (n := (b.length : Int)) (by omega)
  have hwe : ((b.length : Int) + 63).tdiv 64 = wordsN b.length := by unfold wordsN; congr 1; omega
  refine Reads.bodyF (rs := [.cell 2 69]) Tryd.func60 rfl Tryd.ntmps60 rfl (by simp) ?_
  generalize hQr : retQ _ _ _ = Qr
  -- block 1
  -- region 0
  refine AW.sg [0,2] [2] trivial ?_
  -- region 1
  refine AW.sg [0,2,3] [2,3,11] (@hwe) ?_
  refine AW.seq fun K1 hK1 => ?_
  -- region 2
  refine AW.sg [0,2,3,4] [2,3,11] trivial ?_
  refine AW.block ?_
  -- loop 1
  refine AW.loopE (fun mm ee ss kk => ∃ (j g v gw vw g2 v2 : Nat) (c2 : List AV), b.length - j = mm ∧ ee = [(0, .rsl 1 (bools b)), (2, .ptr ⟨2, g2, none⟩ 0 0), (3, .ptr ⟨3, g, none⟩ 0 0), (4, .int .i64 (j : Nat))] ∧ ss = [(2, some ⟨g2, v2, 2, [[.int .i64 0, .nilsl]]⟩), (3, some ⟨g, v, 2, [[.int .i64 b.length, .sl ⟨11, gw, none⟩ 0 (wordsN b.length).toNat none]]⟩), (11, some ⟨gw, vw, 1, words (setW b j)⟩)] ∧ (j ≤ b.length)) ?_ ?_
  -- init 1
  · refine ⟨_, 0, ?_, ?_, ?_, ?_, ?_, ?_, [], rfl, ?henv, ?hstore, ?hst⟩
    case henv =>
      repeat' (first | rfl | refine env_cons ?_ ?_ | refine st_cons ?_ ?_ ?_ ?_ | refine int_eq ?_ | refine bool_eq ?_ | refine rsl_eq ?_ | refine osl_eq ?_ | refine sl_eq ?_ ?_ ?_ | refine ptr_eq ?_ ?_ ?_ | refine agg_eq ?_ | refine es_cons ?_ ?_ | refine row_cons ?_ ?_)
      all_goals (first | (simp; done) | omega | (simp; omega))
    case hstore =>
      repeat' (first | rfl | refine env_cons ?_ ?_ | refine st_cons ?_ ?_ ?_ ?_ | refine int_eq ?_ | refine bool_eq ?_ | refine rsl_eq ?_ | refine osl_eq ?_ | refine sl_eq ?_ ?_ ?_ | refine ptr_eq ?_ ?_ ?_ | refine agg_eq ?_ | refine es_cons ?_ ?_ | refine row_cons ?_ ?_)
      all_goals simp [setW, words]
    case hst =>
      first | trivial | omega | (simp; done) | (simp; omega)
  rintro mm ee ss kk ⟨j, g, v, gw, vw, g2, v2, c2, rfl, rfl, rfl, hI⟩
  generalize hQl1 : thenQ _ _ = Ql1
  refine AW.seq fun K2 hK2 => ?_
  -- region 3
  refine AW.sg [0,2,3,4,16] [2,3,11] trivial ?_
  -- cond 1
  refine AW.cn ?_ ?_
  · intro hb
    have hgb := bools_getD (l := b) (i := j) (by omega)
    have hwl := setW_len b j
    have hd := div64_rng (i := (j : Int)) (n := b.length) (by omega) (by omega)
    have hgw := words_getD (l := setW b j) (i := ((j : Int).tdiv 64).toNat) (by omega)
    have hsu := setW_succ b j
    refine AW.skip ?_
    refine hK2 _ _ _ ?_; clear hK2
    refine AW.seq fun K3 hK3 => ?_
    refine AW.block ?_
    -- region 5
    refine AW.sg [0,2,3,4,22] [2,3,11] (@hgb) ?_
    -- cond 2
    refine AW.cn ?_ ?_
    · intro hb
      rw [if_pos hb] at hsu
      -- region 6
      refine AW.rd mixed 0 (fun _ => none) [0,2,3,4] [2,3,11] (e2 @hgw @hwl) ?_
      refine hK3 _ _ _ ?_; clear hK3
      -- region 4
      refine AW.rg [0,2,3,4] [2,3,11] trivial ?_
      -- again 1
      rw [← hQl1]; change Exists _
      refine ⟨_, ?hm, j + 1, ?_, ?_, ?_, ?_, ?_, ?_, [], rfl, ?henv, ?hstore, ?hst⟩
      case henv =>
        repeat' (first | rfl | refine env_cons ?_ ?_ | refine st_cons ?_ ?_ ?_ ?_ | refine int_eq ?_ | refine bool_eq ?_ | refine rsl_eq ?_ | refine osl_eq ?_ | refine sl_eq ?_ ?_ ?_ | refine ptr_eq ?_ ?_ ?_ | refine agg_eq ?_ | refine es_cons ?_ ?_ | refine row_cons ?_ ?_)
        all_goals (first | (simp; done) | omega | (simp; omega))
      case hstore =>
        repeat' (first | rfl | refine env_cons ?_ ?_ | refine st_cons ?_ ?_ ?_ ?_ | refine int_eq ?_ | refine bool_eq ?_ | refine rsl_eq ?_ | refine osl_eq ?_ | refine sl_eq ?_ ?_ ?_ | refine ptr_eq ?_ ?_ ?_ | refine agg_eq ?_ | refine es_cons ?_ ?_ | refine row_cons ?_ ?_)
        all_goals (rw [hsu]; try simp [setBit])
      case hst =>
        first | trivial | omega | (simp; done) | (simp; omega)
      case hm => omega
    · intro hb
      rw [if_neg (by rw [hb]; simp)] at hsu
      refine AW.skip ?_
      refine hK3 _ _ _ ?_; clear hK3
      -- region 4
      refine AW.rg [0,2,3,4] [2,3,11] trivial ?_
      -- again 1
      rw [← hQl1]; change Exists _
      refine ⟨_, ?hm, j + 1, ?_, ?_, ?_, ?_, ?_, ?_, [], rfl, ?henv, ?hstore, ?hst⟩
      case henv =>
        repeat' (first | rfl | refine env_cons ?_ ?_ | refine st_cons ?_ ?_ ?_ ?_ | refine int_eq ?_ | refine bool_eq ?_ | refine rsl_eq ?_ | refine osl_eq ?_ | refine sl_eq ?_ ?_ ?_ | refine ptr_eq ?_ ?_ ?_ | refine agg_eq ?_ | refine es_cons ?_ ?_ | refine row_cons ?_ ?_)
        all_goals (first | (simp; done) | omega | (simp; omega))
      case hstore =>
        repeat' (first | rfl | refine env_cons ?_ ?_ | refine st_cons ?_ ?_ ?_ ?_ | refine int_eq ?_ | refine bool_eq ?_ | refine rsl_eq ?_ | refine osl_eq ?_ | refine sl_eq ?_ ?_ ?_ | refine ptr_eq ?_ ?_ ?_ | refine agg_eq ?_ | refine es_cons ?_ ?_ | refine row_cons ?_ ?_)
        all_goals (rw [hsu]; try simp [setBit])
      case hst =>
        first | trivial | omega | (simp; done) | (simp; omega)
      case hm => omega
  · intro hb
    -- exit 0
    refine AW.kx [2,3] [2,3,11] ?_
    rw [← hQl1]
    refine hK1 _ _ _ ?_; clear hK1
    -- region 7
    refine AW.sg [2] [2,11] trivial ?_
    -- ret 1
    rw [← hQr]
    refine AW.rt trivial ?_
    have hj : j = b.length := by omega
    subst hj
    rw [List.take_of_length_le (by rw [setW_len]; exact Nat.le_refl _)]
    exact Wk.refl _
theorem rmake_r (n : Nat) (t : List (List Bool)) (hs : Sq n t) (hn : n ≤ 512) : Reads Tryd.prog 30 false [.rsl 1 (rowsR t)] (relB t) := by
  have hlen := hs.len
  have hrl := rowsR_len t
  unfold relB
  refine Reads.body (rs := [.cell 2 24]) Tryd.func30 rfl Tryd.ntmps30 rfl (by simp) ?_
  generalize hQr : retQ _ _ _ = Qr
  -- block 2
  -- region 0
  refine AW.sg [0,2] [2] (e2 @hrl @hlen) ?_
  -- region 1
  refine AW.sg [0,2,3] [2,3] (e2 @hrl @hlen) ?_
  refine AW.seq fun K1 hK1 => ?_
  -- region 2
  refine AW.sg [0,2,3,4] [2,3] (e2 @hrl @hlen) ?_
  refine AW.block ?_
  refine AW.nilCellK 3 0 0 200 2 ?_
  simp only [go_sem, reduceIte, Nat.reduceEqDiff]
  repeat refine cj ?_ ?_
  all_goals first | decide | skip
  refine AW.keep [0, 2, 3, 4] [2, 3, 200] ?_
  simp only [go_sem, reduceIte, Nat.reduceEqDiff]
  -- loop 1
  refine AW.loopE (fun mm ee ss kk => ∃ (i g2 v2 g4 v4 g v : Nat), n - i = mm ∧ ee = [(0, .rsl 1 (rowsR t)), (2, .ptr ⟨2, g2, none⟩ 0 0), (3, .ptr ⟨3, g4, none⟩ 0 0), (4, .int .i64 (i : Nat))] ∧ ss = [(2, some ⟨g2, v2, 1, [[.nilsl]]⟩), (3, some ⟨g4, v4, 1, [[.sl ⟨200, g, none⟩ 0 i none]]⟩), (200, some ⟨g, v, 2, tabR (t.take i)⟩)] ∧ (i ≤ n)) ?_ ?_
  -- init 1
  · exact ⟨_, 0, _, _, _, _, _, _, rfl, eD, eD, eT⟩
  rintro mm ee ss kk ⟨i, g2, v2, g4, v4, g, v, rfl, rfl, rfl, hI⟩
  generalize hQl1 : thenQ _ _ = Ql1
  refine AW.seq fun K2 hK2 => ?_
  -- region 3
  refine AW.sg [0,2,3,4,8] [2,3,200] (e2 @hrl @hlen) ?_
  -- cond 1
  refine AW.cn ?_ ?_
  · intro hb
    have hgr := rowsR_get (t := t) (i := i) (by omega)
    have hrw := hs.rowLen (i := i) (by omega)
    have hti : t.take (i + 1) = t.take i ++ [rowT t i] := by obtain ⟨h1, h2⟩ := List.getElem?_eq_some_iff.1 (rowT_get (t := t) (i := i) (by omega)); rw [List.take_succ_eq_append_getElem h1, h2]
    have htl : (t.take i).length = i := by simp; omega
    have htk : (tabR (t.take i)).take i = tabR (t.take i) := List.take_of_length_le (by rw [tabR_len]; omega)
    generalize hb' : rowT t i = b at *
    have hset := rset_r b (by omega)
    rw [hrw] at hset
    have hap : tabR (t.take i) ++ [[.int .i64 n, .rsl 1 (words (setW b n))]] = tabR (t.take i ++ [b]) := by simp [tabR, rowB, hrw]
    refine AW.skip ?_
    refine hK2 _ _ _ ?_; clear hK2
    refine AW.seq fun K3 hK3 => ?_
    refine AW.block ?_
    -- region 5
    refine AW.rd mixed 0 (fun ii => if ii = 6 then some (.upd [] (fun _ => []) (fun _ => .agg [.int .i64 n, .rsl 1 (words (setW b n))])) else none) [0,2,3,4] [2,3,200] (e3 @hrl @hlen (e5 @hgr @htk @tabR_len @htl @hap)) ?_
    repeat with_reducible refine cj ?_ ?_
    all_goals try first | (exact hset.upd rfl) | omega | exact chk (by kernel_rfl) | exact ent (by kernel_rfl) | (simp [scP, scalar]; done) | exact scP_words _ | exact scP_ints _ | exact scP_bools _
    refine hK3 _ _ _ ?_; clear hK3
    -- region 4
    refine AW.rg [0,2,3,4] [2,3,200] (e2 @hrl @hlen) ?_
    -- again 1
    rw [← hQl1]; change Exists _
    refine ⟨_, ?hm, i + 1, ?_, ?_, ?_, ?_, ?_, ?_, rfl, ?henv, ?hstore, ?hst⟩
    case henv =>
      repeat' (first | rfl | refine env_cons ?_ ?_ | refine st_cons ?_ ?_ ?_ ?_ | refine int_eq ?_ | refine bool_eq ?_ | refine rsl_eq ?_ | refine osl_eq ?_ | refine sl_eq ?_ ?_ ?_ | refine ptr_eq ?_ ?_ ?_ | refine agg_eq ?_ | refine es_cons ?_ ?_ | refine row_cons ?_ ?_)
      all_goals (first | (simp; done) | omega | (simp; omega))
    case hstore =>
      repeat' (first | rfl | refine env_cons ?_ ?_ | refine st_cons ?_ ?_ ?_ ?_ | refine int_eq ?_ | refine bool_eq ?_ | refine rsl_eq ?_ | refine osl_eq ?_ | refine sl_eq ?_ ?_ ?_ | refine ptr_eq ?_ ?_ ?_ | refine agg_eq ?_ | refine es_cons ?_ ?_ | refine row_cons ?_ ?_)
      all_goals (rw [hti])
    case hst =>
      first | trivial | omega | (simp; done) | (simp; omega)
    case hm => omega
  · intro hb
    -- exit 0
    refine AW.exit ?_
    rw [← hQl1]
    refine hK1 _ _ _ ?_; clear hK1
    -- region 6
    refine AW.sg [2] [2,200] (e2 @hrl @hlen) ?_
    -- ret 1
    rw [← hQr]
    refine AW.rt (e2 @hrl @hlen) ?_
    have hi : i = n := by omega
    subst hi
    rw [List.take_of_length_le (by omega : t.length ≤ i)]
    refine Wk.of_eq ?_
    rw [List.take_of_length_le (by rw [tabR_len]; omega), vwc_tabR]
def stdF (n i k : Nat) : Bool := decide (i < n) && decide (n ≤ k) && !decide (k = n + i)
def stdT (n : Nat) : List (List Bool) := tabF (2 * n) (stdF n)
theorem stdT_sq (n : Nat) : Sq (2 * n) (stdT n) := tabF_sq _ _
theorem same_g (n : Nat) (t : List (List Bool)) (hs : Sq n t) (hn : n ≤ 512) : Reads Tryd.prog 27 false [relB t, relB t] (.bool true) := by
  have hlt := tabR_len t
  have hlen := hs.len
  unfold relB
  refine Reads.body (rs := [.tmp 4]) Tryd.func27 rfl Tryd.ntmps27 rfl (by simp) ?_
  generalize hQr : retQ _ _ _ = Qr
  -- block 3
  -- region 0
  refine AW.sg [2,3] [2,3] (e2 @hlt @hlen) ?_
  refine AW.seq fun K1 hK1 => ?_
  -- region 1
  refine AW.sg [2,3,12] [2,3] (e2 @hlt @hlen) ?_
  -- cond 1
  refine AW.cn ?_ ?_
  · intro hb
    exfalso; simp at hb
  · intro hb
    refine AW.skip ?_
    refine hK1 _ _ _ ?_; clear hK1
    refine AW.seq fun K2 hK2 => ?_
    -- region 3
    refine AW.sg [2,3,5] [2,3] (e2 @hlt @hlen) ?_
    refine AW.block ?_
    -- loop 1
    refine AW.loopE (fun mm ee ss kk => ∃ (i g2 v2 g3 v3 : Nat), n - i = mm ∧ ee = [(2, .ptr ⟨2, g2, none⟩ 0 0), (3, .ptr ⟨3, g3, none⟩ 0 0), (5, .int .i64 (i : Nat))] ∧ ss = [(2, some ⟨g2, v2, 1, [[.rsl 2 (tabR t)]]⟩), (3, some ⟨g3, v3, 1, [[.rsl 2 (tabR t)]]⟩)] ∧ (i ≤ n)) ?_ ?_
    -- init 1
    · exact ⟨_, 0, _, _, _, _, rfl, eD, eD, eT⟩
    rintro mm ee ss kk ⟨i, g2, v2, g3, v3, rfl, rfl, rfl, hI⟩
    generalize hQl1 : thenQ _ _ = Ql1
    refine AW.seq fun K3 hK3 => ?_
    -- region 4
    refine AW.sg [2,3,5,17] [2,3] (e2 @hlt @hlen) ?_
    -- cond 2
    refine AW.cn ?_ ?_
    · intro hb
      have hgi := tabR_get (t := t) (i := i) (by omega)
      have hri := hs.rowLen (i := i) (by omega)
      have hss := rsame_r n (setW (rowT t i) n) (by have := setB_len (b := rowT t i) (by omega); rw [hri] at this; omega)
      refine AW.skip ?_
      refine hK3 _ _ _ ?_; clear hK3
      refine AW.seq fun K4 hK4 => ?_
      refine AW.block ?_
      -- region 6
      refine AW.sd mixed 0 (fun ii => if ii = 10 then some (.reads false (.bool true)) else none) [2,3,5,31] [2,3] (e5 @hlt @hlen @hgi @rowB.eq_1 @hri) ?_
      repeat with_reducible refine cj ?_ ?_
      all_goals try first | (exact hss) | omega | exact chk (by kernel_rfl) | exact ent (by kernel_rfl)
      -- cond 3
      refine AW.cn ?_ ?_
      · intro hb
        exfalso; simp at hb
      · intro hb
        refine AW.skip ?_
        refine hK4 _ _ _ ?_; clear hK4
        -- region 5
        refine AW.rg [2,3,5] [2,3] (e2 @hlt @hlen) ?_
        -- again 1
        rw [← hQl1]; change Exists _
        exact ⟨_, eO, i + 1, _, _, _, _, rfl, eD, eD, eT⟩
    · intro hb
      -- exit 0
      refine AW.kx [] [] ?_
      rw [← hQl1]
      refine hK2 _ _ _ ?_; clear hK2
      -- region 8
      refine AW.sg [4] [] (e2 @hlt @hlen) ?_
      -- ret 3
      rw [← hQr]
      refine AW.rt (e2 @hlt @hlen) ?_
      exact Wk.refl _
/-- The reference's table of the standard example, while it is filled: rows up to i, in the row i up to the number k. -/
def stG (n i k a b : Nat) : Bool := if a < i ∨ (a = i ∧ b < n + k) then stdF n a b else false
def stP (n i k : Nat) : List (List Bool) := tabF (2 * n) (stG n i k)
theorem stP_sq (n i k : Nat) : Sq (2 * n) (stP n i k) := tabF_sq _ _
theorem stP_zero (n : Nat) : stP n 0 0 = List.replicate (2 * n) (List.replicate (2 * n) false) := by
  refine tab_ext (stP_sq n 0 0) (Sq.rep _) fun i j hi hj => ?_
  rw [atT_rep, stP, atT_tabF hi hj]
  unfold stG stdF
  by_cases h : i = 0
  · subst h
    by_cases h2 : j < n
    · rw [if_pos (by omega), decide_eq_false (by omega : ¬ n ≤ j)]; simp
    · rw [if_neg (by omega)]
  · rw [if_neg (by omega)]
theorem stP_next (n i : Nat) (hi : i < n) : stP n i n = stP n (i + 1) 0 := by
  refine tab_ext (stP_sq _ _ _) (stP_sq _ _ _) fun a b ha hb => ?_
  rw [stP, stP, atT_tabF ha hb, atT_tabF ha hb]
  unfold stG
  by_cases h : a < i + 1
  · rw [if_pos (by omega), if_pos (by omega)]
  · by_cases h2 : a = i + 1 ∧ b < n + 0
    · rw [if_neg (by omega), if_pos (by omega)]
      unfold stdF
      rw [decide_eq_false (by omega : ¬ n ≤ b)]; simp
    · rw [if_neg (by omega), if_neg (by omega)]
theorem stP_all (n : Nat) : stP n n 0 = stdT n := by
  refine tab_ext (stP_sq _ _ _) (stdT_sq n) fun a b ha hb => ?_
  rw [stP, stdT, atT_tabF ha hb, atT_tabF ha hb]
  unfold stG
  by_cases h : a < n
  · rw [if_pos (by omega)]
  · unfold stdF
    rw [decide_eq_false h]; simp
theorem stP_step (n i k : Nat) (hi : i < n) (hk : k < n) : (stP n i k).set i ((rowT (stP n i k) i).set (n + k) (!decide (i = k))) = stP n i (k + 1) := by
  have h1 := (stP_sq n i k).rowLen (i := i) (by omega)
  refine tab_ext ((stP_sq n i k).set i (by simpa using h1)) (stP_sq _ _ _) fun a b ha hb => ?_
  have hl := (stP_sq n i k).len
  unfold atT
  rw [rowT_set]
  by_cases e : i = a
  · subst e
    rw [if_pos ⟨rfl, by omega⟩]
    by_cases e2 : n + k = b
    · subst e2
      rw [Go.AM.getD_set_eq (by omega)]
      show _ = atT (stP n i (k + 1)) i (n + k)
      rw [stP, atT_tabF ha hb]
      unfold stG stdF
      rw [if_pos (by omega), decide_eq_true hi, decide_eq_true (by omega : n ≤ n + k)]
      simp only [Bool.true_and]
      congr 1
      exact decide_eq_decide.2 (by omega)
    · rw [Go.AM.getD_set_ne e2]
      show atT (stP n i k) i b = atT (stP n i (k + 1)) i b
      rw [stP, stP, atT_tabF ha hb, atT_tabF ha hb]
      unfold stG
      by_cases h : b < n + k
      · rw [if_pos (by omega), if_pos (by omega)]
      · rw [if_neg (by omega), if_neg (by omega)]
  · rw [if_neg (fun h => e h.1)]
    show atT (stP n i k) a b = atT (stP n i (k + 1)) a b
    rw [stP, stP, atT_tabF ha hb, atT_tabF ha hb]
    unfold stG
    by_cases h : a < i
    · rw [if_pos (by omega), if_pos (by omega)]
    · rw [if_neg (by omega), if_neg (by omega)]
end Go.Proofs.D

namespace Go.Proofs.D
open Go.AM Go
set_option maxRecDepth 100000
set_option maxHeartbeats 4000000
theorem bset (b : List Bool) (i : Nat) (x : Bool) : (bools b).set i [.bool x] = bools (b.set i x) := bools_set b i x
/-- Rows that are made so far; the others are empty. -/
def mkRows (N k : Nat) : List (List Bool) := List.replicate k (List.replicate N false) ++ List.replicate (N - k) []
theorem mkRows_len {N k : Nat} (hk : k ≤ N) : (mkRows N k).length = N := by simp [mkRows]; omega
theorem mkRows_set {N k : Nat} (hk : k < N) : (mkRows N k).set k (List.replicate N false) = mkRows N (k + 1) := by
  unfold mkRows
  obtain ⟨j, hj⟩ : ∃ j, N - k = j + 1 := ⟨N - k - 1, by omega⟩
  rw [hj, show N - (k + 1) = j by omega, List.replicate_succ, List.replicate_succ', List.set_append_right _ _ (by simp)]
  simp
theorem rstd_r (n : Nat) (hn : n ≤ 256) : Reads Tryd.prog 28 false [.int .i64 n] (relB (stdT n)) := by
  have hmk := rmake_r (2 * n) (stdT n) (stdT_sq n) (by omega)
  have hz : List.replicate (2 * n) [AV.bool false] = bools (List.replicate (2 * n) false) := by simp [bools]
  have h2n : ((2 : Int) * (n : Int)).toNat = 2 * n := by omega
  unfold relB at *
  refine Reads.body (rs := [.cell 2 24]) Tryd.func28 rfl Tryd.ntmps28 rfl (by simp) ?_
  generalize hQr : retQ _ _ _ = Qr
  -- block 1
  -- region 0
  refine AW.sg [0,2] [2,9] (@h2n) ?_
  -- region 1
  refine AW.sg [0,2,3] [2,9] (@h2n) ?_
  refine AW.nils_own (pid := 9) 1 (rowsO (mkRows (2 * n) 0)) (by simp only [go_sem, reduceIte, Nat.reduceEqDiff]; rfl) (show (1 : Nat) ≠ mapSz by decide) (by simp [rowsO, mkRows]) ?_ ?_
  · intro i hi
    simp only [List.length_replicate] at hi
    have h1 : (List.replicate (2 * n) [AV.nilsl]).getD i [] = [.nilsl] := by simp [List.getD_eq_getElem?_getD, hi]
    rw [h1, rowsO_get (by rw [mkRows_len (by omega)]; exact hi)]
    refine ⟨rfl, fun j => ?_⟩
    cases j with
    | zero => exact .inr ⟨rfl, by simp [rowT, mkRows, List.getD_eq_getElem?_getD, hi, bools]⟩
    | succ j => exact .inl rfl
  refine AW.keep [0, 2, 3] [2, 9] ?_
  simp only [go_sem, reduceIte, Nat.reduceEqDiff]
  refine AW.seq fun K1 hK1 => ?_
  -- region 2
  refine AW.sg [0,2,3,4] [2,9] (@h2n) ?_
  refine AW.block ?_
  -- loop 1
  refine AW.loopE (fun mm ee ss kk => ∃ (k g2 v2 g v : Nat), 2 * n - k = mm ∧ ee = [(0, .int .i64 n), (2, .ptr ⟨2, g2, none⟩ 0 0), (3, .sl ⟨9, g, none⟩ 0 (2 * n) none), (4, .int .i64 (k : Nat))] ∧ ss = [(2, some ⟨g2, v2, 1, [[.nilsl]]⟩), (9, some ⟨g, v, 1, rowsO (mkRows (2 * n) k)⟩)] ∧ (k ≤ 2 * n)) ?_ ?_
  -- init 1
  · exact ⟨_, 0, _, _, _, _, rfl, eD, eD, eT⟩
  rintro mm ee ss kk ⟨k, g2, v2, g, v, rfl, rfl, rfl, hI⟩
  generalize hQl1 : thenQ _ _ = Ql1
  refine AW.seq fun K2 hK2 => ?_
  -- region 3
  refine AW.sg [0,2,3,4,13] [2,9] (@h2n) ?_
  -- cond 1
  refine AW.cn ?_ ?_
  · intro hb
    have hml := mkRows_len (N := 2 * n) (k := k) (by omega)
    have hms := mkRows_set (N := 2 * n) (k := k) (by omega)
    have hrl := rowsO_len (mkRows (2 * n) k)
    rw [hml] at hrl
    have hrg := rowsO_get (t := mkRows (2 * n) k) (i := k) (by rw [hml]; omega)
    have hro := rowsO_set (mkRows (2 * n) k) k (List.replicate (2 * n) false)
    rw [hms] at hro
    have hcl : ∀ a : List AV, ((rowsO (mkRows (2 * n) k)).set k a).getD k [] = a := fun a => Go.AM.getD_set_eq (by omega) _ _
    have hsl : ∀ a : List AV, ((rowsO (mkRows (2 * n) k)).set k a).length = 2 * n := fun a => by rw [List.length_set]; exact hrl
    have hss : ∀ a b : List AV, ((rowsO (mkRows (2 * n) k)).set k a).set k b = (rowsO (mkRows (2 * n) k)).set k b := fun a b => List.set_set ..
    refine AW.skip ?_
    refine hK2 _ _ _ ?_; clear hK2
    refine AW.seq fun K3 hK3 => ?_
    refine AW.block ?_
    -- region 5
    refine AW.rg [0,2,3,4] [2,9,20] (e3 @h2n @hrl @hrg) ?_
    refine hK3 _ _ _ ?_; clear hK3
    refine AW.adoptK 9 k 0 20 ?_
    simp only [go_sem, reduceIte, Nat.reduceEqDiff, hcl, hsl, hss, hz, hro]
    refine ⟨noOsl_bools _, ?_⟩
    refine AW.keep [0, 2, 3, 4] [2, 9] ?_
    simp only [go_sem, reduceIte, Nat.reduceEqDiff]
    -- region 4
    refine AW.rg [0,2,3,4] [2,9] (@h2n) ?_
    -- again 1
    rw [← hQl1]; change Exists _
    exact ⟨_, eO, k + 1, _, _, _, _, rfl, eD, eD, eT⟩
  · intro hb
    have hk : k = 2 * n := by omega
    have hp0 : mkRows (2 * n) (2 * n) = stP n 0 0 := by rw [stP_zero]; simp [mkRows]
    rw [hk, hp0]
    -- exit 0
    refine AW.exit ?_
    rw [← hQl1]
    refine hK1 _ _ _ ?_; clear hK1
    refine AW.seq fun K4 hK4 => ?_
    -- region 6
    refine AW.sg [0,2,3,5] [2,9] (@h2n) ?_
    refine AW.block ?_
    -- loop 2
    refine AW.loopE (fun mm ee ss kk => ∃ (i g2 v2 g v : Nat), n - i = mm ∧ ee = [(0, .int .i64 n), (2, .ptr ⟨2, g2, none⟩ 0 0), (3, .sl ⟨9, g, none⟩ 0 (2 * n) none), (5, .int .i64 (i : Nat))] ∧ ss = [(2, some ⟨g2, v2, 1, [[.nilsl]]⟩), (9, some ⟨g, v, 1, rowsO (stP n i 0)⟩)] ∧ (i ≤ n)) ?_ ?_
    -- init 2
    · exact ⟨_, 0, _, _, _, _, rfl, eD, eD, eT⟩
    rintro mm ee ss kk ⟨i, g2, v2, g, v, rfl, rfl, rfl, hI⟩
    generalize hQl2 : thenQ _ _ = Ql2
    refine AW.seq fun K5 hK5 => ?_
    -- region 7
    refine AW.sg [0,2,3,5,24] [2,9] (@h2n) ?_
    -- cond 2
    refine AW.cn ?_ ?_
    · intro hb
      refine AW.skip ?_
      refine hK5 _ _ _ ?_; clear hK5
      refine AW.seq fun K6 hK6 => ?_
      refine AW.block ?_
      -- region 9
      refine AW.sg [0,2,3,5,6] [2,9] (@h2n) ?_
      refine AW.block ?_
      -- loop 3
      refine AW.loopE (fun mm ee ss kk => ∃ (k g2 v2 g v : Nat), n - k = mm ∧ ee = [(0, .int .i64 n), (2, .ptr ⟨2, g2, none⟩ 0 0), (3, .sl ⟨9, g, none⟩ 0 (2 * n) none), (5, .int .i64 (i : Nat)), (6, .int .i64 (k : Nat))] ∧ ss = [(2, some ⟨g2, v2, 1, [[.nilsl]]⟩), (9, some ⟨g, v, 1, rowsO (stP n i k)⟩)] ∧ (k ≤ n)) ?_ ?_
      -- init 3
      · exact ⟨_, 0, _, _, _, _, rfl, eD, eD, eT⟩
      rintro mm ee ss kk ⟨k, g2, v2, g, v, rfl, rfl, rfl, hI⟩
      generalize hQl3 : thenQ _ _ = Ql3
      refine AW.seq fun K7 hK7 => ?_
      -- region 10
      refine AW.sg [0,2,3,5,6,29] [2,9] (@h2n) ?_
      -- cond 3
      refine AW.cn ?_ ?_
      · intro hb
        have hin : i < n := by omega
        have hsq := stP_sq n i k
        have hrl := rowsO_len (stP n i k)
        rw [hsq.len] at hrl
        have hrg := rowsO_get (t := stP n i k) (i := i) (by rw [hsq.len]; omega)
        have hbl := bools_len (rowT (stP n i k) i)
        rw [hsq.rowLen (by omega)] at hbl
        have hst := stP_step n i k hin (by omega)
        have hro := rowsO_set (stP n i k) i ((rowT (stP n i k) i).set (n + k) (!decide (i = k)))
        rw [hst] at hro
        have hnk : ((n : Int) + (k : Int)).toNat = n + k := by omega
        have hij : decide ((i : Int) = (k : Int)) = decide (i = k) := decide_eq_decide.2 (by omega)
        refine AW.skip ?_
        refine hK7 _ _ _ ?_; clear hK7
        refine AW.seq fun K8 hK8 => ?_
        refine AW.block ?_
        -- region 12
        refine AW.rg [0,2,3,5,6] [2,9] (e4 @h2n @hrl @hrg (e5 @hbl @hnk @hij @bset @hro)) ?_
        refine hK8 _ _ _ ?_; clear hK8
        -- region 11
        refine AW.rg [0,2,3,5,6] [2,9] (@h2n) ?_
        -- again 3
        rw [← hQl3]; change Exists _
        exact ⟨_, eO, k + 1, _, _, _, _, rfl, eD, eD, eT⟩
      · intro hb
        have hk : k = n := by omega
        rw [hk]
        -- exit 4
        refine AW.exit ?_
        rw [← hQl3]
        refine hK6 _ _ _ ?_; clear hK6
        -- region 8
        refine AW.rg [0,2,3,5] [2,9] (@h2n) ?_
        -- again 2
        rw [← hQl2]; change Exists _
        refine ⟨_, ?hm, i + 1, ?_, ?_, ?_, ?_, rfl, ?henv, ?hstore, ?hst⟩
        case henv =>
          repeat' (first | rfl | refine env_cons ?_ ?_ | refine st_cons ?_ ?_ ?_ ?_ | refine int_eq ?_ | refine bool_eq ?_ | refine rsl_eq ?_ | refine osl_eq ?_ | refine sl_eq ?_ ?_ ?_ | refine ptr_eq ?_ ?_ ?_ | refine agg_eq ?_ | refine es_cons ?_ ?_ | refine row_cons ?_ ?_)
          all_goals (first | (simp; done) | omega | (simp; omega))
        case hstore =>
          repeat' (first | rfl | refine env_cons ?_ ?_ | refine st_cons ?_ ?_ ?_ ?_ | refine int_eq ?_ | refine bool_eq ?_ | refine rsl_eq ?_ | refine osl_eq ?_ | refine sl_eq ?_ ?_ ?_ | refine ptr_eq ?_ ?_ ?_ | refine agg_eq ?_ | refine es_cons ?_ ?_ | refine row_cons ?_ ?_)
          all_goals (rw [stP_next n i (by omega)])
        case hst =>
          first | trivial | omega | (simp; done) | (simp; omega)
        case hm => omega
    · intro hb
      have hi : i = n := by omega
      rw [hi, stP_all]
      have htk : (rowsO (stdT n)).take (2 * n) = rowsO (stdT n) := List.take_of_length_le (by rw [rowsO_len, (stdT_sq n).len]; omega)
      refine AW.freezeK [9] [3] [2] [2] ?_
      simp only [go_sem, reduceIte, Nat.reduceEqDiff, htk, vwc_rowsO]
      -- exit 2
      refine AW.exit ?_
      rw [← hQl2]
      refine hK4 _ _ _ ?_; clear hK4
      -- region 13
      refine AW.so 0 (fun ii => if ii = 1 then some (.reads false (.agg [.rsl 2 (tabR (stdT n))])) else none) [2] [2] (@h2n) ?_
      repeat with_reducible refine cj ?_ ?_
      all_goals try first | (exact hmk) | omega | exact ent (by kernel_rfl)
      -- ret 1
      rw [← hQr]
      refine AW.rt (@h2n) ?_
      exact Wk.of_eq rfl
end Go.Proofs.D

namespace Go.Proofs.D
open Go.AM Go
set_option maxRecDepth 100000
set_option maxHeartbeats 4000000
theorem std_e (n : Int) (hn : n < 1 ∨ 256 < n) : Reads Tryd.prog 26 false [.int .i64 n] (.tup [.agg [.rsl 2 []], .int .i64 2]) := by
  refine Reads.body (rs := [.cell 2 24, .tmp 3]) Tryd.func26 rfl Tryd.ntmps26 rfl (by simp) ?_
  generalize hQr : retQ _ _ _ = Qr
  -- block 1
  -- region 0
  refine AW.sg [0,2] [2] trivial ?_
  refine AW.seq fun K1 hK1 => ?_
  -- region 1
  refine AW.sg [0,2,15] [2] trivial ?_
  repeat with_reducible refine cj ?_ ?_
  all_goals try first | omega | (intros; (repeat' apply And.intro) <;> first | assumption | omega | decide) | (intro hgd; exact absurd hgd (by decide)) | rfl | exact gD | (intro _hgd; simp_all [go_sem]; done)
  -- cond 1
  refine AW.cn ?_ ?_
  · intro hb
    -- region 2
    refine AW.sg [2,3] [2] trivial ?_
    -- ret 1
    rw [← hQr]
    refine AW.rt trivial ?_
    exact Wk.tup2 (Wk.agg1 (Wk.nil 2)) (Wk.of_eq rfl)
  · intro hb
    exfalso; omega
/-- The numbers of a row of the standard example, up to j. -/
def slN (n i j : Nat) : List Nat := ((List.range j).filter fun k => decide (i < n) && !decide (k = i)).map (n + ·)
theorem slN_succ (n i j : Nat) : slN n i (j + 1) = slN n i j ++ if (decide (i < n) && !decide (j = i)) = true then [n + j] else [] := by
  unfold slN
  rw [List.range_succ, List.filter_append, List.map_append]
  simp only [List.filter_cons, List.filter_nil]
  split <;> rfl
theorem slN_le (n i j : Nat) : (slN n i j).length ≤ j := by
  unfold slN; rw [List.length_map]
  have := List.length_filter_le (fun k => decide (i < n) && !decide (k = i)) (List.range j)
  simpa using this
theorem slN_row (n i : Nat) (hi : i < 2 * n) : setR (2 * n) (fun k => decide (k ∈ slN n i n)) = rowT (stdT n) i := by
  rw [stdT, rowT_tabF hi]
  refine setR_ext fun k hk => ?_
  rw [Bool.eq_iff_iff, decide_eq_true_eq]
  unfold slN stdF
  simp only [List.mem_map, List.mem_filter, List.mem_range, Bool.and_eq_true, decide_eq_true_eq, Bool.not_eq_true', decide_eq_false_iff_not]
  constructor
  · rintro ⟨a, ⟨h1, h2, h3⟩, rfl⟩
    exact ⟨⟨h2, by omega⟩, by omega⟩
  · rintro ⟨⟨h1, h2⟩, h3⟩
    exact ⟨k - n, ⟨by omega, h1, by omega⟩, by omega⟩
theorem std_r (n : Nat) (h1 : 1 ≤ n) (hn : n ≤ 256) : Reads Tryd.prog 26 false [.int .i64 n] (.tup [relB (stdT n), .int .i64 0]) := by
  have hof := fun (l : List Int) hl hr => of_r (2 * (n : Int)) l (by omega) (by omega) hl hr
  have hsq := stdT_sq n
  have hTl : (stdT n).length = 2 * n := hsq.len
  have h2n : ((2 : Int) * (n : Int)) = ((2 * n : Nat) : Int) := by omega
  unfold relB
  refine Reads.body (rs := [.cell 2 24, .tmp 3]) Tryd.func26 rfl Tryd.ntmps26 rfl (by simp) ?_
  generalize hQr : retQ _ _ _ = Qr
  -- block 2
  -- region 0
  refine AW.sg [0,2] [2] trivial ?_
  refine AW.seq fun K1 hK1 => ?_
  refine AW.seq fun K2 hK2 => ?_
  -- region 1
  refine AW.regionK 0 (fun _ => none) [0, 2, 15] [2] ?_
  simp only [go_sem, reduceIte, reduceCtorEq, Nat.reduceAdd, Nat.reduceMul, Nat.reduceEqDiff, Nat.reduceLT, Nat.reduceLeDiff, Nat.reduceSub, Nat.reducePow, Nat.reduceBEq, Int.reduceToNat, List.reduceReplicate]
  repeat with_reducible refine cj ?_ ?_
  all_goals try first | omega | (intros; (repeat' apply And.intro) <;> first | assumption | omega | decide) | (intro hgd; exact absurd hgd (by decide)) | rfl | (simp only [go_sem, reduceIte, reduceCtorEq, Nat.reduceAdd, Nat.reduceMul, Nat.reduceEqDiff, Nat.reduceLT, Nat.reduceLeDiff, Nat.reduceSub, Nat.reducePow, Nat.reduceBEq, Int.reduceToNat, List.reduceReplicate]; done) | (intro _hgd; simp_all [go_sem]; done)
  refine hK2 _ _ _ ?_; clear hK2
  -- cond 1
  refine AW.cn ?_ ?_
  · intro hb
    exfalso; omega
  · intro hb
    refine AW.skip ?_
    refine hK1 _ _ _ ?_; clear hK1
    -- region 3
    refine AW.sg [0,2,4] [2,4] trivial ?_
    refine AW.seq fun K3 hK3 => ?_
    -- region 4
    refine AW.sg [0,2,4,18,19] [2,4] trivial ?_
    refine AW.block ?_
    refine AW.nilCellK 4 0 0 201 2 ?_
    simp only [go_sem, reduceIte, Nat.reduceEqDiff]
    repeat refine cj ?_ ?_
    all_goals first | decide | skip
    refine AW.keep [0, 2, 4, 18, 19] [2, 4, 201] ?_
    simp only [go_sem, reduceIte, Nat.reduceEqDiff]
    -- loop 1
    refine AW.loopE (fun mm ee ss kk => ∃ (i g2 v2 g4 v4 g v : Nat), 2 * n - i = mm ∧ ee = [(0, .int .i64 n), (2, .ptr ⟨2, g2, none⟩ 0 0), (4, .ptr ⟨4, g4, none⟩ 0 0), (18, .int .i64 (2 * (n : Int))), (19, .int .i64 (i : Nat))] ∧ ss = [(2, some ⟨g2, v2, 1, [[.nilsl]]⟩), (4, some ⟨g4, v4, 1, [[.sl ⟨201, g, none⟩ 0 i none]]⟩), (201, some ⟨g, v, 2, tabR ((stdT n).take i)⟩)] ∧ (i ≤ 2 * n)) ?_ ?_
    -- init 1
    · exact ⟨_, 0, _, _, _, _, _, _, rfl, eD, eD, eT⟩
    rintro mm ee ss kk ⟨i, g2, v2, g4, v4, g, v, rfl, rfl, rfl, hI⟩
    generalize hQl1 : thenQ _ _ = Ql1
    -- region 5
    refine AW.sg [0,2,4,18,19,20] [2,4,201] trivial ?_
    refine AW.seq fun K4 hK4 => ?_
    -- cond 2
    refine AW.cn ?_ ?_
    · intro hb
      have hin : i < 2 * n := by omega
      have hTi := slN_row n i hin
      have htT : (stdT n).take (i + 1) = (stdT n).take i ++ [rowT (stdT n) i] := take_succT (by omega)
      rw [← hTi] at htT
      generalize hTT : (stdT n).take i = T at *
      have hTlen : T.length = i := by rw [← hTT]; simp; omega
      refine AW.skip ?_
      refine hK4 _ _ _ ?_; clear hK4
      refine AW.seq fun K5 hK5 => ?_
      refine AW.block ?_
      -- region 6
      refine AW.sg [0,2,4,5,18,19] [2,4,201] trivial ?_
      -- region 7
      refine AW.sg [0,2,4,5,6,18,19] [2,4,201] trivial ?_
      refine AW.nilOwn 6 202 1 rfl ?_
      refine AW.keep [0, 2, 4, 5, 6, 18, 19] [2, 4, 201, 202] ?_
      simp only [go_sem, reduceIte, Nat.reduceEqDiff]
      refine AW.seq fun K6 hK6 => ?_
      -- region 8
      refine AW.sg [0,2,4,5,6,18,19,22,23] [2,4,201,202] trivial ?_
      refine AW.block ?_
      -- loop 2
      refine AW.loopE (fun mm ee ss kk => ∃ (j g2 v2 g4 v4 g v gs vs : Nat), n - j = mm ∧ ee = [(0, .int .i64 n), (2, .ptr ⟨2, g2, none⟩ 0 0), (4, .ptr ⟨4, g4, none⟩ 0 0), (5, .int .i64 (i : Nat)), (6, .sl ⟨202, gs, none⟩ 0 (slN n i j).length none), (18, .int .i64 (2 * (n : Int))), (19, .int .i64 (i : Nat)), (22, .int .i64 n), (23, .int .i64 (j : Nat))] ∧ ss = [(2, some ⟨g2, v2, 1, [[.nilsl]]⟩), (4, some ⟨g4, v4, 1, [[.sl ⟨201, g, none⟩ 0 i none]]⟩), (201, some ⟨g, v, 2, tabR T⟩), (202, some ⟨gs, vs, 1, ints ((slN n i j).map fun k : Nat => (k : Int))⟩)] ∧ (j ≤ n)) ?_ ?_
      -- init 2
      · exact ⟨_, 0, _, _, _, _, _, _, _, _, rfl, eD, eD, eT⟩
      rintro mm ee ss kk ⟨j, g2, v2, g4, v4, g, v, gs, vs, rfl, rfl, rfl, hI⟩
      generalize hQl2 : thenQ _ _ = Ql2
      have hfl := slN_le n i j
      -- region 9
      refine AW.sg [0,2,4,5,6,18,19,22,23,24] [2,4,201,202] trivial ?_
      refine AW.seq fun K7 hK7 => ?_
      -- cond 3
      refine AW.cn ?_ ?_
      · intro hb
        have hjn : j < n := by omega
        have hrs := slN_succ n i j
        have hij : decide ((j : Int) = (i : Int)) = decide (j = i) := decide_eq_decide.2 (by omega)
        have hin3 : decide ((i : Int) < (n : Int)) = decide (i < n) := decide_eq_decide.2 (by omega)
        have hft : (ints ((slN n i j).map fun k : Nat => (k : Int))).take (slN n i j).length = ints ((slN n i j).map fun k : Nat => (k : Int)) := List.take_of_length_le (by rw [ints_len, List.length_map]; omega)
        have hnj : (n : Int) + (j : Int) = ((n + j : Nat) : Int) := by omega
        generalize hB : (decide (i < n) && !decide (j = i)) = B at *
        refine AW.skip ?_
        refine hK7 _ _ _ ?_; clear hK7
        refine AW.seq fun K8 hK8 => ?_
        refine AW.block ?_
        -- region 10
        refine AW.sg [0,2,4,5,6,7,18,19,22,23] [2,4,201,202] trivial ?_
        refine AW.seq fun K9 hK9 => ?_
        -- region 11
        refine AW.regionK 0 (fun _ => none) [0, 2, 4, 5, 6, 7, 18, 19, 22, 23, 33] [2, 4, 201, 202] ?_
        simp only [go_sem, reduceIte, reduceCtorEq, Nat.reduceAdd, Nat.reduceMul, Nat.reduceEqDiff, Nat.reduceLT, Nat.reduceLeDiff, Nat.reduceSub, Nat.reducePow, Nat.reduceBEq, Int.reduceToNat, List.reduceReplicate, hij, hin3, hB]
        repeat with_reducible refine cj ?_ ?_
        all_goals try first | omega | (intros; (repeat' apply And.intro) <;> first | assumption | omega | decide) | (intro hgd; exact absurd hgd (by decide)) | rfl | (simp only [go_sem, reduceIte, reduceCtorEq, Nat.reduceAdd, Nat.reduceMul, Nat.reduceEqDiff, Nat.reduceLT, Nat.reduceLeDiff, Nat.reduceSub, Nat.reducePow, Nat.reduceBEq, Int.reduceToNat, List.reduceReplicate, hij, hin3, hB]; done) | (intro _hgd; simp_all [go_sem]; done)
        refine hK9 _ _ _ ?_; clear hK9
        have hJ4 : ∀ (gj vj : Nat) (kk : Nat), K8 [(0, .int .i64 n), (2, .ptr ⟨2, g2, none⟩ 0 0), (4, .ptr ⟨4, g4, none⟩ 0 0), (5, .int .i64 (i : Nat)), (6, .sl ⟨202, gj, none⟩ 0 (slN n i (j + 1)).length none), (18, .int .i64 (2 * (n : Int))), (19, .int .i64 (i : Nat)), (22, .int .i64 n), (23, .int .i64 (j : Nat))] [(2, some ⟨g2, v2, 1, [[.nilsl]]⟩), (4, some ⟨g4, v4, 1, [[.sl ⟨201, g, none⟩ 0 i none]]⟩), (201, some ⟨g, v, 2, tabR T⟩), (202, some ⟨gj, vj, 1, ints ((slN n i (j + 1)).map fun k : Nat => (k : Int))⟩)] kk := by
          intro gj vj kk
          refine hK8 _ _ _ ?_; clear hK8
          -- region 13
          refine AW.rg [0,2,4,5,6,18,19,22,23] [2,4,201,202] trivial ?_
          -- again 2
          rw [← hQl2]; change Exists _
          exact ⟨_, eO, j + 1, _, _, _, _, _, _, _, _, rfl, eD, eD, eT⟩
        -- cond 4
        refine AW.cn ?_ ?_
        · intro hb
          rw [hb, if_pos rfl] at hrs
          simp only [hrs, List.length_append, List.length_cons, List.length_nil, Nat.zero_add, List.map_append, List.map_cons, List.map_nil] at hJ4
          -- region 12
          refine AW.regionK 0 (fun _ => none) [0, 2, 4, 5, 6, 18, 19, 22, 23] [2, 4, 201, 202] ?_
          simp only [go_sem, reduceIte, reduceCtorEq, Nat.reduceAdd, Nat.reduceMul, Nat.reduceEqDiff, Nat.reduceLT, Nat.reduceLeDiff, Nat.reduceSub, Nat.reducePow, Nat.reduceBEq, Int.reduceToNat, List.reduceReplicate, hft, hnj, ints_app]
          repeat with_reducible refine cj ?_ ?_
          all_goals try first | omega | (simp [scP, scalar]; done) | exact scP_words _ | exact scP_ints _ | exact scP_bools _
          exact hJ4 _ _ _
        · intro hb
          rw [hb, if_neg (by simp), List.append_nil] at hrs
          simp only [hrs] at hJ4
          refine AW.kp [0,2,4,5,6,18,19,22,23] [2,4,201,202] ?_
          refine AW.skip ?_
          exact hJ4 _ _ _
      · intro hb
        have hjn : j = n := by omega
        rw [hjn] at hfl ⊢
        have hft : (ints ((slN n i n).map fun k : Nat => (k : Int))).take (slN n i n).length = ints ((slN n i n).map fun k : Nat => (k : Int)) := List.take_of_length_le (by rw [ints_len, List.length_map]; omega)
        have hft2 : ((slN n i n).map fun k : Nat => (k : Int)).take (slN n i n).length = (slN n i n).map fun k : Nat => (k : Int) := List.take_of_length_le (by rw [List.length_map]; omega)
        have hin2 : ∀ y ∈ (slN n i n).map (fun k : Nat => (k : Int)), 0 ≤ y ∧ y < ((2 * n : Nat) : Int) := fun y hy => by
          obtain ⟨k, hk, rfl⟩ := List.mem_map.1 hy
          unfold slN at hk
          simp only [List.mem_map, List.mem_filter, List.mem_range] at hk
          omega
        have hofi := hof ((slN n i n).map fun k : Nat => (k : Int)) (by rw [List.length_map]; omega) (by rw [h2n]; exact hin2)
        rw [h2n, ofW_row hin2, rowL_nats] at hofi
        rw [← h2n] at hofi
        have hrl := setR_len (2 * n) (fun k => decide (k ∈ slN n i n))
        generalize hRR : setR (2 * n) (fun k => decide (k ∈ slN n i n)) = R at *
        have htr : (tabR T).take i = tabR T := List.take_of_length_le (by rw [tabR_len]; omega)
        have har : tabR T ++ [[.int .i64 (2 * (n : Int)), .rsl 1 (words (setW R (2 * n)))]] = tabR (T ++ [R]) := by rw [h2n]; simp [tabR, rowB, hrl]
        have htl2 := tabR_len T
        -- exit 2
        refine AW.kx [0,2,4,6,18,19] [2,4,201,202] ?_
        rw [← hQl2]
        refine hK6 _ _ _ ?_; clear hK6
        -- region 14
        refine AW.so 0 (fun ii => if ii = 3 then some (.reads true (.tup [.agg [.int .i64 (2 * (n : Int)), .rsl 1 (words (setW R (2 * n)))], .int .i64 0])) else none) [0,2,4,8,9,18,19] [2,4,8,201] (e2 @hft @hft2) ?_
        repeat with_reducible refine cj ?_ ?_
        all_goals try first | (exact hofi) | omega | exact ent (by kernel_rfl)
        refine AW.seq fun K10 hK10 => ?_
        -- region 15
        refine AW.sg [0,2,4,8,9,18,19,49] [2,4,8,201] trivial ?_
        -- cond 5
        refine AW.cn ?_ ?_
        · intro hb
          exfalso; simp at hb
        · intro hb
          refine AW.skip ?_
          refine hK10 _ _ _ ?_; clear hK10
          -- region 17
          refine AW.regionK 0 (fun _ => none) [0, 2, 4, 18, 19] [2, 4, 201] ?_
          simp only [go_sem, reduceIte, reduceCtorEq, Nat.reduceAdd, Nat.reduceMul, Nat.reduceEqDiff, Nat.reduceLT, Nat.reduceLeDiff, Nat.reduceSub, Nat.reducePow, Nat.reduceBEq, Int.reduceToNat, List.reduceReplicate, htr, har]
          repeat with_reducible refine cj ?_ ?_
          all_goals try first | omega | (simp [scP, scalar]; done) | exact scP_words _ | exact scP_ints _ | exact scP_bools _
          refine hK5 _ _ _ ?_; clear hK5
          -- region 18
          refine AW.rg [0,2,4,18,19] [2,4,201] trivial ?_
          -- again 1
          rw [← hQl1]; change Exists _
          refine ⟨_, ?hm, i + 1, ?_, ?_, ?_, ?_, ?_, ?_, rfl, ?henv, ?hstore, ?hst⟩
          case henv =>
            repeat' (first | rfl | refine env_cons ?_ ?_ | refine st_cons ?_ ?_ ?_ ?_ | refine int_eq ?_ | refine bool_eq ?_ | refine rsl_eq ?_ | refine osl_eq ?_ | refine sl_eq ?_ ?_ ?_ | refine ptr_eq ?_ ?_ ?_ | refine agg_eq ?_ | refine es_cons ?_ ?_ | refine row_cons ?_ ?_)
            all_goals (first | (simp; done) | omega | (simp; omega))
          case hstore =>
            repeat' (first | rfl | refine env_cons ?_ ?_ | refine st_cons ?_ ?_ ?_ ?_ | refine int_eq ?_ | refine bool_eq ?_ | refine rsl_eq ?_ | refine osl_eq ?_ | refine sl_eq ?_ ?_ ?_ | refine ptr_eq ?_ ?_ ?_ | refine agg_eq ?_ | refine es_cons ?_ ?_ | refine row_cons ?_ ?_)
            all_goals (rw [htT])
          case hst =>
            first | trivial | omega | (simp; done) | (simp; omega)
          case hm => omega
    · intro hb
      have hin : i = 2 * n := by omega
      rw [hin, List.take_of_length_le (by omega)]
      have htT : (tabR (stdT n)).take (2 * n) = tabR (stdT n) := List.take_of_length_le (by rw [tabR_len]; omega)
      -- exit 0
      refine AW.kx [2,4] [2,4,201] ?_
      rw [← hQl1]
      refine hK3 _ _ _ ?_; clear hK3
      -- region 19
      refine AW.sg [2,3] [2,201] trivial ?_
      -- ret 3
      rw [← hQr]
      refine AW.rt trivial ?_
      exact Wk.of_eq (by rw [htT, vwc_tabR])
end Go.Proofs.D

namespace Go.Proofs.D
open Go.AM Go
set_option maxRecDepth 100000
set_option maxHeartbeats 4000000
theorem eqpairs_r (a b : List (Int × Int)) (hla : a.length ≤ 9223372036854775807) : Reads Tryd.prog 16 false [.rsl 2 (a.map pairV), .rsl 2 (b.map pairV)] (.bool (decide (a = b))) := by
  refine Reads.body (rs := [.tmp 4]) Tryd.func16 rfl Tryd.ntmps16 rfl (by simp) ?_
  generalize hQr : retQ _ _ _ = Qr
  -- block 1
  -- region 0
  refine AW.sg [0,1] [] trivial ?_
  refine AW.seq fun K1 hK1 => ?_
  -- region 1
  refine AW.sg [0,1,10] [] trivial ?_
  -- cond 1
  refine AW.cn ?_ ?_
  · intro hb
    rw [← Ne, Ne, Int.natCast_inj] at hb
    -- region 2
    refine AW.sg [4] [] trivial ?_
    -- ret 1
    rw [← hQr]
    refine AW.rt trivial ?_
    exact Wk.of_eq (by rw [decide_eq_false]; rintro rfl; exact hb rfl)
  · intro hb
    have hlen : a.length = b.length := by omega
    refine AW.skip ?_
    refine hK1 _ _ _ ?_; clear hK1
    refine AW.seq fun K2 hK2 => ?_
    -- region 3
    refine AW.sg [0,1,12,13] [] trivial ?_
    refine AW.block ?_
    -- loop 1
    refine AW.loopE (fun mm ee ss kk => ∃ (j : Nat), a.length - j = mm ∧ ee = [(0, .rsl 2 (a.map pairV)), (1, .rsl 2 (b.map pairV)), (12, .int .i64 a.length), (13, .int .i64 (j : Nat))] ∧ ss = [] ∧ (j ≤ a.length ∧ a.take j = b.take j)) ?_ ?_
    -- init 1
    · exact ⟨_, 0, rfl, eD, eD, eT⟩
    rintro mm ee ss kk ⟨j, rfl, rfl, rfl, hI⟩
    generalize hQl1 : thenQ _ _ = Ql1
    obtain ⟨hj, hall⟩ := hI
    -- region 4
    refine AW.sg [0,1,12,13,14] [] trivial ?_
    refine AW.seq fun K3 hK3 => ?_
    -- cond 2
    refine AW.cn ?_ ?_
    · intro hb
      obtain ⟨x, hx⟩ := getI (l := a) (j := j) (by omega)
      obtain ⟨y, hy⟩ := getI (l := b) (j := j) (by omega)
      have hgx := getV (f := pairV) hx
      have hgy := getV (f := pairV) hy
      refine AW.skip ?_
      refine hK3 _ _ _ ?_; clear hK3
      refine AW.seq fun K4 hK4 => ?_
      refine AW.block ?_
      -- region 5
      refine AW.sg [0,1,5,12,13] [] trivial ?_
      -- region 6
      refine AW.sd mixed 0 (fun _ => none) [0,1,12,13,24] [] (e3 @hgx @hgy @pairV.eq_1) ?_
      -- cond 3
      refine AW.cn ?_ ?_
      · intro hb
        -- region 7
        refine AW.sg [4] [] trivial ?_
        -- ret 2
        rw [← hQl1, ← hQr]
        refine AW.rt trivial ?_
        have hne : x ≠ y := by rintro rfl; simp at hb
        exact Wk.of_eq (by rw [decide_eq_false (eqB_ne hx hy hne)])
      · intro hb
        have hxy : x = y := by obtain ⟨x1, x2⟩ := x; obtain ⟨y1, y2⟩ := y; simp at hb ⊢; omega
        subst hxy
        refine AW.skip ?_
        refine hK4 _ _ _ ?_; clear hK4
        -- region 8
        refine AW.rg [0,1,12,13] [] trivial ?_
        -- again 1
        rw [← hQl1]; change Exists _
        exact ⟨_, eO, j + 1, rfl, eD, eD, (⟨by omega, take_succ_eqA hx hy hall⟩)⟩
    · intro hb
      -- exit 0
      refine AW.kx [] [] ?_
      rw [← hQl1]
      refine hK2 _ _ _ ?_; clear hK2
      -- region 9
      refine AW.sg [4] [] trivial ?_
      -- ret 3
      rw [← hQr]
      refine AW.rt trivial ?_
      exact Wk.of_eq (by rw [List.take_of_length_le (by omega), List.take_of_length_le (by omega)] at hall; rw [decide_eq_true hall])
end Go.Proofs.D

namespace Go.Proofs.D
open Go.AM Go
set_option maxRecDepth 100000
set_option maxHeartbeats 4000000
def t2 : List (List Bool) := [[false, false], [false, false]]
theorem t2_std : stdT 1 = t2 := by decide +kernel
theorem t2_sq : Sq 2 t2 := ⟨rfl, by decide⟩
theorem t2_po : poB 2 t2 = true := by decide +kernel
theorem t2_crit : critT 2 t2 = [(0, 1), (1, 0)] := by decide +kernel
theorem t2_dim : (dealtT 2 t2).length = 2 := by decide +kernel
theorem t2_rlz : rlzB 2 t2 [[0, 1], [1, 0]] = true := by decide +kernel
theorem t2_not : rlzB 2 t2 [[0, 1]] = false := by decide +kernel
theorem t2_tab : tabR t2 = [[.int .i64 2, .rsl 1 [[.int .u64 0]]], [.int .i64 2, .rsl 1 [[.int .u64 0]]]] := by
  have h0 : setW [false, false] 2 = [0] := by decide +kernel
  simp [tabR, t2, rowB, h0, words]
theorem awake_r : Reads Tryd.prog 10 false [] (.bool true) := by
  have hs1 := std_r 1 (by decide) (by decide)
  have hs2 := rstd_r 1 (by decide)
  have hsm := same_g 2 t2 t2_sq (by decide)
  have hc := crit_g 2 t2 t2_sq (by decide) t2_po
  have hd := dim_g 2 t2 t2_sq (by decide) t2_po
  have he := Reads.flat (eqpairs_r [(0, 1), (1, 0)] [(0, 1), (1, 0)] (by decide)) rfl
  have hr1 := Reads.flat (realizes_g 2 t2 t2_sq (by decide) t2_po [[0, 1], [1, 0]] (by decide) (by decide)) rfl
  have hr2 := Reads.flat (realizes_g 2 t2 t2_sq (by decide) t2_po [[0, 1]] (by decide) (by decide)) rfl
  rw [t2_std] at hs1 hs2
  rw [t2_crit] at hc
  rw [t2_dim] at hd
  rw [t2_rlz] at hr1
  rw [t2_not] at hr2
  unfold relB at *
  rw [t2_tab] at *
  simp only [ints, lisR, prs, natP, pairV, List.map_cons, List.map_nil, decide_true] at *
  refine Reads.body (rs := [.tmp 0]) Tryd.func10 rfl Tryd.ntmps10 rfl (by simp) ?_
  generalize hQr : retQ _ _ _ = Qr
  -- block 1
  -- region 0
  refine AW.sg [] [] trivial ?_
  -- region 1
  refine AW.so 0 (fun ii => if ii = 0 then some (.reads false (.tup [.agg [.rsl 2 [[.int .i64 2, .rsl 1 [[.int .u64 0]]], [.int .i64 2, .rsl 1 [[.int .u64 0]]]]], .int .i64 0])) else none) [1,2] [1] trivial ?_
  repeat with_reducible refine cj ?_ ?_
  all_goals try first | (exact hs1) | omega | exact ent (by kernel_rfl)
  refine AW.seq fun K1 hK1 => ?_
  -- region 2
  refine AW.sd mixed 0 (fun ii => if ii = 4 then some (.reads false (.agg [.rsl 2 [[.int .i64 2, .rsl 1 [[.int .u64 0]]], [.int .i64 2, .rsl 1 [[.int .u64 0]]]]])) else if ii = 5 then some (.reads false (.bool true)) else none) [1,18] [1] trivial ?_
  repeat with_reducible refine cj ?_ ?_
  all_goals try first | (first | exact hs2 | exact hsm | (intro hh; exact ⟨hh, hs2⟩) | (intro hh; exact ⟨hh, hsm⟩) | exact fun _ => hs2 | exact fun _ => hsm) | (intros; (repeat' apply And.intro) <;> first | assumption | (first | exact hs2 | exact hsm | (intro hh; exact ⟨hh, hs2⟩) | (intro hh; exact ⟨hh, hsm⟩) | exact fun _ => hs2 | exact fun _ => hsm)) | omega | exact chk (by kernel_rfl) | exact ent (by kernel_rfl) | (intro hgd; exact absurd hgd (by decide)) | rfl | exact gD | (intro _hgd; simp_all [go_sem]; done)
  -- cond 1
  refine AW.cn ?_ ?_
  · intro hb
    simp at hb
  · intro hb
    refine AW.skip ?_
    refine hK1 _ _ _ ?_; clear hK1
    -- region 4
    refine AW.so 0 (fun ii => if ii = 1 then some (.reads false (.tup [.rsl 2 [[.int .i64 ((0 : Nat) : Int), .int .i64 ((1 : Nat) : Int)], [.int .i64 ((1 : Nat) : Int), .int .i64 ((0 : Nat) : Int)]], .int .i64 ((0 : Nat) : Int)])) else none) [1,3,4] [1] trivial ?_
    repeat with_reducible refine cj ?_ ?_
    all_goals try first | (exact hc) | omega | exact ent (by kernel_rfl)
    -- region 5
    refine AW.so 0 (fun ii => if ii = 1 then some (.reads false (.tup [.int .i64 ((2 : Nat) : Int), .int .i64 ((0 : Nat) : Int)])) else none) [1,3,4,5,6] [1] trivial ?_
    repeat with_reducible refine cj ?_ ?_
    all_goals try first | (exact hd) | omega | exact ent (by kernel_rfl)
    -- region 6
    refine AW.so 0 (fun ii => if ii = 7 then some (.reads true (.bool true)) else if ii = 22 then some (.reads true (.bool true)) else if ii = 28 then some (.reads true (.bool false)) else none) [0] [] trivial ?_
    repeat with_reducible refine cj ?_ ?_
    all_goals try first | (first | exact he | exact hr1 | exact hr2 | exact fun _ => he | exact fun _ => hr1 | exact fun _ => hr2) | (intros; (repeat' apply And.intro) <;> first | assumption | (first | exact he | exact hr1 | exact hr2 | exact fun _ => he | exact fun _ => hr1 | exact fun _ => hr2)) | omega | exact ent (by kernel_rfl) | (intro hgd; exact absurd hgd (by decide)) | rfl | exact gD | (intro _hgd; simp_all [go_sem]; done)
    -- ret 2
    rw [← hQr]
    refine AW.rt trivial ?_
    exact Wk.of_eq (by simp)
end Go.Proofs.D

namespace Go.Proofs.D
open Go.AM Go
set_option maxRecDepth 100000
set_option maxHeartbeats 4000000
end Go.Proofs.D

/- The reference's reversal: step by step the least element that is free. -/
namespace Go.AM
theorem OrdI.acyc {n : Nat} {u : List (List Bool)} (hs : Sq n u) {r : List Nat} (h : OrdI n u r) (hl : r.length = n) : AM.acyc n u = true := by
  have hE := natL_each hl h.nd h.rng
  refine acyc_iff.2 fun i hi => Bool.eq_false_iff.2 fun hw => ?_
  have := warsh_least hs (S := fun i j => bfA n i j (natL r) = true) (fun i j hi hj hij => ?_) (fun i k j _ _ _ h1 h2 => bfA_trans h1 h2) hi hi hw
  · rw [bfA_irr] at this; cases this
  · obtain ⟨k, hk, he⟩ := hE.has hj
    have hkl : k < r.length := by omega
    rw [natL_get hkl] at he
    have hjk : r[k]? = some j := by rw [List.getElem?_eq_getElem hkl]; congr 1; omega
    obtain ⟨p, hp1, hp2⟩ := h.top k j i hjk hi hij
    unfold bfA
    rw [natL_ref hl h.nd h.rng hjk, natL_ref hl h.nd h.rng hp2]
    exact decide_eq_true (by omega)
end Go.AM

namespace Go.Proofs.D
open Go.AM Go
set_option maxRecDepth 100000
set_option maxHeartbeats 4000000
end Go.Proofs.D

namespace Go.Proofs.D
open Go.AM Go
set_option maxRecDepth 100000
set_option maxHeartbeats 4000000
end Go.Proofs.D

namespace Go.Proofs.D
open Go.AM Go
set_option maxRecDepth 100000
set_option maxHeartbeats 4000000
end Go.Proofs.D

/- The reference's deal, with the classes that it leaves. -/
namespace Go.AM
/-- What is dealt are pairs in range, few in each class. -/
structure RqOk (n i : Nat) (cs : List (List (Nat × Nat))) : Prop where
  rng : ∀ k, ∀ x ∈ cs.getD k [], x.1 < n ∧ x.2 < n
  le : ∀ k, (cs.getD k []).length ≤ i
theorem RqOk.step {n i : Nat} {cs : List (List (Nat × Nat))} (h : RqOk n i cs) {x : Nat × Nat} (hx : x.1 < n ∧ x.2 < n) {c : Nat} (hc : c < cs.length) : RqOk n (i + 1) (cs.set c (cs.getD c [] ++ [x])) := by
  refine ⟨fun k y hy => ?_, fun k => ?_⟩
  · by_cases e : c = k
    · subst e
      rw [getD_set_eq hc] at hy
      rcases List.mem_append.1 hy with hy | hy
      · exact h.rng c y hy
      · rw [List.mem_singleton.1 hy]; exact hx
    · rw [getD_set_ne e] at hy; exact h.rng k y hy
  · by_cases e : c = k
    · subst e
      rw [getD_set_eq hc]
      have := h.le c
      simp only [List.length_append, List.length_singleton]; omega
    · rw [getD_set_ne e]; have := h.le k; omega
theorem RqOk.rep (n t : Nat) : RqOk n 0 (List.replicate t []) := by
  have h : ∀ k, (List.replicate t ([] : List (Nat × Nat))).getD k [] = [] := fun k => by
    rw [List.getD_eq_getElem?_getD, List.getElem?_replicate]; split <;> rfl
  exact ⟨fun k x hx => by rw [h k] at hx; simp at hx, fun k => by rw [h k]; simp⟩
end Go.AM

/- A root whose cells hold nil slices: the cells may be read as empty slices. -/
namespace Go.AM
end Go.AM

namespace Go.Proofs.D
open Go.AM Go
set_option maxRecDepth 100000
set_option maxHeartbeats 4000000
end Go.Proofs.D

namespace Go.Proofs.D
open Go.AM Go
set_option maxRecDepth 100000
set_option maxHeartbeats 4000000
end Go.Proofs.D

namespace Go.Proofs.D
open Go.AM Go
set_option maxRecDepth 100000
set_option maxHeartbeats 4000000
end Go.Proofs.D

namespace Go.Proofs.D
open Go.AM Go
set_option maxRecDepth 100000
set_option maxHeartbeats 4000000
theorem std2_po : poB 4 (stdT 2) = true := by decide +kernel
theorem std3_po : poB 6 (stdT 3) = true := by decide +kernel
theorem std4_po : poB 8 (stdT 4) = true := by decide +kernel
theorem std2_dim : (dealtT 4 (stdT 2)).length = 2 := by decide +kernel
theorem std3_dim : (dealtT 6 (stdT 3)).length = 3 := by decide +kernel
theorem std4_dim : (dealtT 8 (stdT 4)).length = 4 := by decide +kernel
theorem stdn {n : Nat} (h : 2 ≤ n) (h4 : n ≤ 4) : poB (2 * n) (stdT n) = true ∧ (dealtT (2 * n) (stdT n)).length = n := by
  rcases (show n = 2 ∨ n = 3 ∨ n = 4 by omega) with rfl | rfl | rfl
  · exact ⟨std2_po, std2_dim⟩
  · exact ⟨std3_po, std3_dim⟩
  · exact ⟨std4_po, std4_dim⟩
theorem lawstd_e (n : Int) (hn : n < 1 ∨ 256 < n) : Reads Tryd.prog 6 false [.int .i64 n] (.bool true) := by
  have ha := awake_r
  have h1 := std_e n hn
  refine Reads.body (rs := [.tmp 2]) Tryd.func6 rfl Tryd.ntmps6 rfl (by simp) ?_
  generalize hQr : retQ _ _ _ = Qr
  -- block 1
  -- region 0
  refine AW.sg [0] [] trivial ?_
  refine AW.seq fun K1 hK1 => ?_
  -- region 1
  refine AW.so 0 (fun ii => if ii = 0 then some (.reads false (.bool true)) else none) [0,8] [] trivial ?_
  repeat with_reducible refine cj ?_ ?_
  all_goals try first | (exact ha) | omega | exact ent (by kernel_rfl)
  -- cond 1
  refine AW.cn ?_ ?_
  · intro hb
    exfalso; simp at hb
  · intro hb
    refine AW.skip ?_
    refine hK1 _ _ _ ?_; clear hK1
    -- region 3
    refine AW.so 0 (fun ii => if ii = 1 then some (.reads false (.tup [.agg [.rsl 2 []], .int .i64 2])) else none) [0,3,4] [3] trivial ?_
    repeat with_reducible refine cj ?_ ?_
    all_goals try first | (exact h1) | omega | exact ent (by kernel_rfl)
    refine AW.seq fun K2 hK2 => ?_
    -- region 4
    refine AW.sg [0,3,4,19] [3] trivial ?_
    repeat with_reducible refine cj ?_ ?_
    all_goals try first | omega | (intros; (repeat' apply And.intro) <;> first | assumption | omega | decide) | (intro hgd; exact absurd hgd (by decide)) | rfl | exact gD | (intro _hgd; simp_all [go_sem]; done)
    -- cond 2
    refine AW.cn ?_ ?_
    · intro hb
      -- region 5
      refine AW.sg [2] [] trivial ?_
      repeat with_reducible refine cj ?_ ?_
      all_goals try first | omega | (intros; (repeat' apply And.intro) <;> first | assumption | omega | decide) | (intro hgd; exact absurd hgd (by decide)) | rfl | exact gD | (intro _hgd; simp_all [go_sem]; done)
      -- ret 2
      rw [← hQr]
      refine AW.rt trivial ?_
      exact Wk.of_eq (by simp)
    · intro hb
      exfalso; omega
theorem lawstd_a (n : Nat) (h1 : 1 ≤ n) (hn : n ≤ 256) (h2 : n < 2 ∨ 4 < n) : Reads Tryd.prog 6 false [.int .i64 n] (.bool true) := by
  have ha := awake_r
  have hs1 := std_r n h1 hn
  have hs2 := rstd_r n hn
  have hsm := same_g (2 * n) (stdT n) (stdT_sq n) (by omega)
  have htl := tabR_len (stdT n)
  rw [(stdT_sq n).len] at htl
  have hne : decide (((2 * n : Nat) : Int) = 2 * (n : Int)) = true := decide_eq_true (by omega)
  unfold relB at *
  refine Reads.body (rs := [.tmp 2]) Tryd.func6 rfl Tryd.ntmps6 rfl (by simp) ?_
  generalize hQr : retQ _ _ _ = Qr
  -- block 2
  -- region 0
  refine AW.sg [0] [] (e2 @htl @hne) ?_
  refine AW.seq fun K1 hK1 => ?_
  -- region 1
  refine AW.so 0 (fun ii => if ii = 0 then some (.reads false (.bool true)) else none) [0,8] [] (e2 @htl @hne) ?_
  repeat with_reducible refine cj ?_ ?_
  all_goals try first | (exact ha) | omega | exact ent (by kernel_rfl)
  -- cond 1
  refine AW.cn ?_ ?_
  · intro hb
    exfalso; simp at hb
  · intro hb
    refine AW.skip ?_
    refine hK1 _ _ _ ?_; clear hK1
    -- region 3
    refine AW.so 0 (fun ii => if ii = 1 then some (.reads false (.tup [.agg [.rsl 2 (tabR (stdT n))], .int .i64 0])) else none) [0,3,4] [3] (e2 @htl @hne) ?_
    repeat with_reducible refine cj ?_ ?_
    all_goals try first | (exact hs1) | omega | exact ent (by kernel_rfl)
    refine AW.seq fun K2 hK2 => ?_
    -- region 4
    refine AW.sg [0,3,4,19] [3] (e2 @htl @hne) ?_
    repeat with_reducible refine cj ?_ ?_
    all_goals try first | omega | (intros; (repeat' apply And.intro) <;> first | assumption | omega | decide) | (intro hgd; exact absurd hgd (by decide)) | rfl | (simp only [go_sem, reduceIte, reduceCtorEq, Nat.reduceAdd, Nat.reduceMul, Nat.reduceEqDiff, Nat.reduceLT, Nat.reduceLeDiff, Nat.reduceSub, Nat.reducePow, Nat.reduceBEq, Int.reduceToNat, List.reduceReplicate, htl, hne]; done) | (intro _hgd; simp_all [go_sem]; done)
    -- cond 2
    refine AW.cn ?_ ?_
    · intro hb
      exfalso; omega
    · intro hb
      refine AW.skip ?_
      refine hK2 _ _ _ ?_; clear hK2
      refine AW.seq fun K3 hK3 => ?_
      -- region 6
      refine AW.sd mixed 0 (fun ii => if ii = 20 then some (.reads false (.agg [.rsl 2 (tabR (stdT n))])) else if ii = 21 then some (.reads false (.bool true)) else none) [0,3,52] [3] (e2 @htl @hne) ?_
      repeat with_reducible refine cj ?_ ?_
      all_goals try first | (first | (intros; (repeat' apply And.intro) <;> first | assumption | exact hs2 | exact hsm | omega)) | (intros; (repeat' apply And.intro) <;> first | assumption | (first | (intros; (repeat' apply And.intro) <;> first | assumption | exact hs2 | exact hsm | omega))) | omega | exact chk (by kernel_rfl) | exact ent (by kernel_rfl) | (intro hgd; exact absurd hgd (by decide)) | rfl | (simp only [go_sem, reduceIte, reduceCtorEq, Nat.reduceAdd, Nat.reduceMul, Nat.reduceEqDiff, Nat.reduceLT, Nat.reduceLeDiff, Nat.reduceSub, Nat.reducePow, Nat.reduceBEq, Int.reduceToNat, List.reduceReplicate, htl, hne]; done) | (intro _hgd; simp_all [go_sem]; done)
      -- cond 3
      refine AW.cn ?_ ?_
      · intro hb
        simp at hb
      · intro hb
        refine AW.skip ?_
        refine hK3 _ _ _ ?_; clear hK3
        refine AW.seq fun K4 hK4 => ?_
        -- region 8
        refine AW.sg [0,3,58] [3] (e2 @htl @hne) ?_
        repeat with_reducible refine cj ?_ ?_
        all_goals try first | omega | (intros; (repeat' apply And.intro) <;> first | assumption | omega | decide) | (intro hgd; exact absurd hgd (by decide)) | rfl | (simp only [go_sem, reduceIte, reduceCtorEq, Nat.reduceAdd, Nat.reduceMul, Nat.reduceEqDiff, Nat.reduceLT, Nat.reduceLeDiff, Nat.reduceSub, Nat.reducePow, Nat.reduceBEq, Int.reduceToNat, List.reduceReplicate, htl, hne]; done) | (intro _hgd; simp_all [go_sem]; done)
        -- cond 4
        refine AW.cn ?_ ?_
        · intro hb
          -- region 9
          refine AW.sg [2] [] (e2 @htl @hne) ?_
          -- ret 4
          rw [← hQr]
          refine AW.rt (e2 @htl @hne) ?_
          exact Wk.refl _
        · intro hb
          exfalso; omega
theorem lawstd_b (n : Nat) (h1 : 2 ≤ n) (hn : n ≤ 4) : Reads Tryd.prog 6 false [.int .i64 n] (.bool true) := by
  have ha := awake_r
  have hs1 := std_r n (by omega) (by omega)
  have hs2 := rstd_r n (by omega)
  have hsm := same_g (2 * n) (stdT n) (stdT_sq n) (by omega)
  obtain ⟨hpo, hdm⟩ := stdn h1 hn
  have hd := dim_g (2 * n) (stdT n) (stdT_sq n) (by omega) hpo
  rw [hdm] at hd
  have htl := tabR_len (stdT n)
  rw [(stdT_sq n).len] at htl
  have hne : decide (((2 * n : Nat) : Int) = 2 * (n : Int)) = true := decide_eq_true (by omega)
  unfold relB at *
  refine Reads.body (rs := [.tmp 2]) Tryd.func6 rfl Tryd.ntmps6 rfl (by simp) ?_
  generalize hQr : retQ _ _ _ = Qr
  -- block 3
  -- region 0
  refine AW.sg [0] [] (e2 @htl @hne) ?_
  refine AW.seq fun K1 hK1 => ?_
  -- region 1
  refine AW.so 0 (fun ii => if ii = 0 then some (.reads false (.bool true)) else none) [0,8] [] (e2 @htl @hne) ?_
  repeat with_reducible refine cj ?_ ?_
  all_goals try first | (exact ha) | omega | exact ent (by kernel_rfl)
  -- cond 1
  refine AW.cn ?_ ?_
  · intro hb
    exfalso; simp at hb
  · intro hb
    refine AW.skip ?_
    refine hK1 _ _ _ ?_; clear hK1
    -- region 3
    refine AW.so 0 (fun ii => if ii = 1 then some (.reads false (.tup [.agg [.rsl 2 (tabR (stdT n))], .int .i64 0])) else none) [0,3,4] [3] (e2 @htl @hne) ?_
    repeat with_reducible refine cj ?_ ?_
    all_goals try first | (exact hs1) | omega | exact ent (by kernel_rfl)
    refine AW.seq fun K2 hK2 => ?_
    -- region 4
    refine AW.sg [0,3,4,19] [3] (e2 @htl @hne) ?_
    repeat with_reducible refine cj ?_ ?_
    all_goals try first | omega | (intros; (repeat' apply And.intro) <;> first | assumption | omega | decide) | (intro hgd; exact absurd hgd (by decide)) | rfl | (simp only [go_sem, reduceIte, reduceCtorEq, Nat.reduceAdd, Nat.reduceMul, Nat.reduceEqDiff, Nat.reduceLT, Nat.reduceLeDiff, Nat.reduceSub, Nat.reducePow, Nat.reduceBEq, Int.reduceToNat, List.reduceReplicate, htl, hne]; done) | (intro _hgd; simp_all [go_sem]; done)
    -- cond 2
    refine AW.cn ?_ ?_
    · intro hb
      exfalso; omega
    · intro hb
      refine AW.skip ?_
      refine hK2 _ _ _ ?_; clear hK2
      refine AW.seq fun K3 hK3 => ?_
      -- region 6
      refine AW.sd mixed 0 (fun ii => if ii = 20 then some (.reads false (.agg [.rsl 2 (tabR (stdT n))])) else if ii = 21 then some (.reads false (.bool true)) else none) [0,3,52] [3] (e2 @htl @hne) ?_
      repeat with_reducible refine cj ?_ ?_
      all_goals try first | (first | (intros; (repeat' apply And.intro) <;> first | assumption | exact hs2 | exact hsm | omega)) | (intros; (repeat' apply And.intro) <;> first | assumption | (first | (intros; (repeat' apply And.intro) <;> first | assumption | exact hs2 | exact hsm | omega))) | omega | exact chk (by kernel_rfl) | exact ent (by kernel_rfl) | (intro hgd; exact absurd hgd (by decide)) | rfl | (simp only [go_sem, reduceIte, reduceCtorEq, Nat.reduceAdd, Nat.reduceMul, Nat.reduceEqDiff, Nat.reduceLT, Nat.reduceLeDiff, Nat.reduceSub, Nat.reducePow, Nat.reduceBEq, Int.reduceToNat, List.reduceReplicate, htl, hne]; done) | (intro _hgd; simp_all [go_sem]; done)
      -- cond 3
      refine AW.cn ?_ ?_
      · intro hb
        simp at hb
      · intro hb
        refine AW.skip ?_
        refine hK3 _ _ _ ?_; clear hK3
        refine AW.seq fun K4 hK4 => ?_
        -- region 8
        refine AW.sg [0,3,58] [3] (e2 @htl @hne) ?_
        repeat with_reducible refine cj ?_ ?_
        all_goals try first | omega | (intros; (repeat' apply And.intro) <;> first | assumption | omega | decide) | (intro hgd; exact absurd hgd (by decide)) | rfl | (simp only [go_sem, reduceIte, reduceCtorEq, Nat.reduceAdd, Nat.reduceMul, Nat.reduceEqDiff, Nat.reduceLT, Nat.reduceLeDiff, Nat.reduceSub, Nat.reducePow, Nat.reduceBEq, Int.reduceToNat, List.reduceReplicate, htl, hne]; done) | (intro _hgd; simp_all [go_sem]; done)
        -- cond 4
        refine AW.cn ?_ ?_
        · intro hb
          exfalso; omega
        · intro hb
          refine AW.skip ?_
          refine hK4 _ _ _ ?_; clear hK4
          -- region 10
          refine AW.so 0 (fun ii => if ii = 1 then some (.reads false (.tup [.int .i64 (n : Nat), .int .i64 ((0 : Nat) : Int)])) else none) [0,5,6] [] (e2 @htl @hne) ?_
          repeat with_reducible refine cj ?_ ?_
          all_goals try first | (exact hd) | omega | exact ent (by kernel_rfl)
          -- region 11
          refine AW.sg [2] [] (e2 @htl @hne) ?_
          repeat with_reducible refine cj ?_ ?_
          all_goals try first | omega | (intros; (repeat' apply And.intro) <;> first | assumption | omega | decide) | (intro hgd; exact absurd hgd (by decide)) | rfl | (simp only [go_sem, reduceIte, reduceCtorEq, Nat.reduceAdd, Nat.reduceMul, Nat.reduceEqDiff, Nat.reduceLT, Nat.reduceLeDiff, Nat.reduceSub, Nat.reducePow, Nat.reduceBEq, Int.reduceToNat, List.reduceReplicate, htl, hne]; done) | (intro _hgd; simp_all [go_sem]; done)
          -- ret 5
          rw [← hQr]
          refine AW.rt (e2 @htl @hne) ?_
          exact Wk.of_eq (by simp)
theorem law_standard (n : Int) : Reads Tryd.prog 6 false [.int .i64 n] (.bool true) := by
  by_cases h : n < 1 ∨ 256 < n
  · exact lawstd_e n h
  · obtain ⟨m, rfl⟩ : ∃ m : Nat, n = m := ⟨n.toNat, by omega⟩
    by_cases h2 : m < 2 ∨ 4 < m
    · exact lawstd_a m (by omega) (by omega) h2
    · exact lawstd_b m (by omega) (by omega)
end Go.Proofs.D

/- Arguments that are read as data, as pure trees. -/
namespace Go.AM

inductive F2 {α β : Type} (R : α → β → Prop) : List α → List β → Prop
  | nil : F2 R [] []
  | cons {a b l r} (h : R a b) (t : F2 R l r) : F2 R (a :: l) (b :: r)

/-- The shape of a type's cells. -/
def Fit (P : Program) : Nat → TypeId → List AV → Prop
  | 0, _, _ => False
  | f + 1, t, avs => match P.underlying t with
    | some .bool => ∃ b, avs = [.bool b]
    | some (.int k) => ∃ n, avs = [.int k n] ∧ k.min ≤ n ∧ n ≤ k.max
    | some .string => ∃ s, avs = [.str s]
    | some (.slice e) => P.cellsOf e = 0 ∨ ∃ es, avs = [.rsl (P.cellsOf e) es] ∧ es.length ≤ maxLen ∧ ∀ x ∈ es, x.length = P.cellsOf e ∧ Fit P f e x
    | some (.struct fs) => ∃ parts : List (List AV), avs = parts.flatten ∧ F2 (fun (fl : Field) p => p.length = P.cellsOf fl.type ∧ Fit P f fl.type p) fs.toList parts
    | some (.array n e) => ∃ parts : List (List AV), avs = parts.flatten ∧ parts.length = n ∧ ∀ p ∈ parts, p.length = P.cellsOf e ∧ Fit P f e p
    | _ => True

abbrev immW (w : World) : Nat → Prop := immF w fun _ => False
def Match (w : World) (avs : List AV) (cs : List Value) : Prop := avs.length = cs.length ∧ ∀ i, i < avs.length → RelP (immW w) w (avs.getD i .any) (cs.getD i undef)

theorem Match.append {w : World} {a a' : List AV} {c c' : List Value} (h : Match w a c) (h' : Match w a' c') : Match w (a ++ a') (c ++ c') := by
  obtain ⟨h1, h2⟩ := h
  obtain ⟨k1, k2⟩ := h'
  refine ⟨by simp [h1, k1], fun i hi => ?_⟩
  rw [getD_append, getD_append, ← h1]
  by_cases hlt : i < a.length
  · rw [if_pos hlt, if_pos hlt]; exact h2 i hlt
  · rw [if_neg hlt, if_neg hlt]
    exact k2 _ (by simp at hi; omega)
theorem Match.one {w : World} {a : AV} {u : Value} (h : RelP (immW w) w a u) : Match w [a] [u] := ⟨rfl, fun i hi => by
  match i, hi with
  | 0, _ => exact h⟩

theorem mapM_some {α β : Type} {f : α → Option β} : ∀ {l : List α} {r : List β}, l.mapM f = some r → F2 (fun a b => f a = some b) l r
  | [], r, h => by
    simp only [List.mapM_nil, Option.pure_def, Option.some.injEq] at h
    subst h; exact .nil
  | a :: l, r, h => by
    rw [List.mapM_cons] at h
    cases ha : f a with
    | none => simp [ha] at h
    | some b =>
      cases hl : l.mapM f with
      | none => simp [ha, hl] at h
      | some r' =>
        simp [ha, hl] at h
        subst h
        exact .cons ha (mapM_some hl)

theorem range_mapM {β : Type} {f : Nat → Option β} {n : Nat} {r : List β} (h : (List.range n).mapM f = some r) : r.length = n ∧ ∀ i, i < n → ∃ b, r[i]? = some b ∧ f i = some b := by
  have h2 := mapM_some h
  have key : ∀ {l : List Nat} {r : List β}, F2 (fun a b => f a = some b) l r → r.length = l.length ∧ ∀ (i a : Nat), l[i]? = some a → ∃ b, r[i]? = some b ∧ f a = some b := by
    intro l r h
    induction h with
    | nil => exact ⟨rfl, by simp⟩
    | cons h t ih =>
      refine ⟨by simp [ih.1], fun i a ha => ?_⟩
      cases i with
      | zero => simp only [List.getElem?_cons_zero, Option.some.injEq] at ha; subst ha; exact ⟨_, rfl, h⟩
      | succ i => simpa using ih.2 i a (by simpa using ha)
  obtain ⟨k1, k2⟩ := key h2
  refine ⟨by simpa using k1, fun i hi => k2 i i (by simp [hi])⟩

theorem cells?_spec {w : World} {a : Addr} {n : Nat} {cs : List Value} (h : w.cells? 0 a n = some cs) : cs.length = n ∧ ∀ j, j < n → w.cell? (a.add j) = some (cs.getD j undef) := by
  simp only [World.cells?, Nat.zero_le, if_true] at h
  obtain ⟨h1, h2⟩ := range_mapM h
  refine ⟨h1, fun j hj => ?_⟩
  obtain ⟨b, e1, e2⟩ := h2 j hj
  rw [e2, List.getD_eq_getElem?_getD, e1]; rfl

theorem cell?_spot {w : World} {a : Addr} {v : Value} (h : w.cell? a = some v) : a.spot = none ∧ a.block < w.heap.size := by
  unfold World.cell? at h
  split at h
  · rename_i c _ _ hh
    split at h
    · cases h
    · rename_i hs
      exact ⟨by simpa using hs, heap_lt hh⟩
  · cases h

theorem chunks_struct {P : Program} (cs : List Value) : ∀ (fs : List Field) (o : Nat), (∀ (j : Nat) f, fs[j]? = some f → f.offset = o + ((fs.take j).map fun f => P.cellsOf f.type).sum) →
    (fs.map fun f => (cs.drop f.offset).take (P.cellsOf f.type)).flatten = (cs.drop o).take ((fs.map fun f => P.cellsOf f.type).sum)
  | [], o, _ => by simp
  | f :: fs, o, h => by
    have h0 := h 0 f rfl
    simp at h0
    have ih := chunks_struct (P := P) cs fs (o + P.cellsOf f.type) fun j g hj => by
      have := h (j + 1) g (by simpa using hj)
      rw [this]
      simp [Nat.add_assoc]
    simp only [List.map_cons, List.flatten_cons, List.sum_cons, ih, h0]
    rw [List.take_add, List.drop_drop]

theorem chunks_array (cs : List Value) (m : Nat) : ∀ n, ((List.range n).map fun i => (cs.drop (i * m)).take m).flatten = cs.take (n * m)
  | 0 => by simp
  | n + 1 => by
    rw [List.range_succ, List.map_append, List.flatten_append, chunks_array cs m n, Nat.succ_mul, List.take_add]
    simp

theorem match_flatten {α : Type} {w : World} {g : α → List Value} {p : α → List AV → Prop} : ∀ {l : List α} {parts : List (List AV)}, F2 (fun a x => p a x ∧ Match w x (g a)) l parts → Match w parts.flatten (l.map g).flatten
  | _, _, .nil => ⟨rfl, by simp⟩
  | _, _, .cons h t => by
    simp only [List.flatten_cons, List.map_cons]
    exact h.2.append (match_flatten t)

theorem forall2_imp {α β : Type} {R S : α → β → Prop} (h : ∀ a b, R a b → S a b) : ∀ {l : List α} {r : List β}, F2 R l r → F2 S l r
  | _, _, .nil => .nil
  | _, _, .cons h1 t => .cons (h _ _ h1) (forall2_imp h t)
theorem forall2_len {α β : Type} {R : α → β → Prop} : ∀ {l : List α} {r : List β}, F2 R l r → l.length = r.length
  | _, _, .nil => rfl
  | _, _, .cons _ t => by simp [forall2_len t]
theorem forall2_right {α β : Type} {R : α → β → Prop} {Q : β → Prop} (h : ∀ a b, R a b → Q b) : ∀ {l : List α} {r : List β}, F2 R l r → ∀ b ∈ r, Q b
  | _, _, .nil, b, hb => by cases hb
  | _, _, .cons h1 t, b, hb => by
    rcases List.mem_cons.1 hb with rfl | hb
    · exact h _ _ h1
    · exact forall2_right h t b hb

theorem fit_of_trod {H : Type} {enc : TypeId × Value → H} {P : Program} {w : World} (hl : laidOutB P = true) : ∀ (n : Nat) (t : TypeId) (cs : List Value) (x : DataW H × List MemPlace), t < P.types.size →
    DataW.trod enc P w 0 (fun _ => true) true n t cs = some x → ∃ avs, Fit P n t avs ∧ Match w avs cs := by
  intro n
  induction n with
  | zero => intro t cs x _ h; simp [DataW.trod] at h
  | succ n ih =>
    intro t cs x ht h
    have hany : (match P.underlying t with | some .bool | some (.int _) | some .string | some (.slice _) | some (.struct _) | some (.array _ _) => False | _ => True) → ∃ avs, Fit P (n + 1) t avs ∧ Match w avs cs := fun hh => by
      refine ⟨List.replicate cs.length .any, ?_, by simp, fun i hi => ?_⟩
      · unfold Fit
        split <;> simp_all
      · have : (List.replicate cs.length AV.any).getD i .any = .any := by
          simp only [List.getD_eq_getElem?_getD]
          cases h : (List.replicate cs.length AV.any)[i]? with
          | none => rfl
          | some y => simp [List.getElem?_replicate] at h; simp [h.2]
        rw [this]; exact .any _
    by_cases hh : (match P.underlying t with | some .bool | some (.int _) | some .string | some (.slice _) | some (.struct _) | some (.array _ _) => False | _ => True)
    · exact hany hh
    cases hu : P.underlying t with
    | none => exact absurd (by rw [hu]; trivial) hh
    | some d =>
      rw [hu] at hh
      cases d <;> first | exact absurd trivial hh | skip
      case bool =>
        unfold DataW.trod at h
        rw [hu] at h
        rcases cs with _ | ⟨c, _ | ⟨c2, rest⟩⟩ <;> (try cases c) <;> simp at h
        exact ⟨[.bool _], by unfold Fit; rw [hu]; exact ⟨_, rfl⟩, .one (.bool _)⟩
      case int k =>
        unfold DataW.trod at h
        rw [hu] at h
        rcases cs with _ | ⟨c, _ | ⟨c2, rest⟩⟩ <;> (try cases c) <;> simp at h
        rename_i k' m
        obtain ⟨⟨rfl, h1⟩, _⟩ := h
        exact ⟨[.int k' m], by unfold Fit; rw [hu]; exact ⟨_, rfl, by simpa [Lit.wf] using h1⟩, .one (.int _ _)⟩
      case string =>
        unfold DataW.trod at h
        rw [hu] at h
        rcases cs with _ | ⟨c, _ | ⟨c2, rest⟩⟩ <;> (try cases c) <;> simp at h
        exact ⟨[.str _], by unfold Fit; rw [hu]; exact ⟨_, rfl⟩, .one (.str _)⟩
      case slice e =>
        have he := kid_slice hl ht hu
        unfold DataW.trod at h
        rw [hu] at h
        have hbad : ∀ c c2 rest, cs ≠ c :: c2 :: rest := fun c c2 rest e => by subst e; cases c <;> simp at h
        rcases cs with _ | ⟨c, _ | ⟨c2, rest⟩⟩
        · simp at h
        rotate_left
        · exact absurd rfl (hbad _ _ _)
        cases c <;> first | (simp at h; done) | skip
        rename_i a len cap
        cases a with
        | none =>
          rcases len with _ | len <;> rcases cap with _ | cap <;> first | (simp at h; done) | skip
          exact ⟨[.rsl (P.cellsOf e) []], by unfold Fit; rw [hu]; exact .inr ⟨[], rfl, by simp, by simp⟩, .one (.rnil _ _ _)⟩
        | some a =>
          dsimp only at h
          split at h
          · rename_i hb
            cases hm : (List.range len).mapM (fun i => (w.cells? 0 (a.add (i * P.cellsOf e)) (P.cellsOf e)).bind (DataW.trod enc P w 0 (fun _ => true) true n e)) with
            | none => rw [hm] at h; simp at h
            | some elems =>
              obtain ⟨k1, k2⟩ := range_mapM hm
              have k3 : ∀ i, i < len → ∃ avs cs', w.cells? 0 (a.add (i * P.cellsOf e)) (P.cellsOf e) = some cs' ∧ Fit P n e avs ∧ Match w avs cs' := fun i hi => by
                obtain ⟨b, _, e2⟩ := k2 i hi
                cases hc : w.cells? 0 (a.add (i * P.cellsOf e)) (P.cellsOf e) with
                | none => rw [hc] at e2; simp at e2
                | some cs' =>
                  rw [hc] at e2
                  obtain ⟨avs, h1, h2⟩ := ih e cs' b he e2
                  exact ⟨avs, cs', rfl, h1, h2⟩
              classical
              let F : Nat → List AV := fun i => if hi : i < len then Classical.choose (k3 i hi) else []
              let es := (List.range len).map F
              have hlen : es.length = len := by simp [es]
              have hget : ∀ i, i < len → es.getD i [] = F i := fun i hi => by simp [es, List.getD_eq_getElem?_getD, hi]
              have hF : ∀ i, i < len → ∃ cs', w.cells? 0 (a.add (i * P.cellsOf e)) (P.cellsOf e) = some cs' ∧ Fit P n e (F i) ∧ Match w (F i) cs' := fun i hi => by
                have := Classical.choose_spec (k3 i hi)
                simp only [F, dif_pos hi]
                exact this
              have hes : ∀ x ∈ es, x.length = P.cellsOf e ∧ Fit P n e x := fun x hx => by
                simp only [es, List.mem_map, List.mem_range] at hx
                obtain ⟨i, hi, rfl⟩ := hx
                obtain ⟨cs', h1, h2, h3⟩ := hF i hi
                exact ⟨h3.1.trans (cells?_spec h1).1, h2⟩
              rcases Nat.eq_zero_or_pos (P.cellsOf e) with hz | hz
              · exact ⟨[.any], by unfold Fit; rw [hu]; exact .inl hz, .one (.any _)⟩
              refine ⟨[.rsl (P.cellsOf e) es], by unfold Fit; rw [hu]; exact .inr ⟨es, rfl, by rw [hlen]; omega, hes⟩, .one ?_⟩
              rcases Nat.eq_zero_or_pos len with h0 | h0
              · have : es = [] := List.length_eq_zero_iff.1 (by omega)
                rw [this, h0]; exact .rnil _ _ _
              · have hcell : ∀ i j, i < len → j < P.cellsOf e → ∃ v, w.cell? ((a.add (i * P.cellsOf e)).add j) = some v ∧ RelP (immW w) w ((es.getD i []).getD j .any) v := fun i j hi hj => by
                  obtain ⟨cs', h1, h2, h3⟩ := hF i hi
                  obtain ⟨g1, g2⟩ := cells?_spec h1
                  refine ⟨_, g2 j hj, ?_⟩
                  rw [hget i hi]
                  exact h3.2 j (by rw [h3.1, g1]; exact hj)
                obtain ⟨v0, g1, _⟩ := hcell 0 0 h0 hz
                simp only [Nat.zero_mul, Addr.add, if_true] at g1
                obtain ⟨hs, hblk⟩ := cell?_spot g1
                obtain ⟨b, off, sp⟩ := a
                simp only at hs
                subst hs
                have hadd : ∀ i j, ((⟨b, off, none⟩ : Addr).add (i * P.cellsOf e)).add j = ⟨b, off + i * P.cellsOf e + j, none⟩ := fun i j => by
                  simp only [Addr.add]
                  split <;> split <;> simp_all
                rw [← hlen]
                refine .rsl _ es b off cap (fun i j => (w.cell? ⟨b, off + i * P.cellsOf e + j, none⟩).getD undef) (by omega) ⟨hblk, fun h => h⟩ (fun x hx => (hes x hx).1) (fun i j hi hj => ?_) (fun i j hi hj => ?_)
                · obtain ⟨v, e1, _⟩ := hcell i j (by omega) hj
                  rw [hadd] at e1
                  simp [e1]
                · obtain ⟨v, e1, e2⟩ := hcell i j (by omega) hj
                  rw [hadd] at e1
                  simpa [e1] using e2
          · cases h
      case struct fs =>
        obtain ⟨hk1, hk2, hk3⟩ := kid_struct hl ht hu
        unfold DataW.trod at h
        rw [hu] at h
        dsimp only at h
        split at h
        · rename_i hlen
          cases hm : (fs.toList.mapM fun f => DataW.trod enc P w 0 (fun _ => true) true n f.type ((cs.drop f.offset).take (P.cellsOf f.type))) with
          | none => rw [hm] at h; simp at h
          | some xs =>
            have h2 := mapM_some hm
            have h3 : ∃ parts : List (List AV), F2 (fun (fl : Field) p => (p.length = P.cellsOf fl.type ∧ Fit P n fl.type p) ∧ Match w p ((cs.drop fl.offset).take (P.cellsOf fl.type))) fs.toList parts := by
              have hall : ∀ f ∈ fs.toList, f.type < P.types.size ∧ f.offset + P.cellsOf f.type ≤ cs.length := fun f hf => by
                refine ⟨hk1 f hf, ?_⟩
                obtain ⟨j, hj, rfl⟩ := List.mem_iff_getElem.1 hf
                have h5 := hk3 j fs.toList[j] (List.getElem?_eq_getElem hj)
                rw [h5, hlen, hk2]
                have h6 : (fs.toList.map fun f => P.cellsOf f.type).sum = ((fs.toList.take j).map fun f => P.cellsOf f.type).sum + ((fs.toList.drop j).map fun f => P.cellsOf f.type).sum := by
                  rw [← List.sum_append, ← List.map_append, List.take_append_drop]
                rw [h6, List.drop_eq_getElem_cons hj]
                simp
              clear hm h hk1 hk2 hk3
              generalize fs.toList = l at h2 hall
              induction h2 with
              | nil => exact ⟨[], .nil⟩
              | cons h1 t ih2 =>
                rename_i f y l' r'
                obtain ⟨parts, hp⟩ := ih2 fun f hf => hall f (List.mem_cons_of_mem _ hf)
                obtain ⟨g1, g2⟩ := hall f (List.mem_cons_self ..)
                obtain ⟨avs, k1, k2⟩ := ih _ _ _ g1 h1
                exact ⟨avs :: parts, .cons ⟨⟨by rw [k2.1]; simp; omega, k1⟩, k2⟩ hp⟩
            obtain ⟨parts, hp⟩ := h3
            refine ⟨parts.flatten, by unfold Fit; rw [hu]; exact ⟨parts, rfl, forall2_imp (fun _ _ h => h.1) hp⟩, ?_⟩
            have h4 := match_flatten hp
            rw [chunks_struct cs fs.toList 0 (fun j f hj => by simpa using hk3 j f hj)] at h4
            rw [← hk2, ← hlen] at h4
            simpa using h4
        · cases h
      case array m e =>
        obtain ⟨he, hsz⟩ := kid_array hl ht hu
        unfold DataW.trod at h
        rw [hu] at h
        dsimp only at h
        split at h
        · rename_i hlen
          cases hm : ((List.range m).mapM fun i => DataW.trod enc P w 0 (fun _ => true) true n e ((cs.drop (i * P.cellsOf e)).take (P.cellsOf e))) with
          | none => rw [hm] at h; simp at h
          | some xs =>
            have h2 := mapM_some hm
            have h3 : ∃ parts : List (List AV), F2 (fun (i : Nat) p => (p.length = P.cellsOf e ∧ Fit P n e p) ∧ Match w p ((cs.drop (i * P.cellsOf e)).take (P.cellsOf e))) (List.range m) parts := by
              have hall : ∀ i ∈ List.range m, (i + 1) * P.cellsOf e ≤ cs.length := fun i hi => by
                rw [hlen, hsz]
                exact Nat.mul_le_mul_right _ (by have := List.mem_range.1 hi; omega)
              clear hm h hsz
              generalize List.range m = l at h2 hall
              induction h2 with
              | nil => exact ⟨[], .nil⟩
              | cons h1 t ih2 =>
                rename_i i y l' r'
                obtain ⟨parts, hp⟩ := ih2 fun f hf => hall f (List.mem_cons_of_mem _ hf)
                have g2 := hall i (List.mem_cons_self ..)
                obtain ⟨avs, k1, k2⟩ := ih _ _ _ he h1
                rw [Nat.succ_mul] at g2
                exact ⟨avs :: parts, .cons ⟨⟨by rw [k2.1]; simp; omega, k1⟩, k2⟩ hp⟩
            obtain ⟨parts, hp⟩ := h3
            refine ⟨parts.flatten, by unfold Fit; rw [hu]; exact ⟨parts, rfl, by have := forall2_len hp; simpa using this.symm, forall2_right (fun _ _ h => h.1) hp⟩, ?_⟩
            have h4 := match_flatten (g := fun i => (cs.drop (i * P.cellsOf e)).take (P.cellsOf e)) hp
            rw [chunks_array, ← hsz, ← hlen] at h4
            simpa using h4
        · cases h

end Go.AM

/- A law's contract out of a contract over pure trees. -/
namespace Go.AM
open Go.RowKit Go.WideShapes Go.ChangeShapes

def aggT (P : Program) (t : TypeId) : Bool :=
  match P.underlying t with
  | some (.struct _) | some (.array _ _) => true
  | _ => false
def supT (P : Program) (t : TypeId) : Bool :=
  match P.underlying t with
  | some .bool | some (.int _) | some .string | some (.slice _) | some (.struct _) | some (.array _ _) => true
  | _ => false
def argAV (P : Program) (t : TypeId) (avs : List AV) : AV := if aggT P t then .agg avs else avs.getD 0 .any
def argsAV (P : Program) : List TypeId → List (List AV) → List AV
  | t :: ts, a :: avs => argAV P t a :: argsAV P ts avs
  | _, _ => []

theorem match_arg {P : Program} {w : World} {t : TypeId} {v : Value} {avs : List AV} {base : Nat} (hs : supT P t = true) (hok : Value.okWide P w .any base t v) (h : Match w avs v.cells.toList) : RelP (immW w) w (argAV P t avs) v := by
  have hone : (∀ cs, v ≠ .agg cs) → aggT P t = false → RelP (immW w) w (argAV P t avs) v := fun hv ha => by
    have hc : v.cells.toList = [v] := by
      cases v <;> first | rfl | exact absurd rfl (hv _)
    rw [hc] at h
    unfold argAV
    rw [ha]
    exact h.2 0 (by rw [h.1]; simp)
  have hagg : (∃ cs, v = .agg cs) → aggT P t = true → RelP (immW w) w (argAV P t avs) v := fun ⟨cs, e⟩ ha => by
    subst e
    unfold argAV
    rw [ha]
    obtain ⟨l⟩ := cs
    exact .agg _ _ h.1 h.2
  cases hu : P.underlying t with
  | none => simp [supT, hu] at hs
  | some d =>
    cases d <;> first | (simp [supT, hu] at hs; done) | skip
    case bool => obtain ⟨b, rfl⟩ := okWide_bool hu hok; exact hone (by simp) (by simp [aggT, hu])
    case int => obtain ⟨b, rfl⟩ := okWide_int hu hok; exact hone (by simp) (by simp [aggT, hu])
    case string => obtain ⟨b, rfl⟩ := okWide_string hu hok; exact hone (by simp) (by simp [aggT, hu])
    case slice => obtain ⟨b, _, _, rfl⟩ := okWide_slice hu hok; exact hone (by simp) (by simp [aggT, hu])
    case struct => obtain ⟨cs, rfl, _⟩ := okWide_struct hu hok; exact hagg ⟨_, rfl⟩ (by simp [aggT, hu])
    case array =>
      unfold Value.okWide at hok
      rw [hu] at hok
      obtain ⟨cs, rfl, _⟩ := hok
      exact hagg ⟨_, rfl⟩ (by simp [aggT, hu])

theorem args_match {H : Type} {enc : TypeId × Value → H} {P : Program} {w : World} {base : Nat} (hl : laidOutB P = true) : ∀ {ts : List TypeId} {vs : List Value} {ds : List (DataW H)} {ps : List MemPlace}, (∀ t ∈ ts, t < P.types.size ∧ supT P t = true) →
    (∀ (j : Nat) t v, ts[j]? = some t → vs[j]? = some v → Value.okWide P w .any base t v) → DataW.TrodAll enc P w 0 (fun _ => true) true ts vs ds ps →
    ∃ ass, F2 (fun t avs => ∃ n, Fit P n t avs) ts ass ∧ (argsAV P ts ass).length = vs.length ∧ ∀ i, i < vs.length → RelP (immW w) w ((argsAV P ts ass).getD i .any) (vs.getD i undef)
  | [], vs, ds, ps, _, _, h => by
    obtain ⟨rfl, _, _⟩ := trodAll_nil h
    exact ⟨[], .nil, rfl, by simp⟩
  | t :: ts, vs, ds, ps, hts, hv, h => by
    obtain ⟨v, vs', d, ds', p, q, rfl, rfl, rfl, ⟨n, h1⟩, h2⟩ := trodAll_cons h
    obtain ⟨avs, k1, k2⟩ := fit_of_trod hl n t _ _ (hts t (List.mem_cons_self ..)).1 h1
    obtain ⟨ass, j1, j2, j3⟩ := args_match hl (fun t ht => hts t (List.mem_cons_of_mem _ ht)) (fun j t v e1 e2 => hv (j + 1) t v (by simpa using e1) (by simpa using e2)) h2
    refine ⟨avs :: ass, .cons ⟨n, k1⟩ j1, by simp [argsAV, j2], fun i hi => ?_⟩
    cases i with
    | zero => simpa [argsAV] using match_arg (hts t (List.mem_cons_self ..)).2 (hv 0 t v rfl rfl) k2
    | succ i => simpa [argsAV] using j3 i (by simpa using hi)

theorem Ext.below {w w' : World} (h : Ext (fun _ => False) w w') : Below w.heap.size w w' := ⟨h.os, h.tape, h.output, h.size, fun k hk => h.block k hk fun e => e⟩

theorem trodAll_below {H : Type} {enc : TypeId × Value → H} {P : Program} {W W' : World} (hl : laidOutB P = true) (hb : Below W.heap.size W W') {sp : Nat → Bool} : ∀ {ts : List TypeId} {vs : List Value} {ds : List (DataW H)} {ps : List MemPlace},
    (∀ t ∈ ts, t < P.types.size ∧ P.readableRec t = true) → DataW.TrodAll enc P W 0 (fun _ => true) true ts vs ds ps → (∀ p ∈ ps, p.block < W.heap.size ∧ sp p.block = true) → DataW.TrodAll enc P W' 0 sp true ts vs ds ps
  | [], vs, ds, ps, _, h, _ => by
    obtain ⟨rfl, rfl, rfl⟩ := trodAll_nil h
    rfl
  | t :: ts, vs, ds, ps, hts, h, hp => by
    obtain ⟨v, vs', d, ds', p, q, rfl, rfl, rfl, h1, h2⟩ := trodAll_cons h
    obtain ⟨g1, g2⟩ := hts t (List.mem_cons_self ..)
    exact ⟨p, q, WideElems.Trod_stays hl g2 g1 h1 (fun x hx => hb.same (hp x (List.mem_append_left _ hx)).1) (fun x hx => (hp x (List.mem_append_left _ hx)).2),
      trodAll_below hl hb (fun t ht => hts t (List.mem_cons_of_mem _ ht)) h2 (fun x hx => hp x (List.mem_append_right _ hx)), rfl⟩

theorem trodAll_len {H : Type} {enc : TypeId × Value → H} {P : Program} {w : World} {b : Nat} {sp : Nat → Bool} {hd : Bool} : ∀ {ts : List TypeId} {vs : List Value} {ds : List (DataW H)} {ps : List MemPlace}, DataW.TrodAll enc P w b sp hd ts vs ds ps → vs.length = ts.length ∧ ds.length = ts.length
  | [], vs, ds, ps, h => by
    obtain ⟨rfl, rfl, rfl⟩ := trodAll_nil h
    exact ⟨rfl, rfl⟩
  | t :: ts, vs, ds, ps, h => by
    obtain ⟨v, vs', d, ds', p, q, rfl, rfl, rfl, _, h2⟩ := trodAll_cons h
    have := trodAll_len h2
    exact ⟨by simp [this.1], by simp [this.2]⟩

/-- What the form asks of a law's call, out of a contract over pure trees. -/
theorem law_contract {H : Type} {enc : TypeId × Value → H} {P : Program} {fn : Func} {f : FuncId} {s : ChangeSpec} (hl : laidOutB P = true) {ts : List TypeId} {T : TypeId} (hps : fn.params.toList = ts) (hrs : fn.resultTypes = #[T]) (hT : P.underlying T = some .bool)
    (hts : ts.all (fun t => decide (t < P.types.size) && supT P t && P.readableRec t) = true) (hvars : s.vars = []) (hs : ∀ ds : List (DataW H), ds.length = ts.length → s.fn H ds = { results := [.lit (.bool true)], args := ds })
    (hread : ∀ ass, F2 (fun t avs => ∃ n, Fit P n t avs) ts ass → Reads P f false (argsAV P ts ass) (.bool true))
    {W : World} {base : Nat} {args : Array Value} {ds gs : List (DataW H)} {before : List MemPlace} (hval : ∀ (j : Nat) t v, fn.params[j]? = some t → args[j]? = some v → Value.okWide P W .any base t v)
    (hW : DataW.Whole enc P fn.params.toList s.vars false W args.toList ds gs before) (hgl : GL (immF W fun _ => False) W) :
    Calls P f args W fun e W' => ∃ v, e = .returned v ∧ s.post enc P fn false true false false W args v W' := by
  have hts' : ∀ t ∈ ts, t < P.types.size ∧ supT P t = true ∧ P.readableRec t = true := fun t ht => by
    have := List.all_eq_true.1 hts t ht
    simpa [and_assoc] using this
  have hW' := hW
  obtain ⟨p, q, hA, hV, rfl, hfz, hnd⟩ := hW
  rw [hvars] at hV
  obtain ⟨rfl, rfl⟩ := trodVars_none hV
  rw [hps] at hA
  obtain ⟨hl1, hl2⟩ := trodAll_len hA
  obtain ⟨ass, j1, j2, j3⟩ := args_match hl (fun t ht => ⟨(hts' t ht).1, (hts' t ht).2.1⟩) (fun j t v e1 e2 => hval j t v (by rw [← hps] at e1; simpa using e1) (by simpa using e2)) hA
  have hc := hread ass j1 W (fun _ => False) args.toList (fun _ h => h.elim) hgl j2.symm (fun i hi => j3 i (by omega))
  rw [show args.toList.toArray = args by simp] at hc
  refine hc.mono fun e W' ⟨u, h1, h2, h3⟩ => ⟨u, h1, ?_⟩
  have hu : u = .bool true := by cases h3; rfl
  subst hu
  have hb := h2.below
  have hlt : ∀ x ∈ p, x.block < W.heap.size := fun x hx => hW'.lt x (by simpa using hx)
  have hsf := hs ds hl2
  have hres : ∀ (b : Nat) (sp : Nat → Bool) (hd : Bool), DataW.TrodAll enc P W' b sp hd fn.resultTypes.toList ((Value.bool true).resultList fn.resultTypes.size) (s.fn H (ds ++ [])).results [] := fun b sp hd => by
    rw [hrs, List.append_nil, hsf]
    exact trodAll_mk1 (shut_bool hT true)
  have hargs : ∀ sp : Nat → Bool, (∀ x ∈ p, sp x.block = true) → DataW.TrodAll enc P W' 0 sp true fn.params.toList args.toList (s.fn H (ds ++ [])).args p := fun sp hsp => by
    rw [List.append_nil, hsf, hps]
    exact trodAll_below hl hb (fun t ht => ⟨(hts' t ht).1, (hts' t ht).2.2⟩) hA fun x hx => ⟨hlt x hx, hsp x hx⟩
  have hvs : ∀ sp : Nat → Bool, DataW.TrodVars enc P W' sp s.vars (s.fn H (ds ++ [])).vars [] := fun sp => by
    rw [List.append_nil, hsf, hvars]; rfl
  refine ⟨ds, [], p ++ [], [], p, [], hW', hres _ _ _, hargs _ (fun x hx => by simpa using hlt x hx), hvs _, World.keptBut_mono (fun x hx => ⟨hx, ?_⟩) (hb.frame (· ∈ p ++ [])), fun _ => ?_⟩
  · simpa using hx
  · refine ⟨ok_one hrs rfl (okWide_bool_mk hT _), _, _, ([] ++ p) ++ [], ⟨[] ++ p, [], trodAll_append (hargs _ (fun _ _ => rfl)) (hres _ _ _), hvs _, rfl, ?_, ?_⟩, ?_⟩
    · intro b off hp
      have hin : MemPlace.cell b off ∈ p := by simpa using hp
      rw [hb.frozen (hlt _ hin)]
      exact hfz b off (by simpa using hin)
    · intro ha; cases ha
    · intro x hx _
      simpa using hx

end Go.AM

/- The shapes of arguments. -/
namespace Go.AM
theorem fit_int {P : Program} {t : TypeId} {k : IntKind} (hu : P.underlying t = some (.int k)) {f : Nat} {x : List AV} (h : Fit P f t x) : ∃ n, x = [.int k n] ∧ k.min ≤ n ∧ n ≤ k.max := by
  cases f with
  | zero => exact h.elim
  | succ f => unfold Fit at h; rw [hu] at h; exact h
theorem F2.two {α β : Type} {R : α → β → Prop} {a b : α} {l : List β} (h : F2 R [a, b] l) : ∃ x y, l = [x, y] ∧ R a x ∧ R b y := by
  cases h with | cons h1 t => cases t with | cons h2 t => cases t with | nil => exact ⟨_, _, rfl, h1, h2⟩
end Go.AM

/- A laid table, as the machine's package variable. -/
namespace Go.AM
theorem rptr_of_laid {P : Program} {n : String} {g : Nat} {t e : TypeId} {k : IntKind} {L : List Int} {W : World} (hg : P.globalNamed n = some g) (ht : (P.globals[g]?).map (·.type) = some t) (hu : P.underlying t = some (.array L.length e))
    (hc : P.cellsOf e = 1) (hc2 : P.cellsOf t = L.length) (hu2 : P.underlying e = some (.int k)) (hL : L ≠ []) (h : laidMet P [(n, .agg (L.map fun i => .lit (.int k i)))] W) : RelP (immF W fun _ => False) W (.rptr (L.map (AV.int k))) (.pointer (some ⟨g, 0, none⟩)) := by
  obtain ⟨ps, ⟨g0, t0, cs0, f0, p0, q0, hg0, ht0, hv0, hd0, _, _⟩, _, _⟩ := h
  obtain rfl := Option.some.inj (hg.symm.trans hg0)
  obtain rfl := Option.some.inj (ht.symm.trans ht0)
  obtain ⟨xs, m, rfl, hx, hlen, hn, hel⟩ := DataW.trod_array hu hd0
  have hcell : ∀ j, j < L.length → W.cell? ⟨g, j, none⟩ = some (.int k (L.getD j 0)) := fun j hj => by
    have h0 := hel j hj
    rw [hc, Nat.mul_one] at h0
    have hjx : j < xs.length := by omega
    rw [List.getElem?_eq_getElem hjx] at h0
    obtain ⟨z, e1, e2, _⟩ := DataW.trod_int hu2 h0
    have hxs : xs.map (·.1) = L.map fun i => .lit (.int k i) := by
      simp only [Prod.mk.injEq, DataW.agg.injEq] at hx
      exact hx.1.symm
    have hzj : (xs.map (·.1))[j]? = (L.map fun i => (.lit (.int k i) : DataW Unit))[j]? := by rw [hxs]
    rw [List.getElem?_map, List.getElem?_map, List.getElem?_eq_getElem hjx, List.getElem?_eq_getElem hj, e2] at hzj
    simp only [Option.map_some, Option.some.injEq, DataW.lit.injEq, Lit.int.injEq] at hzj
    have hz : z = L.getD j 0 := by rw [hzj.2]; simp [List.getD_eq_getElem?_getD, hj]
    have hcs : cs0[j]? = some (.int k z) := by
      have hl : cs0.toList.length = L.length := by rw [hlen, hc2]
      have hd : cs0.toList.drop j = cs0.toList[j]'(by omega) :: cs0.toList.drop (j + 1) := List.drop_eq_getElem_cons (by omega)
      rw [hd] at e1
      simp only [List.take_succ_cons, List.take_zero, List.cons.injEq, and_true] at e1
      rw [← Array.getElem?_toList, List.getElem?_eq_getElem (by omega), e1]
    rw [World.var?_cell hg hv0 j, hcs, hz]
  have hlt : g < W.heap.size := by
    cases L with
    | nil => exact absurd rfl hL
    | cons a l =>
      have := hcell 0 (by simp)
      unfold World.cell? at this
      cases hh : W.heap[g]? with
      | none => simp [hh] at this
      | some o => exact heap_lt hh
  refine .rptr _ g 0 (fun j => .int k (L.getD j 0)) ⟨hlt, fun h => h⟩ (fun j hj => ?_) (fun j hj => ?_)
  · rw [List.length_map] at hj
    rw [Nat.zero_add]
    exact hcell j hj
  · rw [List.length_map] at hj
    have e : (L.map (AV.int k)).getD j .any = .int k (L.getD j 0) := by simp [List.getD_eq_getElem?_getD, hj]
    rw [e]
    exact .int _ _
theorem laidMet_of_H {P : Program} {n : String} {k : IntKind} {L : List Int} {W : World} (h : laidMetH P [(n, .agg (L.map fun i => .lit (.int k i)))] W) : laidMet P [(n, .agg (L.map fun i => .lit (.int k i)))] W := by
  rw [MakeChecks.laidMetH_plain _ _ _ (by rfl)] at h
  exact h
end Go.AM

/- The shapes of the dimension laws' arguments. -/
namespace Go.AM
open Go.Proofs
theorem F2.one {α β : Type} {R : α → β → Prop} {a : α} {l : List β} (h : F2 R [a] l) : ∃ x, l = [x] ∧ R a x := by
  cases h with | cons h1 t => cases t with | nil => exact ⟨_, rfl, h1⟩
theorem pgl {W : World} (h : laidMetH Tryd.prog [("math/bits.deBruijn64tab", .agg (tzTab.map fun i => .lit (.int .u8 i)))] W) : GL (immF W fun _ => False) W := fun g cs e => by
  cases g with
  | zero =>
    rw [globA_aux] at e
    obtain rfl := Option.some.inj e
    exact rptr_of_laid (L := tzTab) (by kernel_rfl : Tryd.prog.globalNamed "math/bits.deBruijn64tab" = some 0) (by kernel_rfl : (Tryd.prog.globals[0]?).map (·.type) = some 115) (e := 5) Tryd.underlying115 (by kernel_rfl) (by kernel_rfl) Tryd.underlying5 (by decide) (laidMet_of_H h)
  | succ g => cases e
theorem pmet (os : Os) (args : Array Value) : laidMetH Tryd.prog [("math/bits.deBruijn64tab", .agg (tzTab.map fun i => .lit (.int .u8 i)))] ((World.doorLaid Tryd.prog 400 os).forCall (fun _ _ => 0) ⟨#[], args, []⟩).memory :=
  laidMetH_of_parts3 (fuel := 8) (laidMet_of_run' 8 (by kernel_rfl) (by kernel_rfl)) (by kernel_rfl) (by kernel_rfl)
end Go.AM

