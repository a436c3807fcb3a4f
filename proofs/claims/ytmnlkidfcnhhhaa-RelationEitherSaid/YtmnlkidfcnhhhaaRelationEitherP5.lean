/- Lemmas and contracts, part 5: an abstract machine over the model, and the functions that the statement reaches. -/
import Derived.Test.YtmnlkidfcnhhhaaRelationEitherP4
import Derived.Carry
import Derived.RowKit
import Derived.OpenShut
import Derived.Below
import Derived.ChangeSame
import Derived.JoinedOf
import Derived.Handed
import Derived.Test.YtmnlkidfcnhhhaaRows
set_option linter.unusedVariables false
set_option linter.unusedSimpArgs false
/- Shortest walks to a node: what the program's search finds. -/
namespace Go.AM
def Wl (n : Nat) (t : List (List Bool)) (f : Nat) : Nat → Nat → Prop
  | 0, a => a = f
  | m + 1, a => ∃ b, b < n ∧ atT t a b = true ∧ Wl n t f m b
theorem Wl.add {n : Nat} {t : List (List Bool)} {f g : Nat} : ∀ {m k a : Nat}, Wl n t g m a → Wl n t f k g → Wl n t f (m + k) a
  | 0, k, a, h, h2 => by
    have : a = g := h
    subst this; rw [Nat.zero_add]; exact h2
  | m + 1, k, a, ⟨b, hb, h1, h3⟩, h2 => by
    rw [show m + 1 + k = (m + k) + 1 by omega]
    exact ⟨b, hb, h1, h3.add h2⟩
theorem Wl.clos {n : Nat} {t : List (List Bool)} (hs : Sq n t) {f : Nat} (hf : f < n) : ∀ {m a : Nat}, a < n → Wl n t f (m + 1) a → atT (warsh n t) a f = true
  | 0, a, ha, ⟨b, hb, h1, h2⟩ => by
    have : b = f := h2
    subst this; exact warsh_sub hs ha hb h1
  | m + 1, a, ha, ⟨b, hb, h1, h2⟩ => warsh_trans hs ha hb hf (warsh_sub hs ha hb h1) (h2.clos hs hf hb)
theorem clos_Wl {n : Nat} {t : List (List Bool)} (hs : Sq n t) {a f : Nat} (ha : a < n) (hf : f < n) (h : atT (warsh n t) a f = true) : ∃ m, Wl n t f (m + 1) a :=
  warsh_least hs (S := fun i j => ∃ m, Wl n t j (m + 1) i) (fun i j hi hj h1 => ⟨0, j, hj, h1, rfl⟩)
    (fun i k j hi hk hj ⟨m, h1⟩ ⟨m', h2⟩ => ⟨m + 1 + m', by have := h1.add h2; rw [show m + 1 + (m' + 1) = m + 1 + m' + 1 by omega] at this; exact this⟩) ha hf h
structure Dst (n : Nat) (t : List (List Bool)) (f m a : Nat) : Prop where
  pos : 0 < m
  wl : Wl n t f m a
  le : ∀ k, 0 < k → Wl n t f k a → m ≤ k
theorem Dst.uniq {n : Nat} {t : List (List Bool)} {f m m' a : Nat} (h : Dst n t f m a) (h' : Dst n t f m' a) : m = m' :=
  Nat.le_antisymm (h.le _ h'.pos h'.wl) (h'.le _ h.pos h.wl)
theorem Dst.next {n : Nat} {t : List (List Bool)} {f m a : Nat} (h : Dst n t f (m + 2) a) : ∃ b, b < n ∧ atT t a b = true ∧ Dst n t f (m + 1) b := by
  obtain ⟨b, hb, h1, h2⟩ := h.wl
  refine ⟨b, hb, h1, by omega, h2, fun k hk hw => ?_⟩
  have := h.le (k + 1) (by omega) ⟨b, hb, h1, hw⟩
  omega
theorem Dst.one {n : Nat} {t : List (List Bool)} {f a : Nat} (h : Dst n t f 1 a) : atT t a f = true := by
  obtain ⟨b, hb, h1, h2⟩ := h.wl
  have : b = f := h2
  subst this; exact h1
theorem Dst.list {n : Nat} {t : List (List Bool)} {f : Nat} : ∀ {m a : Nat}, a < n → Dst n t f (m + 1) a → ∃ l : List Nat, l.length = m + 1 ∧ l.Nodup ∧ ∀ x ∈ l, x < n ∧ ∃ k, k ≤ m + 1 ∧ Dst n t f k x
  | 0, a, ha, h => ⟨[a], rfl, by simp, fun x hx => by simp at hx; subst hx; exact ⟨ha, 1, Nat.le_refl _, h⟩⟩
  | m + 1, a, ha, h => by
    obtain ⟨b, hb, _, h2⟩ := h.next
    obtain ⟨l, h3, h4, h5⟩ := h2.list hb
    refine ⟨a :: l, by simp [h3], ?_, fun x hx => ?_⟩
    · rw [List.nodup_cons]
      refine ⟨fun hal => ?_, h4⟩
      obtain ⟨_, k, hk, hd⟩ := h5 a hal
      have := hd.uniq h; omega
    · rcases List.mem_cons.1 hx with rfl | hx
      · exact ⟨ha, _, Nat.le_refl _, h⟩
      · obtain ⟨h6, k, hk, hd⟩ := h5 x hx
        exact ⟨h6, k, by omega, hd⟩
theorem Dst.bnd {n : Nat} {t : List (List Bool)} {f m a : Nat} (ha : a < n) (h : Dst n t f m a) : m ≤ n := by
  obtain ⟨m, rfl⟩ : ∃ m', m = m' + 1 := ⟨m - 1, by have := h.pos; omega⟩
  obtain ⟨l, h1, h2, h3⟩ := h.list ha
  rw [← h1]
  exact nodup_nat n l h2 fun x hx => (h3 x hx).1
theorem exists_least {p : Nat → Prop} : ∀ (m k : Nat), k ≤ m → p k → ∃ j, p j ∧ ∀ i, p i → j ≤ i
  | 0, k, hk, h => ⟨k, h, fun i _ => by omega⟩
  | m + 1, k, hk, h => by
    rcases Classical.em (∃ i, i < k ∧ p i) with ⟨i, hi, h2⟩ | h2
    · exact exists_least m i (by omega) h2
    · exact ⟨k, h, fun i hi => by rcases Nat.lt_or_ge i k with h3 | h3; exact absurd ⟨i, h3, hi⟩ h2; exact h3⟩
theorem Wl.dst {n : Nat} {t : List (List Bool)} {f m a : Nat} (h : Wl n t f (m + 1) a) : ∃ k, Dst n t f k a := by
  obtain ⟨j, hj, hm⟩ := exists_least (p := fun k => 0 < k ∧ Wl n t f k a) (m + 1) (m + 1) (Nat.le_refl _) ⟨by omega, h⟩
  exact ⟨j, hj.1, hj.2, fun k hk hw => hm k ⟨hk, hw⟩⟩
/-- The search's invariant: it works at the queue's k-th entry, and has asked m nodes. -/
structure BI (n : Nat) (t : List (List Bool)) (f k m : Nat) (st : CSt) : Prop where
  wf : WfC n f st
  hd : 0 < st.2.1.length ∧ st.2.1.getD 0 0 = f
  tl : ∀ q, 0 < q → q < st.2.1.length → st.2.1.getD q 0 ≠ f ∧ 1 ≤ st.1.getD (st.2.1.getD q 0).toNat 0
  mem : ∀ i, i < n → i ≠ f → 1 ≤ st.1.getD i 0 → ∃ q, 0 < q ∧ q < st.2.1.length ∧ st.2.1.getD q 0 = (i : Int)
  neg : ∀ i, i < n → st.1.getD i 0 = -1 ∨ 1 ≤ st.1.getD i 0
  nf : st.1.getD f 0 = -1
  wk : ∀ i, i < n → 1 ≤ st.1.getD i 0 → Wl n t f (st.1.getD i 0).toNat i
  mono : ∀ p q, p ≤ q → q < st.2.1.length → cycAt p st ≤ cycAt q st
  bnd : k < st.2.1.length → (∀ q, q < st.2.1.length → cycAt q st ≤ cycAt k st + 1) ∧ st.2.2 ≤ cycAt k st + 1
  proc : ∀ q i, i < n → q < st.2.1.length → (q < k ∨ q = k ∧ i < m) → atT t i (st.2.1.getD q 0).toNat = true → if i = f then 1 ≤ st.2.2 ∧ st.2.2 ≤ cycAt q st + 1 else 1 ≤ st.1.getD i 0 ∧ st.1.getD i 0 ≤ cycAt q st + 1
  ln : st.2.2 = 0 ∨ 1 ≤ st.2.2 ∧ Wl n t f st.2.2.toNat f
theorem BI.start {n : Nat} {t : List (List Bool)} {f : Nat} (hf : f < n) : BI n t f 0 0 (cyc0 n f) := by
  have hr : ∀ i, i < n → (cyc0 n f).1.getD i 0 = -1 := fun i hi => by simp [cyc0, List.getD_eq_getElem?_getD, List.getElem?_replicate, hi]
  refine ⟨WfC.start (by omega) (by omega), by simp [cyc0], fun q hq hl => ?_, fun i hi _ h => ?_, fun i hi => .inl (hr i hi), hr f hf, fun i hi h => ?_, fun p q hp hq => ?_, fun _ => ⟨fun q hq => ?_, ?_⟩, fun q i _ _ h => ?_, .inl rfl⟩
  · simp [cyc0] at hl; omega
  · have := hr i hi; omega
  · have := hr i hi; omega
  · simp [cyc0] at hq; subst hq
    have : p = 0 := by omega
    subst this; exact Int.le_refl _
  · simp [cyc0] at hq; subst hq; simp [cycAt]
  · simp [cycAt, cyc0]
  · omega
theorem BI.hw {n : Nat} {t : List (List Bool)} {f k m : Nat} {st : CSt} (h : BI n t f k m st) {q : Nat} (hq : q < st.2.1.length) : 0 ≤ cycAt q st ∧ Wl n t f (cycAt q st).toNat (st.2.1.getD q 0).toNat := by
  unfold cycAt
  by_cases h0 : 0 < q
  · rw [if_pos h0]
    have h1 := h.tl q h0 hq
    have h2 := h.wf.rng _ (mem_getD (l := st.2.1) hq 0)
    exact ⟨by omega, h.wk _ (by omega) h1.2⟩
  · rw [if_neg h0]
    have : q = 0 := by omega
    subst this
    rw [h.hd.2]; exact ⟨Int.le_refl _, rfl⟩
theorem BI.next {n : Nat} {t : List (List Bool)} {f k : Nat} {st : CSt} (h : BI n t f k n st) (hk : k < st.2.1.length) : BI n t f (k + 1) 0 st := by
  refine ⟨h.wf, h.hd, h.tl, h.mem, h.neg, h.nf, h.wk, h.mono, fun hk2 => ?_, fun q i hi hq hqk => h.proc q i hi hq (by omega), h.ln⟩
  have h1 := h.mono k (k + 1) (by omega) hk2
  obtain ⟨h2, h3⟩ := h.bnd hk
  exact ⟨fun q hq => by have := h2 q hq; omega, by omega⟩
theorem BI.step {n : Nat} {t : List (List Bool)} {f k m : Nat} {st : CSt} (hf : f < n) (h : BI n t f k m st) (hk : k < st.2.1.length) (hm : m < n) : BI n t f k (m + 1) (cycI t f (cycAt k st) (st.2.1.getD k 0) m st) ∧ cycAt k (cycI t f (cycAt k st) (st.2.1.getD k 0) m st) = cycAt k st := by
  have hwf := (h.wf.i t (st.2.1.getD k 0) hm (h.wf.at k).1 (h.wf.at k).2).1
  rw [cycI_eq] at hwf ⊢
  obtain ⟨hk0, hkw⟩ := h.hw hk
  obtain ⟨hb1, hb2⟩ := h.bnd hk
  by_cases he : atT t m (st.2.1.getD k 0).toNat = true
  · rw [if_pos he] at hwf ⊢
    by_cases hmf : m = f
    · subst hmf
      have hc : ¬ ((m : Int) ≠ (m : Int) ∧ st.1.getD m 0 < 0) := by omega
      rw [if_neg hc] at hwf ⊢
      obtain ⟨L, hL⟩ : ∃ L : Int, L = if (m : Int) = (m : Int) ∧ st.2.2 = 0 then cycAt k st + 1 else st.2.2 := ⟨_, rfl⟩
      rw [← hL] at hwf ⊢
      have hLL : (st.2.2 = 0 ∧ L = cycAt k st + 1) ∨ (1 ≤ st.2.2 ∧ L = st.2.2) := by
        have := h.wf.ln
        rw [hL]; split <;> omega
      have hca : ∀ q, cycAt q (st.1, st.2.1, L) = cycAt q st := fun q => rfl
      refine ⟨⟨hwf, h.hd, h.tl, h.mem, h.neg, h.nf, h.wk, h.mono, fun _ => ⟨hb1, ?_⟩, fun q i hi hq hqk hed => ?_, ?_⟩, rfl⟩
      · rw [hca]; show L ≤ _; omega
      · rw [hca]
        have hold := h.proc q i hi hq
        show if i = m then 1 ≤ L ∧ L ≤ cycAt q st + 1 else 1 ≤ st.1.getD i 0 ∧ st.1.getD i 0 ≤ cycAt q st + 1
        by_cases hif : i = m
        · subst hif
          rw [if_pos rfl] at hold ⊢
          rcases Classical.em (q < k ∨ q = k ∧ i < i) with h3 | h3
          · have := hold h3 hed; omega
          · have : q = k := by omega
            subst this; omega
        · rw [if_neg hif] at hold ⊢
          exact hold (by omega) hed
      · show L = 0 ∨ 1 ≤ L ∧ Wl n t m L.toNat m
        rcases hLL with ⟨h1, h2⟩ | ⟨h1, h2⟩
        · rw [h2]
          refine .inr ⟨by omega, ?_⟩
          rw [show (cycAt k st + 1).toNat = (cycAt k st).toNat + 1 by omega]
          have h2 := h.wf.rng _ (mem_getD (l := st.2.1) hk 0)
          exact ⟨_, by omega, he, hkw⟩
        · rw [h2]; exact h.ln
    · have hln : (if (m : Int) = (f : Int) ∧ st.2.2 = 0 then cycAt k st + 1 else st.2.2) = st.2.2 := if_neg (by omega)
      rw [hln] at hwf ⊢
      by_cases hng : st.1.getD m 0 < 0
      · have hc : (m : Int) ≠ (f : Int) ∧ st.1.getD m 0 < 0 := ⟨by omega, hng⟩
        rw [if_pos hc] at hwf ⊢
        have hm1 : st.1.getD m 0 = -1 := by rcases h.neg m hm with h1 | h1 <;> omega
        have hml : m < st.1.length := by rw [h.wf.len]; exact hm
        have hQ : ∀ q, q < st.2.1.length → (st.2.1 ++ [(m : Int)]).getD q 0 = st.2.1.getD q 0 := fun q hq => by rw [Go.AM.getD_append, if_pos hq]
        have hQn : (st.2.1 ++ [(m : Int)]).getD st.2.1.length 0 = m := by rw [Go.AM.getD_append, if_neg (by omega), Nat.sub_self]; rfl
        have hQl : (st.2.1 ++ [(m : Int)]).length = st.2.1.length + 1 := by simp
        have hS : ∀ i, i ≠ m → (st.1.set m (cycAt k st + 1)).getD i 0 = st.1.getD i 0 := fun i hi => Go.AM.getD_set_ne (fun e => hi e.symm) _ _
        have hSm : (st.1.set m (cycAt k st + 1)).getD m 0 = cycAt k st + 1 := Go.AM.getD_set_eq hml _ _
        have hnm : ∀ q, 0 < q → q < st.2.1.length → (st.2.1.getD q 0).toNat ≠ m := fun q h0 hq e => by
          have := (h.tl q h0 hq).2; rw [e] at this; omega
        have hca : ∀ q, q < st.2.1.length → cycAt q (st.1.set m (cycAt k st + 1), st.2.1 ++ [(m : Int)], st.2.2) = cycAt q st := fun q hq => by
          unfold cycAt
          by_cases h0 : 0 < q
          · rw [if_pos h0, if_pos h0]; show (st.1.set m (cycAt k st + 1)).getD ((st.2.1 ++ [(m : Int)]).getD q 0).toNat 0 = _
            rw [hQ q hq, hS _ (hnm q h0 hq)]
          · rw [if_neg h0, if_neg h0]
        have hcn : cycAt st.2.1.length (st.1.set m (cycAt k st + 1), st.2.1 ++ [(m : Int)], st.2.2) = cycAt k st + 1 := by
          show (if 0 < st.2.1.length then (st.1.set m (cycAt k st + 1)).getD ((st.2.1 ++ [(m : Int)]).getD st.2.1.length 0).toNat 0 else 0) = _
          rw [if_pos h.hd.1, hQn]; exact hSm
        have hcs : ∀ q, q < st.2.1.length + 1 → q < st.2.1.length ∨ q = st.2.1.length := fun q hq => by omega
        refine ⟨⟨hwf, ⟨by rw [hQl]; omega, by rw [hQ 0 h.hd.1]; exact h.hd.2⟩, fun q h0 hq => ?_, fun i hi hif hs => ?_, fun i hi => ?_, ?_, fun i hi hs => ?_, fun p q hpq hq => ?_, fun _ => ⟨fun q hq => ?_, ?_⟩, fun q i hi hq hqk hed => ?_, h.ln⟩, hca k hk⟩
        · show (st.2.1 ++ [(m : Int)]).getD q 0 ≠ f ∧ 1 ≤ (st.1.set m (cycAt k st + 1)).getD ((st.2.1 ++ [(m : Int)]).getD q 0).toNat 0
          rw [hQl] at hq
          rcases hcs q hq with hq | rfl
          · rw [hQ q hq, hS _ (hnm q h0 hq)]; exact h.tl q h0 hq
          · rw [hQn]; refine ⟨by omega, ?_⟩
            show 1 ≤ (st.1.set m (cycAt k st + 1)).getD m 0
            rw [hSm]; omega
        · show ∃ q, 0 < q ∧ q < (st.2.1 ++ [(m : Int)]).length ∧ (st.2.1 ++ [(m : Int)]).getD q 0 = (i : Int)
          rw [hQl]
          by_cases him : i = m
          · subst him; exact ⟨_, h.hd.1, by omega, hQn⟩
          · have hs : 1 ≤ (st.1.set m (cycAt k st + 1)).getD i 0 := hs
            rw [hS i him] at hs
            obtain ⟨q, h1, h2, h3⟩ := h.mem i hi hif hs
            exact ⟨q, h1, by omega, by rw [hQ q h2]; exact h3⟩
        · show (st.1.set m (cycAt k st + 1)).getD i 0 = -1 ∨ 1 ≤ (st.1.set m (cycAt k st + 1)).getD i 0
          by_cases him : i = m
          · subst him; rw [hSm]; omega
          · rw [hS i him]; exact h.neg i hi
        · show (st.1.set m (cycAt k st + 1)).getD f 0 = -1
          rw [hS f (fun e => hmf e.symm)]; exact h.nf
        · have hs : 1 ≤ (st.1.set m (cycAt k st + 1)).getD i 0 := hs
          show Wl n t f ((st.1.set m (cycAt k st + 1)).getD i 0).toNat i
          by_cases him : i = m
          · subst him
            rw [hSm, show (cycAt k st + 1).toNat = (cycAt k st).toNat + 1 by omega]
            have h2 := h.wf.rng _ (mem_getD (l := st.2.1) hk 0)
            exact ⟨_, by omega, he, hkw⟩
          · rw [hS i him] at hs ⊢; exact h.wk i hi hs
        · have hq : q < (st.2.1 ++ [(m : Int)]).length := hq
          rw [hQl] at hq
          rcases hcs q hq with hq | rfl
          · rw [hca q hq, hca p (by omega)]; exact h.mono p q hpq hq
          · rcases hcs p (by omega) with hp | rfl
            · rw [hca p hp, hcn]; exact hb1 p hp
            · exact Int.le_refl _
        · have hq : q < (st.2.1 ++ [(m : Int)]).length := hq
          rw [hQl] at hq
          rw [hca k hk]
          rcases hcs q hq with hq | rfl
          · rw [hca q hq]; exact hb1 q hq
          · rw [hcn]; exact Int.le_refl _
        · rw [hca k hk]; exact hb2
        · have hq : q < (st.2.1 ++ [(m : Int)]).length := hq
          rw [hQl] at hq
          have hql : q < st.2.1.length := by omega
          replace hed : atT t i ((st.2.1 ++ [(m : Int)]).getD q 0).toNat = true := hed
          rw [hQ q hql] at hed
          rw [hca q hql]
          show if i = f then 1 ≤ st.2.2 ∧ st.2.2 ≤ cycAt q st + 1 else 1 ≤ (st.1.set m (cycAt k st + 1)).getD i 0 ∧ (st.1.set m (cycAt k st + 1)).getD i 0 ≤ cycAt q st + 1
          by_cases him : i = m
          · subst him
            rw [if_neg hmf, hSm]
            rcases Classical.em (q < k ∨ q = k ∧ i < i) with h3 | h3
            · have := h.proc q i hi hql h3 hed
              rw [if_neg hmf] at this; omega
            · have : q = k := by omega
              subst this; omega
          · rw [hS i him]; exact h.proc q i hi hql (by omega) hed
      · rw [if_neg (fun x => hng x.2)] at hwf ⊢
        refine ⟨⟨h.wf, h.hd, h.tl, h.mem, h.neg, h.nf, h.wk, h.mono, h.bnd, fun q i hi hq hqk hed => ?_, h.ln⟩, rfl⟩
        rcases Classical.em (q < k ∨ q = k ∧ i < m) with h3 | h3
        · exact h.proc q i hi hq h3 hed
        · have h4 : q = k ∧ i = m := by omega
          obtain ⟨rfl, rfl⟩ := h4
          rw [if_neg hmf]
          have h1 : 1 ≤ st.1.getD i 0 := by rcases h.neg i hi with h1 | h1 <;> omega
          obtain ⟨p, hp0, hp1, hp2⟩ := h.mem i hi hmf h1
          have := hb1 p hp1
          have hcp : cycAt p st = st.1.getD i 0 := by unfold cycAt; rw [if_pos hp0, hp2]; rfl
          rw [hcp] at this
          exact ⟨h1, this⟩
  · rw [if_neg he] at hwf ⊢
    refine ⟨⟨h.wf, h.hd, h.tl, h.mem, h.neg, h.nf, h.wk, h.mono, h.bnd, fun q i hi hq hqk hed => ?_, h.ln⟩, rfl⟩
    rcases Classical.em (q < k ∨ q = k ∧ i < m) with h3 | h3
    · exact h.proc q i hi hq h3 hed
    · have h4 : q = k ∧ i = m := by omega
      obtain ⟨rfl, rfl⟩ := h4
      exact absurd hed he
end Go.AM

/- The program's search and the reference's rounds both find the distances. -/
namespace Go.AM
theorem BI.all {n : Nat} {t : List (List Bool)} {f k : Nat} {st : CSt} (hf : f < n) (h : BI n t f k 0 st) (hk : k < st.2.1.length) : ∀ m, m ≤ n → BI n t f k m (iter (cycI t f (cycAt k st) (st.2.1.getD k 0)) m st) ∧ cycAt k (iter (cycI t f (cycAt k st) (st.2.1.getD k 0)) m st) = cycAt k st ∧ k < (iter (cycI t f (cycAt k st) (st.2.1.getD k 0)) m st).2.1.length ∧ (iter (cycI t f (cycAt k st) (st.2.1.getD k 0)) m st).2.1.getD k 0 = st.2.1.getD k 0
  | 0, _ => ⟨h, rfl, hk, rfl⟩
  | m + 1, hm => by
    obtain ⟨h1, h2, h3, h4⟩ := BI.all hf h hk m (by omega)
    obtain ⟨_, h6, h7⟩ := h.wf.k' t (st.2.1.getD k 0) (h.wf.at k).1 (h.wf.at k).2 (m + 1) hm
    have h5 := h1.step hf h3 (show m < n by omega)
    rw [h2, h4] at h5
    have hg : st.2.1[k]? = some (st.2.1.getD k 0) := by rw [List.getElem?_eq_getElem hk]; simp [List.getD_eq_getElem?_getD, hk]
    have h8 := h7 k _ hg
    have h9 := (List.getElem?_eq_some_iff.1 h8).1
    refine ⟨h5.1, h5.2, h9, ?_⟩
    rw [List.getD_eq_getElem?_getD, h8]; rfl
theorem cycB_BI {n : Nat} {t : List (List Bool)} {f : Nat} (hf : f < n) {r : CSt} : ∀ (m k : Nat) (st : CSt), BI n t f k 0 st → cycB t n f m k st = some r → ∃ k', r.2.1.length ≤ k' ∧ BI n t f k' 0 r
  | 0, k, st, h, hr => by
    unfold cycB at hr
    split at hr
    · cases hr
    · exact ⟨k, by have := Option.some.inj hr; subst this; omega, by rw [← Option.some.inj hr]; exact h⟩
  | m + 1, k, st, h, hr => by
    unfold cycB at hr
    split at hr
    · rename_i hk
      obtain ⟨h1, _, h3, _⟩ := h.all hf hk n (Nat.le_refl _)
      exact cycB_BI hf m (k + 1) _ (h1.next h3) hr
    · exact ⟨k, by have := Option.some.inj hr; subst this; omega, by rw [← Option.some.inj hr]; exact h⟩
theorem BI.low {n : Nat} {t : List (List Bool)} {f k : Nat} {st : CSt} (h : BI n t f k 0 st) (hk : st.2.1.length ≤ k) : ∀ m a, a < n → Wl n t f (m + 1) a → if a = f then 1 ≤ st.2.2 ∧ st.2.2 ≤ (m + 1 : Nat) else 1 ≤ st.1.getD a 0 ∧ st.1.getD a 0 ≤ (m + 1 : Nat) := by
  have h0 : ∀ m a, a < n → atT t a f = true → if a = f then 1 ≤ st.2.2 ∧ st.2.2 ≤ (m + 1 : Nat) else 1 ≤ st.1.getD a 0 ∧ st.1.getD a 0 ≤ (m + 1 : Nat) := fun m a ha he => by
    have := h.proc 0 a ha h.hd.1 (by have := h.hd.1; omega) (by rw [h.hd.2]; exact he)
    have e : cycAt 0 st = 0 := rfl
    rw [e] at this
    split at this
    · rw [if_pos (by assumption)]; omega
    · rw [if_neg (by assumption)]; omega
  intro m
  induction m with
  | zero =>
    intro a ha ⟨b, hb, h1, h2⟩
    have : b = f := h2
    subst this; exact h0 0 a ha h1
  | succ m ih =>
    intro a ha ⟨b, hb, h1, h2⟩
    by_cases hbf : b = f
    · subst hbf; exact h0 _ a ha h1
    · have h3 := ih b hb h2
      rw [if_neg hbf] at h3
      obtain ⟨q, hq0, hq1, hq2⟩ := h.mem b hb hbf h3.1
      have := h.proc q a ha hq1 (by omega) (by rw [hq2]; exact h1)
      have hcp : cycAt q st = st.1.getD b 0 := by unfold cycAt; rw [if_pos hq0, hq2]; rfl
      rw [hcp] at this
      split at this
      · rw [if_pos (by assumption)]; omega
      · rw [if_neg (by assumption)]; omega
/-- What the search knows. -/
structure Kn (n : Nat) (t : List (List Bool)) (f L : Nat) (steps : List Int) : Prop where
  st : ∀ i, i < n → i ≠ f → ∀ m : Nat, 0 < m → (steps.getD i 0 = (m : Int) ↔ Dst n t f m i)
  ln : Dst n t f L f
theorem cyc_Kn {n : Nat} {t : List (List Bool)} (hs : Sq n t) {f : Nat} (hf : firstC n t = some f) {r : CSt} (hr : cycB t n f (n + 2) 0 (cyc0 n f) = some r) : ∃ L : Nat, r.2.2 = (L : Int) ∧ Kn n t f L r.1 := by
  obtain ⟨hfn, hf1, _⟩ := find_range_lt (p := fun i => atT (warsh n t) i i) hf
  obtain ⟨k, hk, h⟩ := cycB_BI hfn _ _ _ (BI.start hfn) hr
  have hlow := h.low hk
  obtain ⟨m, hm⟩ := clos_Wl hs hfn hfn hf1
  have hfl := hlow m f hfn hm
  rw [if_pos rfl] at hfl
  refine ⟨r.2.2.toNat, by omega, fun i hi hif m hm => ⟨fun he => ⟨hm, ?_, fun k hk hw => ?_⟩, fun hd => ?_⟩, ?_⟩
  · have := h.wk i hi (by omega)
    rw [he] at this; exact this
  · have := hlow (k - 1) i hi (by rw [show k - 1 + 1 = k by omega]; exact hw)
    rw [if_neg hif] at this; omega
  · have := hlow (m - 1) i hi (by rw [show m - 1 + 1 = m by omega]; exact hd.wl)
    rw [if_neg hif] at this
    have h2 := hd.le _ (by omega) (h.wk i hi (by omega))
    omega
  · rcases h.ln with h0 | ⟨h1, h2⟩
    · omega
    · refine ⟨by omega, h2, fun k hk hw => ?_⟩
      have := hlow (k - 1) f hfn (by rw [show k - 1 + 1 = k by omega]; exact hw)
      rw [if_pos rfl] at this; omega
/-- The reference's rounds. -/
structure FI (n : Nat) (t : List (List Bool)) (f r a b : Nat) (F : List Int) : Prop where
  len : F.length = n
  rng : ∀ x, x < n → 1 ≤ F.getD x 0 ∧ F.getD x 0 ≤ n + 1
  wl : ∀ x, x < n → F.getD x 0 ≤ n → Wl n t f (F.getD x 0).toNat x
  low : ∀ x, x < n → ∀ k : Nat, 0 < k → k ≤ r + 1 → Wl n t f k x → F.getD x 0 ≤ k
  now : ∀ x, x < n → x < a → ∀ k : Nat, 0 < k → k ≤ r + 2 → Wl n t f k x → F.getD x 0 ≤ k
  cur : a < n → ∀ y, y < n → y < b → atT t a y = true → ∀ k : Nat, 0 < k → k ≤ r + 1 → Wl n t f k y → F.getD a 0 ≤ k + 1
theorem FI.start {n : Nat} {t : List (List Bool)} {f : Nat} (hf : f < n) {F : List Int} (hl : F.length = n) (hF : ∀ x, x < n → F.getD x 0 = if atT t x f then 1 else (n : Int) + 1) : FI n t f 0 0 0 F := by
  refine ⟨hl, fun x hx => ?_, fun x hx h => ?_, fun x hx k hk0 hk hw => ?_, fun x _ h => by omega, fun _ y _ h => by omega⟩
  · rw [hF x hx]; split <;> omega
  · rw [hF x hx] at h ⊢
    split
    · exact ⟨f, hf, by assumption, rfl⟩
    · rename_i hb; rw [if_neg hb] at h; omega
  · have : k = 1 := by omega
    subst this
    obtain ⟨b, hb, h1, h2⟩ := hw
    have : b = f := h2
    subst this
    rw [hF x hx, if_pos h1]; omega
theorem FI.same {n : Nat} {t : List (List Bool)} {f r a b : Nat} {F : List Int} (h : FI n t f r a b F) (hn : atT t a b = true → F.getD a 0 ≤ F.getD b 0 + 1) (hb : b < n) : FI n t f r a (b + 1) F := by
  refine ⟨h.len, h.rng, h.wl, h.low, h.now, fun ha y hy hyb he k hk0 hk hw => ?_⟩
  by_cases e : y = b
  · subst e
    have := h.low y hy k hk0 hk hw
    have := hn he
    omega
  · exact h.cur ha y hy (by omega) he k hk0 hk hw
theorem FI.set {n : Nat} {t : List (List Bool)} {f r a b : Nat} {F : List Int} (h : FI n t f r a b F) (he : atT t a b = true) (hlt : F.getD b 0 + 1 < F.getD a 0) (ha : a < n) (hb : b < n) : FI n t f r a (b + 1) (F.set a (F.getD b 0 + 1)) := by
  have hab : b ≠ a := by rintro rfl; omega
  have hS : (F.set a (F.getD b 0 + 1)).getD a 0 = F.getD b 0 + 1 := Go.AM.getD_set_eq (by rw [h.len]; exact ha) _ _
  have hN : ∀ x, x ≠ a → (F.set a (F.getD b 0 + 1)).getD x 0 = F.getD x 0 := fun x hx => Go.AM.getD_set_ne (fun e => hx e.symm) _ _
  have hle : ∀ x, (F.set a (F.getD b 0 + 1)).getD x 0 ≤ F.getD x 0 := fun x => by
    by_cases e : x = a
    · subst e; rw [hS]; omega
    · rw [hN x e]; omega
  have hra := h.rng a ha
  have hrb := h.rng b hb
  refine ⟨by simp [h.len], fun x hx => ?_, fun x hx hxn => ?_, fun x hx k h0 h1 h2 => Int.le_trans (hle x) (h.low x hx k h0 h1 h2), fun x hx hxa k h0 h1 h2 => Int.le_trans (hle x) (h.now x hx hxa k h0 h1 h2), fun _ y hy hyb he2 k hk0 hk hw => ?_⟩
  · by_cases e : x = a
    · subst e; rw [hS]; omega
    · rw [hN x e]; exact h.rng x hx
  · by_cases e : x = a
    · subst e
      rw [hS] at hxn ⊢
      rw [show (F.getD b 0 + 1).toNat = (F.getD b 0).toNat + 1 by omega]
      exact ⟨b, hb, he, h.wl b hb (by omega)⟩
    · rw [hN x e] at hxn ⊢; exact h.wl x hx hxn
  · rw [hS]
    by_cases e : y = b
    · subst e
      have := h.low y hy k hk0 hk hw
      omega
    · have := h.cur ha y hy (by omega) he2 k hk0 hk hw
      omega
theorem FI.row {n : Nat} {t : List (List Bool)} {f r a : Nat} {F : List Int} (h : FI n t f r a n F) (ha : a < n) : FI n t f r (a + 1) 0 F := by
  refine ⟨h.len, h.rng, h.wl, h.low, fun x hx hxa k h0 h1 hw => ?_, fun _ y _ h => by omega⟩
  by_cases e : x = a
  · subst e
    obtain ⟨k, rfl⟩ : ∃ k', k = k' + 1 := ⟨k - 1, by omega⟩
    by_cases hk : k = 0
    · subst hk; exact h.low x hx 1 (by omega) (by omega) hw
    · obtain ⟨b, hb, h2, h3⟩ := hw
      have := h.cur ha b hb hb h2 k (by omega) (by omega) h3
      omega
  · exact h.now x hx (by omega) k h0 h1 hw
theorem FI.round {n : Nat} {t : List (List Bool)} {f r : Nat} {F : List Int} (h : FI n t f r n 0 F) : FI n t f (r + 1) 0 0 F :=
  ⟨h.len, h.rng, h.wl, fun x hx k h0 h1 hw => h.now x hx hx k h0 (by omega) hw, fun x _ h => by omega, fun _ y _ h => by omega⟩
theorem FI.dist {n : Nat} {t : List (List Bool)} {f : Nat} {F : List Int} (h : FI n t f n 0 0 F) {a m : Nat} (ha : a < n) (hm : 0 < m) (hmn : m ≤ n) : F.getD a 0 = (m : Int) ↔ Dst n t f m a := by
  have hd : ∀ k, Dst n t f k a → F.getD a 0 = (k : Int) := fun k hk => by
    have hb := hk.bnd ha
    have h1 := h.low a ha k hk.pos (by omega) hk.wl
    have h2 := h.rng a ha
    have h3 := hk.le (F.getD a 0).toNat (by omega) (h.wl a ha (by omega))
    omega
  constructor
  · intro he
    have hw := h.wl a ha (by omega)
    rw [he] at hw
    obtain ⟨m', rfl⟩ : ∃ k', m = k' + 1 := ⟨m - 1, by omega⟩
    obtain ⟨k, hk⟩ := Wl.dst hw
    have := hd k hk
    have : k = m' + 1 := by omega
    subst this; exact hk
  · exact hd m
/-- The walk that is written down. -/
structure OutI (n : Nat) (t : List (List Bool)) (f L : Nat) (O : List Int) : Prop where
  len : 0 < O.length ∧ O.length ≤ L
  hd : O.getD 0 0 = f
  at_ : ∀ k, k < O.length → ∃ x : Nat, O.getD k 0 = (x : Int) ∧ x < n ∧ Dst n t f (L - k) x ∧ (k = 0 ∨ atT (warsh n t) f x = true)
  edg : ∀ k, k + 1 < O.length → atT t (O.getD k 0).toNat (O.getD (k + 1) 0).toNat = true
theorem OutI.start {n : Nat} {t : List (List Bool)} {f L : Nat} (hf : f < n) (hL : Dst n t f L f) : OutI n t f L [(f : Int)] :=
  ⟨⟨by simp, hL.pos⟩, rfl, fun k hk => by simp at hk; subst hk; exact ⟨f, rfl, hf, hL, .inl rfl⟩, fun k hk => by simp at hk⟩
theorem OutI.last {n : Nat} {t : List (List Bool)} {f L : Nat} {O : List Int} (h : OutI n t f L O) : ∃ x : Nat, lastO O = (x : Int) ∧ x < n ∧ Dst n t f (L - O.length + 1) x ∧ (O.length = 1 ∨ atT (warsh n t) f x = true) ∧ (O.length = 1 → x = f) := by
  obtain ⟨x, h1, h2, h3, h4⟩ := h.at_ (O.length - 1) (by have := h.len; omega)
  have hl := h.len
  refine ⟨x, h1, h2, by rw [show L - O.length + 1 = L - (O.length - 1) by omega]; exact h3, h4.imp (fun e => by omega) id, fun e => ?_⟩
  have h5 : O.getD 0 0 = (x : Int) := by rw [← h1, e]
  have := h.hd
  omega
theorem OutI.snoc {n : Nat} {t : List (List Bool)} (hs : Sq n t) {f L : Nat} (hf : f < n) {O : List Int} (h : OutI n t f L O) {x j : Nat} (hx : lastO O = (x : Int)) (hj : j < n) (he : atT t x j = true) (hd : Dst n t f (L - O.length) j) : OutI n t f L (O ++ [(j : Int)]) := by
  have hl := h.len
  have hp := hd.pos
  have hA : ∀ k, k < O.length → (O ++ [(j : Int)]).getD k 0 = O.getD k 0 := fun k hk => by rw [Go.AM.getD_append, if_pos hk]
  have hB : (O ++ [(j : Int)]).getD O.length 0 = j := by rw [Go.AM.getD_append, if_neg (by omega), Nat.sub_self]; rfl
  obtain ⟨x', hx1, hx2, hx3, hx4, hx5⟩ := h.last
  have hxx : x' = x := by omega
  subst hxx
  refine ⟨⟨by simp, by simp; omega⟩, by rw [hA 0 hl.1]; exact h.hd, fun k hk => ?_, fun k hk => ?_⟩
  · rw [List.length_append, List.length_singleton] at hk
    rcases Nat.lt_or_ge k O.length with h1 | h1
    · rw [hA k h1]; exact h.at_ k h1
    · have : k = O.length := by omega
      subst this
      rw [hB]
      refine ⟨j, rfl, hj, hd, .inr ?_⟩
      have hxj := warsh_sub hs hx2 hj he
      rcases hx4 with h4 | h4
      · have := hx5 h4; subst this; exact hxj
      · exact warsh_trans hs hf hx2 hj h4 hxj
  · rw [List.length_append, List.length_singleton] at hk
    rw [hA k (by omega)]
    rcases Nat.lt_or_ge (k + 1) O.length with h1 | h1
    · rw [hA _ h1]; exact h.edg k h1
    · have : k + 1 = O.length := by omega
      rw [this, hB]
      have hk2 : O.getD k 0 = (x' : Int) := by rw [← hx1]; unfold lastO; rw [← this]; rfl
      rw [hk2]; exact he
theorem OutI.next {n : Nat} {t : List (List Bool)} (hs : Sq n t) {f L : Nat} (hf : f < n) {steps : List Int} (hk : Kn n t f L steps) {O : List Int} (h : OutI n t f L O) (hl : O.length < L) : ∃ (x j : Nat), lastO O = (x : Int) ∧ x < n ∧ stepO t n f steps (lastO O) ((L - O.length : Nat) : Int) = some j ∧ j < n ∧ atT t x j = true ∧ Dst n t f (L - O.length) j ∧ (∀ i, i < j → ¬ (atT t x i = true ∧ Dst n t f (L - O.length) i)) ∧ OutI n t f L (O ++ [(j : Int)]) := by
  obtain ⟨x, h1, h2, h3, h4, _⟩ := h.last
  have h0 := h.len
  obtain ⟨m, hm⟩ : ∃ m, L - O.length = m + 1 := ⟨L - O.length - 1, by omega⟩
  rw [hm] at h3
  obtain ⟨b, hb, he, hd⟩ := h3.next
  rw [← hm] at hd
  have hkey : ∀ i, i < n → ((atT t (lastO O).toNat i && decide ((i : Int) ≠ f) && decide (steps.getD i 0 = ((L - O.length : Nat) : Int))) = true ↔ atT t x i = true ∧ Dst n t f (L - O.length) i) := fun i hi => by
    rw [h1]
    simp only [Bool.and_eq_true, decide_eq_true_eq, Int.toNat_natCast]
    constructor
    · rintro ⟨⟨h5, h6⟩, h7⟩
      exact ⟨h5, (hk.st i hi (by omega) _ (by omega)).1 h7⟩
    · rintro ⟨h5, h6⟩
      have hif : i ≠ f := by rintro rfl; have := h6.uniq hk.ln; omega
      exact ⟨⟨h5, by omega⟩, (hk.st i hi hif _ (by omega)).2 h6⟩
  cases hst : stepO t n f steps (lastO O) ((L - O.length : Nat) : Int) with
  | none =>
    have := find_range_none.1 hst b hb
    rw [(hkey b hb).2 ⟨he, hd⟩] at this; cases this
  | some j =>
    obtain ⟨h5, h6, h7⟩ := find_range_lt hst
    obtain ⟨h8, h9⟩ := (hkey j h5).1 h6
    exact ⟨x, j, h1, h2, rfl, h5, h8, h9, (fun i hi hc => by have h10 := h7 i hi; rw [(hkey i (by omega)).2 hc] at h10; cases h10), h.snoc hs hf h1 h5 h8 h9⟩
theorem outW_ok {n : Nat} {t : List (List Bool)} (hs : Sq n t) {f L : Nat} (hf : f < n) {steps : List Int} (hk : Kn n t f L steps) : ∀ (m : Nat) (O : List Int), OutI n t f L O → O.length + m = L → OutI n t f L (outW t n f steps m O) ∧ (outW t n f steps m O).length = L
  | 0, O, h, hl => ⟨h, (by omega : O.length = L)⟩
  | m + 1, O, h, hl => by
    obtain ⟨x, j, _, _, h3, _, _, _, _, h8⟩ := h.next hs hf hk (by omega)
    unfold outW
    rw [show ((m + 1 : Nat) : Int) = ((L - O.length : Nat) : Int) by omega, h3]
    exact outW_ok hs hf hk m _ h8 (by simp; omega)
/-- What holds of the cycle. -/
structure Cyl (n : Nat) (t : List (List Bool)) (f : Nat) (O : List Int) : Prop where
  len : 0 < O.length ∧ O.length ≤ n
  rng : ∀ k, k < O.length → 0 ≤ O.getD k 0 ∧ O.getD k 0 < n ∧ O.getD 0 0 ≤ O.getD k 0
  inj : ∀ p q, p < q → q < O.length → O.getD p 0 ≠ O.getD q 0
  edg : ∀ k, k < O.length → atT t (O.getD k 0).toNat (O.getD ((k + 1) % O.length) 0).toNat = true
theorem outW_Cyl {n : Nat} {t : List (List Bool)} (hs : Sq n t) {f L : Nat} (hf : firstC n t = some f) {steps : List Int} (hk : Kn n t f L steps) : Cyl n t f (outW t n f steps (L - 1) [(f : Int)]) := by
  obtain ⟨hfn, _, hf2⟩ := find_range_lt (p := fun i => atT (warsh n t) i i) hf
  have hp := hk.ln.pos
  obtain ⟨h, hl⟩ := outW_ok hs hfn hk (L - 1) _ (OutI.start hfn hk.ln) (by simp; omega)
  have hb := hk.ln.bnd hfn
  refine ⟨⟨by omega, by omega⟩, fun k hkl => ?_, fun p q hpq hq => ?_, fun k hkl => ?_⟩
  · obtain ⟨x, h1, h2, h3, h4⟩ := h.at_ k hkl
    rw [h1, h.hd]
    refine ⟨by omega, by omega, ?_⟩
    rcases h4 with h4 | h4
    · subst h4; have := h.hd; omega
    · rcases Nat.lt_or_ge x f with h5 | h5
      · have h6 := h3.wl
        have h7 := h3.pos
        rw [show L - k = L - k - 1 + 1 by omega] at h6
        have := warsh_trans hs h2 hfn h2 (h6.clos hs hfn h2) h4
        rw [hf2 x h5] at this; cases this
      · omega
  · obtain ⟨x, h1, h2, h3, _⟩ := h.at_ p (by omega)
    obtain ⟨y, h4, h5, h6, _⟩ := h.at_ q hq
    rw [h1, h4]
    intro e
    have e2 : x = y := by omega
    subst e2
    have := h3.uniq h6
    omega
  · rcases Nat.lt_or_ge (k + 1) (outW t n f steps (L - 1) [(f : Int)]).length with h1 | h1
    · rw [Nat.mod_eq_of_lt h1]; exact h.edg k h1
    · have hk1 : k + 1 = L := by omega
      rw [hl, hk1, Nat.mod_self, h.hd]
      obtain ⟨x, h2, h3, h4, _⟩ := h.at_ k hkl
      rw [h2]
      rw [show L - k = 1 by omega] at h4
      exact h4.one
end Go.AM

namespace Go.Proofs.R
open Go.AM Go
set_option maxRecDepth 100000
set_option maxHeartbeats 2000000
end Go.Proofs.R

namespace Go.Proofs.R
open Go.AM Go
set_option maxRecDepth 100000
set_option maxHeartbeats 2000000
theorem rcycle_r (n : Nat) (t : List (List Bool)) (hs : Sq n t) (hn : n ≤ 512) (f : Nat) (hf : firstC n t = some f) (r : CSt) (hr : cycB t n f (n + 2) 0 (cyc0 n f) = some r) :
    Reads Try.prog 35 false [.rsl 1 (rowsR t)] (.rsl 1 (ints (outW t n f r.1 (r.2.2 - 1).toNat [(f : Int)]))) := by
  have hlen := hs.len
  have hrl := rowsR_len t
  have hc := rclosure_r n t hs hn
  have hsw := hs.warsh
  have hwl := hsw.len
  have hcl := rowsR_len (warsh n t)
  obtain ⟨hfn, hf1, hf2⟩ := find_range_lt (p := fun i => atT (warsh n t) i i) hf
  obtain ⟨L, hL, hkn⟩ := cyc_Kn hs hf hr
  have hLb := hkn.ln.bnd hfn
  have hLp := hkn.ln.pos
  have hLt : (r.2.2 - 1).toNat = L - 1 := by omega
  rw [hLt]
  have honef : [[AV.int .i64 (f : Nat)]] = ints [(f : Int)] := rfl
  generalize hcw : warsh n t = c at *
  obtain ⟨res, hres⟩ : ∃ res, res = outW t n f r.1 (L - 1) [(f : Int)] := ⟨_, rfl⟩
  rw [← hres]
  refine Reads.body (rs := [.tmp 2]) Try.func35 rfl Try.ntmps35 rfl (by simp) ?_
  generalize hQr : retQ _ _ _ = Qr
  refine AW.seq fun K1 hK1 => ?_
  -- region 0
  refine AW.regionK 0 (fun _ => none) [0] [] ?_
  simp only [go_sem, reduceIte, reduceCtorEq, Nat.reduceAdd, Nat.reduceMul, Nat.reduceEqDiff, Nat.reduceLT, Nat.reduceLeDiff, Nat.reduceSub, Nat.reducePow, Nat.reduceBEq, Int.reduceToNat, List.reduceReplicate, hrl, hlen, hcl, hwl]
  repeat with_reducible refine cj ?_ ?_
  all_goals try first | omega
  refine hK1 _ _ _ ?_; clear hK1
  refine AW.seq fun K2 hK2 => ?_
  -- region 1
  refine AW.regionK 0 (fun _ => none) [0, 3] [] ?_
  simp only [go_sem, reduceIte, reduceCtorEq, Nat.reduceAdd, Nat.reduceMul, Nat.reduceEqDiff, Nat.reduceLT, Nat.reduceLeDiff, Nat.reduceSub, Nat.reducePow, Nat.reduceBEq, Int.reduceToNat, List.reduceReplicate, hrl, hlen, hcl, hwl]
  repeat with_reducible refine cj ?_ ?_
  all_goals try first | omega
  refine hK2 _ _ _ ?_; clear hK2
  refine AW.seq fun K3 hK3 => ?_
  -- region 2
  refine AW.regionK 0 (fun ii => if ii = 1 then some (.reads true (.rsl 1 (rowsR c))) else none) [0, 3, 4] [] ?_
  simp only [go_sem, reduceIte, reduceCtorEq, Nat.reduceAdd, Nat.reduceMul, Nat.reduceEqDiff, Nat.reduceLT, Nat.reduceLeDiff, Nat.reduceSub, Nat.reducePow, Nat.reduceBEq, Int.reduceToNat, List.reduceReplicate, hrl, hlen, hcl, hwl]
  repeat with_reducible refine cj ?_ ?_
  all_goals try first | (exact hc) | omega | exact ent (by kernel_rfl)
  refine hK3 _ _ _ ?_; clear hK3
  refine AW.seq fun K4 hK4 => ?_
  -- region 3
  refine AW.regionK 0 (fun _ => none) [0, 3, 4, 5] [] ?_
  simp only [go_sem, reduceIte, reduceCtorEq, Nat.reduceAdd, Nat.reduceMul, Nat.reduceEqDiff, Nat.reduceLT, Nat.reduceLeDiff, Nat.reduceSub, Nat.reducePow, Nat.reduceBEq, Int.reduceToNat, List.reduceReplicate, hrl, hlen, hcl, hwl]
  repeat with_reducible refine cj ?_ ?_
  all_goals try first | omega
  refine hK4 _ _ _ ?_; clear hK4
  refine AW.seq fun K5 hK5 => ?_
  refine AW.block ?_
  -- loop 1
  refine AW.loopE (fun mm ee ss kk => ∃ (i : Nat), f - i = mm ∧ ee = [(0, .rsl 1 (rowsR t)), (3, .int .i64 n), (4, .rsl 1 (rowsR c)), (5, .int .i64 (i : Nat))] ∧ ss = [] ∧ (i ≤ f)) ?_ ?_
  · refine ⟨_, 0, rfl, ?henv, ?hstore, ?hst⟩
    case henv =>
      repeat' (first | rfl | refine env_cons ?_ ?_ | refine st_cons ?_ ?_ ?_ ?_ | refine int_eq ?_ | refine bool_eq ?_ | refine rsl_eq ?_ | refine osl_eq ?_ | refine sl_eq ?_ ?_ ?_ | refine ptr_eq ?_ ?_ ?_ | refine agg_eq ?_ | refine es_cons ?_ ?_ | refine row_cons ?_ ?_)
      all_goals (first | (simp; done) | omega | (simp; omega))
    case hstore =>
      repeat' (first | rfl | refine env_cons ?_ ?_ | refine st_cons ?_ ?_ ?_ ?_ | refine int_eq ?_ | refine bool_eq ?_ | refine rsl_eq ?_ | refine osl_eq ?_ | refine sl_eq ?_ ?_ ?_ | refine ptr_eq ?_ ?_ ?_ | refine agg_eq ?_ | refine es_cons ?_ ?_ | refine row_cons ?_ ?_)
      all_goals (first | (simp; done) | omega | (simp; omega))
    case hst =>
      first | trivial | omega | (simp; done) | (simp; omega)
  rintro mm ee ss kk ⟨i, rfl, rfl, rfl, hI⟩
  generalize hQl1 : thenQ _ _ = Ql1
  have hgr := rowsR_get (t := c) (i := i) (by omega)
  have hrw := hsw.rowLen (i := i) (by omega)
  have hgb := bools_getD (l := rowT c i) (i := i) (by omega)
  have hat : (rowT c i).getD i false = atT c i i := rfl
  rw [hat] at hgb
  refine AW.seq fun K6 hK6 => ?_
  refine AW.seq fun K7 hK7 => ?_
  -- region 4
  refine AW.regionK 0 (fun _ => none) [0, 3, 4, 5, 26] [] ?_
  simp only [go_sem, reduceIte, reduceCtorEq, Nat.reduceAdd, Nat.reduceMul, Nat.reduceEqDiff, Nat.reduceLT, Nat.reduceLeDiff, Nat.reduceSub, Nat.reducePow, Nat.reduceBEq, Int.reduceToNat, List.reduceReplicate, hrl, hlen, hcl, hwl, hgr, hrw, hgb]
  repeat with_reducible refine cj ?_ ?_
  all_goals try first | omega
  refine hK7 _ _ _ ?_; clear hK7
  -- cond 1
  refine AW.cond rfl (by simp only [go_sem, reduceIte, reduceCtorEq, Nat.reduceAdd, Nat.reduceMul, Nat.reduceEqDiff, Nat.reduceLT, Nat.reduceLeDiff, Nat.reduceSub, Nat.reducePow, Nat.reduceBEq, Int.reduceToNat, List.reduceReplicate]) ?_ ?_
  · intro hb
    try simp only [hB, decide_eq_true_eq, decide_eq_false_iff_not] at hb
    have hif : i ≠ f := by rintro rfl; rw [hf1] at hb; cases hb
    refine AW.skip ?_
    refine hK6 _ _ _ ?_; clear hK6
    refine AW.block ?_
    -- region 5
    refine AW.regionK 0 (fun _ => none) [0, 3, 4, 5] [] ?_
    simp only [go_sem, reduceIte, reduceCtorEq, Nat.reduceAdd, Nat.reduceMul, Nat.reduceEqDiff, Nat.reduceLT, Nat.reduceLeDiff, Nat.reduceSub, Nat.reducePow, Nat.reduceBEq, Int.reduceToNat, List.reduceReplicate, hrl, hlen, hcl, hwl]
    repeat with_reducible refine cj ?_ ?_
    all_goals try first | omega
    rw [← hQl1]
    change Exists _
    refine ⟨_, ?hm, i + 1, rfl, ?henv, ?hstore, ?hst⟩
    case henv =>
      repeat' (first | rfl | refine env_cons ?_ ?_ | refine st_cons ?_ ?_ ?_ ?_ | refine int_eq ?_ | refine bool_eq ?_ | refine rsl_eq ?_ | refine osl_eq ?_ | refine sl_eq ?_ ?_ ?_ | refine ptr_eq ?_ ?_ ?_ | refine agg_eq ?_ | refine es_cons ?_ ?_ | refine row_cons ?_ ?_)
      all_goals (first | (simp; done) | omega | (simp; omega))
    case hstore =>
      repeat' (first | rfl | refine env_cons ?_ ?_ | refine st_cons ?_ ?_ ?_ ?_ | refine int_eq ?_ | refine bool_eq ?_ | refine rsl_eq ?_ | refine osl_eq ?_ | refine sl_eq ?_ ?_ ?_ | refine ptr_eq ?_ ?_ ?_ | refine agg_eq ?_ | refine es_cons ?_ ?_ | refine row_cons ?_ ?_)
      all_goals (first | (simp; done) | omega | (simp; omega))
    case hst =>
      first | trivial | omega | (simp; done) | (simp; omega)
    case hm => omega
  · intro hb
    try simp only [hB, decide_eq_true_eq, decide_eq_false_iff_not] at hb
    have hif : i = f := by
      rcases Nat.lt_or_ge i f with h1 | h1
      · have := hf2 i h1; rw [this] at hb; cases hb
      · omega
    subst hif
    refine AW.exit ?_
    rw [← hQl1]
    refine hK5 _ _ _ ?_; clear hK5
    refine AW.seq fun K8 hK8 => ?_
    -- region 6
    refine AW.regionK 0 (fun _ => none) [0, 3, 5, 6] [30] ?_
    simp only [go_sem, reduceIte, reduceCtorEq, Nat.reduceAdd, Nat.reduceMul, Nat.reduceEqDiff, Nat.reduceLT, Nat.reduceLeDiff, Nat.reduceSub, Nat.reducePow, Nat.reduceBEq, Int.reduceToNat, List.reduceReplicate, hrl, hlen, hcl, hwl]
    repeat with_reducible refine cj ?_ ?_
    all_goals try first | omega
    refine hK8 _ _ _ ?_; clear hK8
    refine AW.seq fun K9 hK9 => ?_
    refine AW.seq fun K10 hK10 => ?_
    -- region 7
    refine AW.regionK 0 (fun _ => none) [0, 3, 5, 6, 7] [30] ?_
    simp only [go_sem, reduceIte, reduceCtorEq, Nat.reduceAdd, Nat.reduceMul, Nat.reduceEqDiff, Nat.reduceLT, Nat.reduceLeDiff, Nat.reduceSub, Nat.reducePow, Nat.reduceBEq, Int.reduceToNat, List.reduceReplicate, hrl, hlen, hcl, hwl]
    repeat with_reducible refine cj ?_ ?_
    all_goals try first | omega
    refine hK10 _ _ _ ?_; clear hK10
    refine AW.block ?_
    -- loop 2
    refine AW.loopE (fun mm ee ss kk => ∃ (j g v : Nat) (F : List Int), n - j = mm ∧ ee = [(0, .rsl 1 (rowsR t)), (3, .int .i64 n), (5, .int .i64 (i : Nat)), (6, .sl ⟨30, g, none⟩ 0 n none), (7, .int .i64 (j : Nat))] ∧ ss = [(30, some ⟨g, v, 1, ints F⟩)] ∧ (j ≤ n ∧ F.length = n ∧ ∀ x, x < j → F.getD x 0 = if atT t x i then 1 else (n : Int) + 1)) ?_ ?_
    · refine ⟨_, 0, ?_, ?_, List.replicate n 0, rfl, ?henv, ?hstore, ?hst⟩
      case henv =>
        repeat' (first | rfl | refine env_cons ?_ ?_ | refine st_cons ?_ ?_ ?_ ?_ | refine int_eq ?_ | refine bool_eq ?_ | refine rsl_eq ?_ | refine osl_eq ?_ | refine sl_eq ?_ ?_ ?_ | refine ptr_eq ?_ ?_ ?_ | refine agg_eq ?_ | refine es_cons ?_ ?_ | refine row_cons ?_ ?_)
        all_goals (first | (simp; done) | omega | (simp; omega))
      case hstore =>
        repeat' (first | rfl | refine env_cons ?_ ?_ | refine st_cons ?_ ?_ ?_ ?_ | refine int_eq ?_ | refine bool_eq ?_ | refine rsl_eq ?_ | refine osl_eq ?_ | refine sl_eq ?_ ?_ ?_ | refine ptr_eq ?_ ?_ ?_ | refine agg_eq ?_ | refine es_cons ?_ ?_ | refine row_cons ?_ ?_)
        all_goals (simp [ints])
      case hst =>
        exact ⟨Nat.zero_le _, by simp, fun x hx => by omega⟩
    rintro mm ee ss kk ⟨j, g, v, F, rfl, rfl, rfl, hI⟩
    generalize hQl2 : thenQ _ _ = Ql2
    obtain ⟨hj, hFl, hFx⟩ := hI
    refine AW.seq fun K11 hK11 => ?_
    refine AW.seq fun K12 hK12 => ?_
    -- region 8
    refine AW.regionK 0 (fun _ => none) [0, 3, 5, 6, 7, 33] [30] ?_
    simp only [go_sem, reduceIte, reduceCtorEq, Nat.reduceAdd, Nat.reduceMul, Nat.reduceEqDiff, Nat.reduceLT, Nat.reduceLeDiff, Nat.reduceSub, Nat.reducePow, Nat.reduceBEq, Int.reduceToNat, List.reduceReplicate, hrl, hlen, hcl, hwl]
    repeat with_reducible refine cj ?_ ?_
    all_goals try first | omega
    refine hK12 _ _ _ ?_; clear hK12
    -- cond 2
    refine AW.cond rfl (by simp only [go_sem, reduceIte, reduceCtorEq, Nat.reduceAdd, Nat.reduceMul, Nat.reduceEqDiff, Nat.reduceLT, Nat.reduceLeDiff, Nat.reduceSub, Nat.reducePow, Nat.reduceBEq, Int.reduceToNat, List.reduceReplicate]) ?_ ?_
    · intro hb
      try simp only [hB, decide_eq_true_eq, decide_eq_false_iff_not] at hb
      have hgr := rowsR_get (t := t) (i := j) (by omega)
      have hrw := hs.rowLen (i := j) (by omega)
      have hgb := bools_getD (l := rowT t j) (i := i) (by omega)
      have hat : (rowT t j).getD i false = atT t j i := rfl
      rw [hat] at hgb
      have hFl2 : (F.set j ((n : Int) + 1)).length = n := by simp [hFl]
      refine AW.skip ?_
      refine hK11 _ _ _ ?_; clear hK11
      refine AW.seq fun K13 hK13 => ?_
      refine AW.block ?_
      refine AW.seq fun K14 hK14 => ?_
      -- region 10
      refine AW.regionK 0 (fun _ => none) [0, 3, 5, 6, 7] [30] ?_
      simp only [go_sem, reduceIte, reduceCtorEq, Nat.reduceAdd, Nat.reduceMul, Nat.reduceEqDiff, Nat.reduceLT, Nat.reduceLeDiff, Nat.reduceSub, Nat.reducePow, Nat.reduceBEq, Int.reduceToNat, List.reduceReplicate, hrl, hlen, hcl, hwl, hFl]
      repeat with_reducible refine cj ?_ ?_
      all_goals try first | omega
      refine hK14 _ _ _ ?_; clear hK14
      refine AW.seq fun K15 hK15 => ?_
      -- region 11
      refine AW.regionK 0 (fun _ => none) [0, 3, 5, 6, 7, 47] [30] ?_
      simp only [go_sem, reduceIte, reduceCtorEq, Nat.reduceAdd, Nat.reduceMul, Nat.reduceEqDiff, Nat.reduceLT, Nat.reduceLeDiff, Nat.reduceSub, Nat.reducePow, Nat.reduceBEq, Int.reduceToNat, List.reduceReplicate, hrl, hlen, hcl, hwl, hgr, hrw, hgb]
      repeat with_reducible refine cj ?_ ?_
      all_goals try first | omega
      refine hK15 _ _ _ ?_; clear hK15
      -- cond 3
      refine AW.cond rfl (by simp only [go_sem, reduceIte, reduceCtorEq, Nat.reduceAdd, Nat.reduceMul, Nat.reduceEqDiff, Nat.reduceLT, Nat.reduceLeDiff, Nat.reduceSub, Nat.reducePow, Nat.reduceBEq, Int.reduceToNat, List.reduceReplicate]) ?_ ?_
      · intro hb
        try simp only [hB, decide_eq_true_eq, decide_eq_false_iff_not] at hb
        obtain ⟨F', hF'⟩ : ∃ F', F' = F.set j 1 := ⟨_, rfl⟩
        have hFn : F'.length = n ∧ ∀ x, x < j + 1 → F'.getD x 0 = if atT t x i then 1 else (n : Int) + 1 := by
          rw [hF']
          refine ⟨by simp [hFl], fun x hx => ?_⟩
          by_cases e : j = x
          · subst e; rw [Go.AM.getD_set_eq (by omega), if_pos hb]
          · rw [Go.AM.getD_set_ne e]; exact hFx x (by omega)
        -- region 12
        refine AW.regionK 0 (fun _ => none) [0, 3, 5, 6, 7] [30] ?_
        simp only [go_sem, reduceIte, reduceCtorEq, Nat.reduceAdd, Nat.reduceMul, Nat.reduceEqDiff, Nat.reduceLT, Nat.reduceLeDiff, Nat.reduceSub, Nat.reducePow, Nat.reduceBEq, Int.reduceToNat, List.reduceReplicate, hrl, hlen, hcl, hwl, hFl2, List.set_set]
        repeat with_reducible refine cj ?_ ?_
        all_goals try first | omega
        refine hK13 _ _ _ ?_; clear hK13
        -- region 9
        refine AW.regionK 0 (fun _ => none) [0, 3, 5, 6, 7] [30] ?_
        simp only [go_sem, reduceIte, reduceCtorEq, Nat.reduceAdd, Nat.reduceMul, Nat.reduceEqDiff, Nat.reduceLT, Nat.reduceLeDiff, Nat.reduceSub, Nat.reducePow, Nat.reduceBEq, Int.reduceToNat, List.reduceReplicate, hrl, hlen, hcl, hwl]
        repeat with_reducible refine cj ?_ ?_
        all_goals try first | omega
        rw [← hQl2]
        change Exists _
        refine ⟨_, ?hm, j + 1, ?_, ?_, F', rfl, ?henv, ?hstore, ?hst⟩
        case henv =>
          repeat' (first | rfl | refine env_cons ?_ ?_ | refine st_cons ?_ ?_ ?_ ?_ | refine int_eq ?_ | refine bool_eq ?_ | refine rsl_eq ?_ | refine osl_eq ?_ | refine sl_eq ?_ ?_ ?_ | refine ptr_eq ?_ ?_ ?_ | refine agg_eq ?_ | refine es_cons ?_ ?_ | refine row_cons ?_ ?_)
          all_goals (first | (simp; done) | omega | (simp; omega))
        case hstore =>
          repeat' (first | rfl | refine env_cons ?_ ?_ | refine st_cons ?_ ?_ ?_ ?_ | refine int_eq ?_ | refine bool_eq ?_ | refine rsl_eq ?_ | refine osl_eq ?_ | refine sl_eq ?_ ?_ ?_ | refine ptr_eq ?_ ?_ ?_ | refine agg_eq ?_ | refine es_cons ?_ ?_ | refine row_cons ?_ ?_)
          all_goals (rw [hF'])
        case hst =>
          exact ⟨by omega, hFn⟩
        case hm => omega
      · intro hb
        try simp only [hB, decide_eq_true_eq, decide_eq_false_iff_not] at hb
        obtain ⟨F', hF'⟩ : ∃ F', F' = F.set j ((n : Int) + 1) := ⟨_, rfl⟩
        have hFn : F'.length = n ∧ ∀ x, x < j + 1 → F'.getD x 0 = if atT t x i then 1 else (n : Int) + 1 := by
          rw [hF']
          refine ⟨by simp [hFl], fun x hx => ?_⟩
          by_cases e : j = x
          · subst e; rw [Go.AM.getD_set_eq (by omega), if_neg (by rw [hb]; simp)]
          · rw [Go.AM.getD_set_ne e]; exact hFx x (by omega)
        refine AW.skip ?_
        refine hK13 _ _ _ ?_; clear hK13
        -- region 9
        refine AW.regionK 0 (fun _ => none) [0, 3, 5, 6, 7] [30] ?_
        simp only [go_sem, reduceIte, reduceCtorEq, Nat.reduceAdd, Nat.reduceMul, Nat.reduceEqDiff, Nat.reduceLT, Nat.reduceLeDiff, Nat.reduceSub, Nat.reducePow, Nat.reduceBEq, Int.reduceToNat, List.reduceReplicate, hrl, hlen, hcl, hwl]
        repeat with_reducible refine cj ?_ ?_
        all_goals try first | omega
        rw [← hQl2]
        change Exists _
        refine ⟨_, ?hm, j + 1, ?_, ?_, F', rfl, ?henv, ?hstore, ?hst⟩
        case henv =>
          repeat' (first | rfl | refine env_cons ?_ ?_ | refine st_cons ?_ ?_ ?_ ?_ | refine int_eq ?_ | refine bool_eq ?_ | refine rsl_eq ?_ | refine osl_eq ?_ | refine sl_eq ?_ ?_ ?_ | refine ptr_eq ?_ ?_ ?_ | refine agg_eq ?_ | refine es_cons ?_ ?_ | refine row_cons ?_ ?_)
          all_goals (first | (simp; done) | omega | (simp; omega))
        case hstore =>
          repeat' (first | rfl | refine env_cons ?_ ?_ | refine st_cons ?_ ?_ ?_ ?_ | refine int_eq ?_ | refine bool_eq ?_ | refine rsl_eq ?_ | refine osl_eq ?_ | refine sl_eq ?_ ?_ ?_ | refine ptr_eq ?_ ?_ ?_ | refine agg_eq ?_ | refine es_cons ?_ ?_ | refine row_cons ?_ ?_)
          all_goals (rw [hF'])
        case hst =>
          exact ⟨by omega, hFn⟩
        case hm => omega
    · intro hb
      try simp only [hB, decide_eq_true_eq, decide_eq_false_iff_not] at hb
      have hjn : j = n := by omega
      subst hjn
      have hFI := FI.start (f := i) hfn hFl hFx
      clear hFx
      refine AW.exit ?_
      rw [← hQl2]
      refine hK9 _ _ _ ?_; clear hK9
      refine AW.seq fun K16 hK16 => ?_
      refine AW.seq fun K17 hK17 => ?_
      -- region 13
      refine AW.regionK 0 (fun _ => none) [0, 3, 5, 6, 8] [30] ?_
      simp only [go_sem, reduceIte, reduceCtorEq, Nat.reduceAdd, Nat.reduceMul, Nat.reduceEqDiff, Nat.reduceLT, Nat.reduceLeDiff, Nat.reduceSub, Nat.reducePow, Nat.reduceBEq, Int.reduceToNat, List.reduceReplicate, hrl, hlen, hcl, hwl]
      repeat with_reducible refine cj ?_ ?_
      all_goals try first | omega
      refine hK17 _ _ _ ?_; clear hK17
      refine AW.block ?_
      -- loop 3
      refine AW.loopE (fun mm ee ss kk => ∃ (q g v : Nat) (F : List Int), j - q = mm ∧ ee = [(0, .rsl 1 (rowsR t)), (3, .int .i64 j), (5, .int .i64 (i : Nat)), (6, .sl ⟨30, g, none⟩ 0 j none), (8, .int .i64 (q : Nat))] ∧ ss = [(30, some ⟨g, v, 1, ints F⟩)] ∧ (q ≤ j ∧ FI j t i q 0 0 F)) ?_ ?_
      · refine ⟨_, 0, ?_, ?_, F, rfl, ?henv, ?hstore, ?hst⟩
        case henv =>
          repeat' (first | rfl | refine env_cons ?_ ?_ | refine st_cons ?_ ?_ ?_ ?_ | refine int_eq ?_ | refine bool_eq ?_ | refine rsl_eq ?_ | refine osl_eq ?_ | refine sl_eq ?_ ?_ ?_ | refine ptr_eq ?_ ?_ ?_ | refine agg_eq ?_ | refine es_cons ?_ ?_ | refine row_cons ?_ ?_)
          all_goals (first | (simp; done) | omega | (simp; omega))
        case hstore =>
          repeat' (first | rfl | refine env_cons ?_ ?_ | refine st_cons ?_ ?_ ?_ ?_ | refine int_eq ?_ | refine bool_eq ?_ | refine rsl_eq ?_ | refine osl_eq ?_ | refine sl_eq ?_ ?_ ?_ | refine ptr_eq ?_ ?_ ?_ | refine agg_eq ?_ | refine es_cons ?_ ?_ | refine row_cons ?_ ?_)
          all_goals (first | (simp; done) | omega | (simp; omega))
        case hst =>
          exact ⟨Nat.zero_le _, hFI⟩
      rintro mm ee ss kk ⟨q, g, v, F, rfl, rfl, rfl, hI⟩
      generalize hQl3 : thenQ _ _ = Ql3
      obtain ⟨hq, hFI⟩ := hI
      refine AW.seq fun K18 hK18 => ?_
      refine AW.seq fun K19 hK19 => ?_
      -- region 14
      refine AW.regionK 0 (fun _ => none) [0, 3, 5, 6, 8, 53] [30] ?_
      simp only [go_sem, reduceIte, reduceCtorEq, Nat.reduceAdd, Nat.reduceMul, Nat.reduceEqDiff, Nat.reduceLT, Nat.reduceLeDiff, Nat.reduceSub, Nat.reducePow, Nat.reduceBEq, Int.reduceToNat, List.reduceReplicate, hrl, hlen, hcl, hwl]
      repeat with_reducible refine cj ?_ ?_
      all_goals try first | omega
      refine hK19 _ _ _ ?_; clear hK19
      -- cond 4
      refine AW.cond rfl (by simp only [go_sem, reduceIte, reduceCtorEq, Nat.reduceAdd, Nat.reduceMul, Nat.reduceEqDiff, Nat.reduceLT, Nat.reduceLeDiff, Nat.reduceSub, Nat.reducePow, Nat.reduceBEq, Int.reduceToNat, List.reduceReplicate]) ?_ ?_
      · intro hb
        try simp only [hB, decide_eq_true_eq, decide_eq_false_iff_not] at hb
        refine AW.skip ?_
        refine hK18 _ _ _ ?_; clear hK18
        refine AW.seq fun K20 hK20 => ?_
        refine AW.block ?_
        refine AW.seq fun K21 hK21 => ?_
        -- region 16
        refine AW.regionK 0 (fun _ => none) [0, 3, 5, 6, 8, 9] [30] ?_
        simp only [go_sem, reduceIte, reduceCtorEq, Nat.reduceAdd, Nat.reduceMul, Nat.reduceEqDiff, Nat.reduceLT, Nat.reduceLeDiff, Nat.reduceSub, Nat.reducePow, Nat.reduceBEq, Int.reduceToNat, List.reduceReplicate, hrl, hlen, hcl, hwl]
        repeat with_reducible refine cj ?_ ?_
        all_goals try first | omega
        refine hK21 _ _ _ ?_; clear hK21
        refine AW.block ?_
        -- loop 4
        refine AW.loopE (fun mm ee ss kk => ∃ (a g v : Nat) (F : List Int), j - a = mm ∧ ee = [(0, .rsl 1 (rowsR t)), (3, .int .i64 j), (5, .int .i64 (i : Nat)), (6, .sl ⟨30, g, none⟩ 0 j none), (8, .int .i64 (q : Nat)), (9, .int .i64 (a : Nat))] ∧ ss = [(30, some ⟨g, v, 1, ints F⟩)] ∧ (a ≤ j ∧ FI j t i q a 0 F)) ?_ ?_
        · refine ⟨_, 0, ?_, ?_, F, rfl, ?henv, ?hstore, ?hst⟩
          case henv =>
            repeat' (first | rfl | refine env_cons ?_ ?_ | refine st_cons ?_ ?_ ?_ ?_ | refine int_eq ?_ | refine bool_eq ?_ | refine rsl_eq ?_ | refine osl_eq ?_ | refine sl_eq ?_ ?_ ?_ | refine ptr_eq ?_ ?_ ?_ | refine agg_eq ?_ | refine es_cons ?_ ?_ | refine row_cons ?_ ?_)
            all_goals (first | (simp; done) | omega | (simp; omega))
          case hstore =>
            repeat' (first | rfl | refine env_cons ?_ ?_ | refine st_cons ?_ ?_ ?_ ?_ | refine int_eq ?_ | refine bool_eq ?_ | refine rsl_eq ?_ | refine osl_eq ?_ | refine sl_eq ?_ ?_ ?_ | refine ptr_eq ?_ ?_ ?_ | refine agg_eq ?_ | refine es_cons ?_ ?_ | refine row_cons ?_ ?_)
            all_goals (first | (simp; done) | omega | (simp; omega))
          case hst =>
            exact ⟨Nat.zero_le _, hFI⟩
        rintro mm ee ss kk ⟨a, g, v, F, rfl, rfl, rfl, hI⟩
        generalize hQl4 : thenQ _ _ = Ql4
        obtain ⟨ha, hFI⟩ := hI
        refine AW.seq fun K22 hK22 => ?_
        refine AW.seq fun K23 hK23 => ?_
        -- region 17
        refine AW.regionK 0 (fun _ => none) [0, 3, 5, 6, 8, 9, 58] [30] ?_
        simp only [go_sem, reduceIte, reduceCtorEq, Nat.reduceAdd, Nat.reduceMul, Nat.reduceEqDiff, Nat.reduceLT, Nat.reduceLeDiff, Nat.reduceSub, Nat.reducePow, Nat.reduceBEq, Int.reduceToNat, List.reduceReplicate, hrl, hlen, hcl, hwl]
        repeat with_reducible refine cj ?_ ?_
        all_goals try first | omega
        refine hK23 _ _ _ ?_; clear hK23
        -- cond 5
        refine AW.cond rfl (by simp only [go_sem, reduceIte, reduceCtorEq, Nat.reduceAdd, Nat.reduceMul, Nat.reduceEqDiff, Nat.reduceLT, Nat.reduceLeDiff, Nat.reduceSub, Nat.reducePow, Nat.reduceBEq, Int.reduceToNat, List.reduceReplicate]) ?_ ?_
        · intro hb
          try simp only [hB, decide_eq_true_eq, decide_eq_false_iff_not] at hb
          have hgr := rowsR_get (t := t) (i := a) (by omega)
          have hrw := hs.rowLen (i := a) (by omega)
          refine AW.skip ?_
          refine hK22 _ _ _ ?_; clear hK22
          refine AW.seq fun K24 hK24 => ?_
          refine AW.block ?_
          refine AW.seq fun K25 hK25 => ?_
          -- region 19
          refine AW.regionK 0 (fun _ => none) [0, 3, 5, 6, 8, 9, 10] [30] ?_
          simp only [go_sem, reduceIte, reduceCtorEq, Nat.reduceAdd, Nat.reduceMul, Nat.reduceEqDiff, Nat.reduceLT, Nat.reduceLeDiff, Nat.reduceSub, Nat.reducePow, Nat.reduceBEq, Int.reduceToNat, List.reduceReplicate, hrl, hlen, hcl, hwl]
          repeat with_reducible refine cj ?_ ?_
          all_goals try first | omega
          refine hK25 _ _ _ ?_; clear hK25
          refine AW.block ?_
          -- loop 5
          refine AW.loopE (fun mm ee ss kk => ∃ (b g v : Nat) (F : List Int), j - b = mm ∧ ee = [(0, .rsl 1 (rowsR t)), (3, .int .i64 j), (5, .int .i64 (i : Nat)), (6, .sl ⟨30, g, none⟩ 0 j none), (8, .int .i64 (q : Nat)), (9, .int .i64 (a : Nat)), (10, .int .i64 (b : Nat))] ∧ ss = [(30, some ⟨g, v, 1, ints F⟩)] ∧ (b ≤ j ∧ FI j t i q a b F)) ?_ ?_
          · refine ⟨_, 0, ?_, ?_, F, rfl, ?henv, ?hstore, ?hst⟩
            case henv =>
              repeat' (first | rfl | refine env_cons ?_ ?_ | refine st_cons ?_ ?_ ?_ ?_ | refine int_eq ?_ | refine bool_eq ?_ | refine rsl_eq ?_ | refine osl_eq ?_ | refine sl_eq ?_ ?_ ?_ | refine ptr_eq ?_ ?_ ?_ | refine agg_eq ?_ | refine es_cons ?_ ?_ | refine row_cons ?_ ?_)
              all_goals (first | (simp; done) | omega | (simp; omega))
            case hstore =>
              repeat' (first | rfl | refine env_cons ?_ ?_ | refine st_cons ?_ ?_ ?_ ?_ | refine int_eq ?_ | refine bool_eq ?_ | refine rsl_eq ?_ | refine osl_eq ?_ | refine sl_eq ?_ ?_ ?_ | refine ptr_eq ?_ ?_ ?_ | refine agg_eq ?_ | refine es_cons ?_ ?_ | refine row_cons ?_ ?_)
              all_goals (first | (simp; done) | omega | (simp; omega))
            case hst =>
              exact ⟨Nat.zero_le _, hFI⟩
          rintro mm ee ss kk ⟨b, g, v, F, rfl, rfl, rfl, hI⟩
          generalize hQl5 : thenQ _ _ = Ql5
          obtain ⟨hb0, hFI⟩ := hI
          have hFl := hFI.len
          refine AW.seq fun K26 hK26 => ?_
          refine AW.seq fun K27 hK27 => ?_
          -- region 20
          refine AW.regionK 0 (fun _ => none) [0, 3, 5, 6, 8, 9, 10, 63] [30] ?_
          simp only [go_sem, reduceIte, reduceCtorEq, Nat.reduceAdd, Nat.reduceMul, Nat.reduceEqDiff, Nat.reduceLT, Nat.reduceLeDiff, Nat.reduceSub, Nat.reducePow, Nat.reduceBEq, Int.reduceToNat, List.reduceReplicate, hrl, hlen, hcl, hwl]
          repeat with_reducible refine cj ?_ ?_
          all_goals try first | omega
          refine hK27 _ _ _ ?_; clear hK27
          -- cond 6
          refine AW.cond rfl (by simp only [go_sem, reduceIte, reduceCtorEq, Nat.reduceAdd, Nat.reduceMul, Nat.reduceEqDiff, Nat.reduceLT, Nat.reduceLeDiff, Nat.reduceSub, Nat.reducePow, Nat.reduceBEq, Int.reduceToNat, List.reduceReplicate]) ?_ ?_
          · intro hb
            try simp only [hB, decide_eq_true_eq, decide_eq_false_iff_not] at hb
            have hgb := bools_getD (l := rowT t a) (i := b) (by omega)
            have hat : (rowT t a).getD b false = atT t a b := rfl
            rw [hat] at hgb
            have hga := ints_getD (l := F) (i := a) (by omega)
            have hgc := ints_getD (l := F) (i := b) (by omega)
            have hra := hFI.rng a (by omega)
            have hrb := hFI.rng b (by omega)
            refine AW.skip ?_
            refine hK26 _ _ _ ?_; clear hK26
            refine AW.seq fun K28 hK28 => ?_
            refine AW.block ?_
            refine AW.seq fun K29 hK29 => ?_
            -- region 22
            refine AW.regionD mixed 0 (fun _ => none) [0, 3, 5, 6, 8, 9, 10, 84] [30] ?_
            simp only [go_sem, reduceIte, reduceCtorEq, Nat.reduceAdd, Nat.reduceMul, Nat.reduceEqDiff, Nat.reduceLT, Nat.reduceLeDiff, Nat.reduceSub, Nat.reducePow, Nat.reduceBEq, Int.reduceToNat, List.reduceReplicate, hrl, hlen, hcl, hwl, hgr, hrw, hgb, hga, hgc, hFl]
            repeat with_reducible refine cj ?_ ?_
            all_goals try first | omega | exact chk (by kernel_rfl) | (intros; (repeat' apply And.intro) <;> first | assumption | omega | decide) | (intro hgd; exact absurd hgd (by decide)) | rfl | (simp only [go_sem, reduceIte, reduceCtorEq, Nat.reduceAdd, Nat.reduceMul, Nat.reduceEqDiff, Nat.reduceLT, Nat.reduceLeDiff, Nat.reduceSub, Nat.reducePow, Nat.reduceBEq, Int.reduceToNat, List.reduceReplicate, hrl, hlen, hcl, hwl, hgr, hrw, hgb, hga, hgc, hFl]; done) | (intro _hgd; simp_all [go_sem]; done)
            refine hK29 _ _ _ ?_; clear hK29
            -- cond 7
            refine AW.cond rfl (by simp only [go_sem, reduceIte, reduceCtorEq, Nat.reduceAdd, Nat.reduceMul, Nat.reduceEqDiff, Nat.reduceLT, Nat.reduceLeDiff, Nat.reduceSub, Nat.reducePow, Nat.reduceBEq, Int.reduceToNat, List.reduceReplicate]) ?_ ?_
            · intro hb
              try simp only [hB, decide_eq_true_eq, decide_eq_false_iff_not] at hb
              obtain ⟨F', hF'⟩ : ∃ F', F' = F.set a (F.getD b 0 + 1) := ⟨_, rfl⟩
              have hFn : FI j t i q a (b + 1) F' := by rw [hF']; exact hFI.set hb.1 hb.2 (by omega) (by omega)
              -- region 23
              refine AW.regionK 0 (fun _ => none) [0, 3, 5, 6, 8, 9, 10] [30] ?_
              simp only [go_sem, reduceIte, reduceCtorEq, Nat.reduceAdd, Nat.reduceMul, Nat.reduceEqDiff, Nat.reduceLT, Nat.reduceLeDiff, Nat.reduceSub, Nat.reducePow, Nat.reduceBEq, Int.reduceToNat, List.reduceReplicate, hrl, hlen, hcl, hwl, hgc, hFl]
              repeat with_reducible refine cj ?_ ?_
              all_goals try first | omega
              refine hK28 _ _ _ ?_; clear hK28
              -- region 21
              refine AW.regionK 0 (fun _ => none) [0, 3, 5, 6, 8, 9, 10] [30] ?_
              simp only [go_sem, reduceIte, reduceCtorEq, Nat.reduceAdd, Nat.reduceMul, Nat.reduceEqDiff, Nat.reduceLT, Nat.reduceLeDiff, Nat.reduceSub, Nat.reducePow, Nat.reduceBEq, Int.reduceToNat, List.reduceReplicate, hrl, hlen, hcl, hwl]
              repeat with_reducible refine cj ?_ ?_
              all_goals try first | omega
              rw [← hQl5]
              change Exists _
              refine ⟨_, ?hm, b + 1, ?_, ?_, F', rfl, ?henv, ?hstore, ?hst⟩
              case henv =>
                repeat' (first | rfl | refine env_cons ?_ ?_ | refine st_cons ?_ ?_ ?_ ?_ | refine int_eq ?_ | refine bool_eq ?_ | refine rsl_eq ?_ | refine osl_eq ?_ | refine sl_eq ?_ ?_ ?_ | refine ptr_eq ?_ ?_ ?_ | refine agg_eq ?_ | refine es_cons ?_ ?_ | refine row_cons ?_ ?_)
                all_goals (first | (simp; done) | omega | (simp; omega))
              case hstore =>
                repeat' (first | rfl | refine env_cons ?_ ?_ | refine st_cons ?_ ?_ ?_ ?_ | refine int_eq ?_ | refine bool_eq ?_ | refine rsl_eq ?_ | refine osl_eq ?_ | refine sl_eq ?_ ?_ ?_ | refine ptr_eq ?_ ?_ ?_ | refine agg_eq ?_ | refine es_cons ?_ ?_ | refine row_cons ?_ ?_)
                all_goals (rw [hF'])
              case hst =>
                exact ⟨by omega, hFn⟩
              case hm => omega
            · intro hb
              try simp only [hB, decide_eq_true_eq, decide_eq_false_iff_not] at hb
              obtain ⟨F', hF'⟩ : ∃ F', F' = F := ⟨_, rfl⟩
              have hFn : FI j t i q a (b + 1) F' := by rw [hF']; exact hFI.same (fun he => by rcases hb with h | h; (rw [he] at h; cases h); omega) (by omega)
              refine AW.skip ?_
              refine hK28 _ _ _ ?_; clear hK28
              -- region 21
              refine AW.regionK 0 (fun _ => none) [0, 3, 5, 6, 8, 9, 10] [30] ?_
              simp only [go_sem, reduceIte, reduceCtorEq, Nat.reduceAdd, Nat.reduceMul, Nat.reduceEqDiff, Nat.reduceLT, Nat.reduceLeDiff, Nat.reduceSub, Nat.reducePow, Nat.reduceBEq, Int.reduceToNat, List.reduceReplicate, hrl, hlen, hcl, hwl]
              repeat with_reducible refine cj ?_ ?_
              all_goals try first | omega
              rw [← hQl5]
              change Exists _
              refine ⟨_, ?hm, b + 1, ?_, ?_, F', rfl, ?henv, ?hstore, ?hst⟩
              case henv =>
                repeat' (first | rfl | refine env_cons ?_ ?_ | refine st_cons ?_ ?_ ?_ ?_ | refine int_eq ?_ | refine bool_eq ?_ | refine rsl_eq ?_ | refine osl_eq ?_ | refine sl_eq ?_ ?_ ?_ | refine ptr_eq ?_ ?_ ?_ | refine agg_eq ?_ | refine es_cons ?_ ?_ | refine row_cons ?_ ?_)
                all_goals (first | (simp; done) | omega | (simp; omega))
              case hstore =>
                repeat' (first | rfl | refine env_cons ?_ ?_ | refine st_cons ?_ ?_ ?_ ?_ | refine int_eq ?_ | refine bool_eq ?_ | refine rsl_eq ?_ | refine osl_eq ?_ | refine sl_eq ?_ ?_ ?_ | refine ptr_eq ?_ ?_ ?_ | refine agg_eq ?_ | refine es_cons ?_ ?_ | refine row_cons ?_ ?_)
                all_goals (rw [hF'])
              case hst =>
                exact ⟨by omega, hFn⟩
              case hm => omega
          · intro hb
            try simp only [hB, decide_eq_true_eq, decide_eq_false_iff_not] at hb
            have hbj : b = j := by omega
            rw [hbj] at hFI
            have hFr := hFI.row (by omega)
            refine AW.exit ?_
            rw [← hQl5]
            refine hK24 _ _ _ ?_; clear hK24
            -- region 18
            refine AW.regionK 0 (fun _ => none) [0, 3, 5, 6, 8, 9] [30] ?_
            simp only [go_sem, reduceIte, reduceCtorEq, Nat.reduceAdd, Nat.reduceMul, Nat.reduceEqDiff, Nat.reduceLT, Nat.reduceLeDiff, Nat.reduceSub, Nat.reducePow, Nat.reduceBEq, Int.reduceToNat, List.reduceReplicate, hrl, hlen, hcl, hwl]
            repeat with_reducible refine cj ?_ ?_
            all_goals try first | omega
            rw [← hQl4]
            change Exists _
            refine ⟨_, ?hm, a + 1, ?_, ?_, F, rfl, ?henv, ?hstore, ?hst⟩
            case henv =>
              repeat' (first | rfl | refine env_cons ?_ ?_ | refine st_cons ?_ ?_ ?_ ?_ | refine int_eq ?_ | refine bool_eq ?_ | refine rsl_eq ?_ | refine osl_eq ?_ | refine sl_eq ?_ ?_ ?_ | refine ptr_eq ?_ ?_ ?_ | refine agg_eq ?_ | refine es_cons ?_ ?_ | refine row_cons ?_ ?_)
              all_goals (first | (simp; done) | omega | (simp; omega))
            case hstore =>
              repeat' (first | rfl | refine env_cons ?_ ?_ | refine st_cons ?_ ?_ ?_ ?_ | refine int_eq ?_ | refine bool_eq ?_ | refine rsl_eq ?_ | refine osl_eq ?_ | refine sl_eq ?_ ?_ ?_ | refine ptr_eq ?_ ?_ ?_ | refine agg_eq ?_ | refine es_cons ?_ ?_ | refine row_cons ?_ ?_)
              all_goals (first | (simp; done) | omega | (simp; omega))
            case hst =>
              exact ⟨by omega, hFr⟩
            case hm => omega
        · intro hb
          try simp only [hB, decide_eq_true_eq, decide_eq_false_iff_not] at hb
          have haj : a = j := by omega
          rw [haj] at hFI
          have hFr := hFI.round
          refine AW.exit ?_
          rw [← hQl4]
          refine hK20 _ _ _ ?_; clear hK20
          -- region 15
          refine AW.regionK 0 (fun _ => none) [0, 3, 5, 6, 8] [30] ?_
          simp only [go_sem, reduceIte, reduceCtorEq, Nat.reduceAdd, Nat.reduceMul, Nat.reduceEqDiff, Nat.reduceLT, Nat.reduceLeDiff, Nat.reduceSub, Nat.reducePow, Nat.reduceBEq, Int.reduceToNat, List.reduceReplicate, hrl, hlen, hcl, hwl]
          repeat with_reducible refine cj ?_ ?_
          all_goals try first | omega
          rw [← hQl3]
          change Exists _
          refine ⟨_, ?hm, q + 1, ?_, ?_, F, rfl, ?henv, ?hstore, ?hst⟩
          case henv =>
            repeat' (first | rfl | refine env_cons ?_ ?_ | refine st_cons ?_ ?_ ?_ ?_ | refine int_eq ?_ | refine bool_eq ?_ | refine rsl_eq ?_ | refine osl_eq ?_ | refine sl_eq ?_ ?_ ?_ | refine ptr_eq ?_ ?_ ?_ | refine agg_eq ?_ | refine es_cons ?_ ?_ | refine row_cons ?_ ?_)
            all_goals (first | (simp; done) | omega | (simp; omega))
          case hstore =>
            repeat' (first | rfl | refine env_cons ?_ ?_ | refine st_cons ?_ ?_ ?_ ?_ | refine int_eq ?_ | refine bool_eq ?_ | refine rsl_eq ?_ | refine osl_eq ?_ | refine sl_eq ?_ ?_ ?_ | refine ptr_eq ?_ ?_ ?_ | refine agg_eq ?_ | refine es_cons ?_ ?_ | refine row_cons ?_ ?_)
            all_goals (first | (simp; done) | omega | (simp; omega))
          case hst =>
            exact ⟨by omega, hFr⟩
          case hm => omega
      · intro hb
        try simp only [hB, decide_eq_true_eq, decide_eq_false_iff_not] at hb
        have hqj : q = j := by omega
        rw [hqj] at hFI
        have hd := fun a m (ha : a < j) (hm : 0 < m) (hmn : m ≤ j) => hFI.dist ha hm hmn
        have hFl := hFI.len
        have hFf : F.getD i 0 = (L : Int) := (hd i L hfn hLp hLb).2 hkn.ln
        have hgf := ints_getD (l := F) (i := i) (by omega)
        rw [hFf] at hgf
        refine AW.exit ?_
        rw [← hQl3]
        refine hK16 _ _ _ ?_; clear hK16
        refine AW.seq fun K30 hK30 => ?_
        -- region 24
        refine AW.regionK 0 (fun _ => none) [0, 5, 6, 11] [30, 94] ?_
        simp only [go_sem, reduceIte, reduceCtorEq, Nat.reduceAdd, Nat.reduceMul, Nat.reduceEqDiff, Nat.reduceLT, Nat.reduceLeDiff, Nat.reduceSub, Nat.reducePow, Nat.reduceBEq, Int.reduceToNat, List.reduceReplicate, hrl, hlen, hcl, hwl, honef]
        repeat with_reducible refine cj ?_ ?_
        all_goals try first | omega
        refine hK30 _ _ _ ?_; clear hK30
        refine AW.seq fun K31 hK31 => ?_
        -- region 25
        refine AW.regionK 0 (fun _ => none) [0, 5, 6, 11, 12] [30, 94] ?_
        simp only [go_sem, reduceIte, reduceCtorEq, Nat.reduceAdd, Nat.reduceMul, Nat.reduceEqDiff, Nat.reduceLT, Nat.reduceLeDiff, Nat.reduceSub, Nat.reducePow, Nat.reduceBEq, Int.reduceToNat, List.reduceReplicate, hrl, hlen, hcl, hwl]
        repeat with_reducible refine cj ?_ ?_
        all_goals try first | omega
        refine hK31 _ _ _ ?_; clear hK31
        refine AW.seq fun K32 hK32 => ?_
        refine AW.seq fun K33 hK33 => ?_
        -- region 26
        refine AW.regionK 0 (fun _ => none) [0, 6, 11, 12, 13] [30, 94] ?_
        simp only [go_sem, reduceIte, reduceCtorEq, Nat.reduceAdd, Nat.reduceMul, Nat.reduceEqDiff, Nat.reduceLT, Nat.reduceLeDiff, Nat.reduceSub, Nat.reducePow, Nat.reduceBEq, Int.reduceToNat, List.reduceReplicate, hrl, hlen, hcl, hwl, hgf, hFl]
        repeat with_reducible refine cj ?_ ?_
        all_goals try first | omega
        refine hK33 _ _ _ ?_; clear hK33
        refine AW.block ?_
        -- loop 6
        refine AW.loopE (fun mm ee ss kk => ∃ (m g v g11 v11 : Nat) (O : List Int) (x : Nat), m + 1 = mm ∧ ee = [(0, .rsl 1 (rowsR t)), (6, .sl ⟨30, g, none⟩ 0 j none), (11, .sl ⟨94, g11, none⟩ 0 O.length none), (12, .int .i64 (x : Nat)), (13, .int .i64 (m : Nat))] ∧ ss = [(30, some ⟨g, v, 1, ints F⟩), (94, some ⟨g11, v11, 1, ints O⟩)] ∧ (OutI j t i L O ∧ O.length + m = L ∧ lastO O = (x : Int) ∧ outW t j i r.1 m O = res)) ?_ ?_
        · refine ⟨_, L - 1, ?_, ?_, ?_, ?_, [(i : Int)], i, rfl, ?henv, ?hstore, ?hst⟩
          case henv =>
            repeat' (first | rfl | refine env_cons ?_ ?_ | refine st_cons ?_ ?_ ?_ ?_ | refine int_eq ?_ | refine bool_eq ?_ | refine rsl_eq ?_ | refine osl_eq ?_ | refine sl_eq ?_ ?_ ?_ | refine ptr_eq ?_ ?_ ?_ | refine agg_eq ?_ | refine es_cons ?_ ?_ | refine row_cons ?_ ?_)
            all_goals (first | (simp; done) | omega | (simp; omega))
          case hstore =>
            repeat' (first | rfl | refine env_cons ?_ ?_ | refine st_cons ?_ ?_ ?_ ?_ | refine int_eq ?_ | refine bool_eq ?_ | refine rsl_eq ?_ | refine osl_eq ?_ | refine sl_eq ?_ ?_ ?_ | refine ptr_eq ?_ ?_ ?_ | refine agg_eq ?_ | refine es_cons ?_ ?_ | refine row_cons ?_ ?_)
            all_goals (first | (simp; done) | omega | (simp; omega))
          case hst =>
            exact ⟨OutI.start hfn hkn.ln, by simp; omega, rfl, hres.symm⟩
        rintro mm ee ss kk ⟨m, g, v, g11, v11, O, x, rfl, rfl, rfl, hI⟩
        generalize hQl6 : thenQ _ _ = Ql6
        obtain ⟨hO, hOm, hOx, hOr⟩ := hI
        have hOl := hO.len
        refine AW.seq fun K34 hK34 => ?_
        refine AW.seq fun K35 hK35 => ?_
        -- region 27
        refine AW.regionK 0 (fun _ => none) [0, 6, 11, 12, 13, 102] [30, 94] ?_
        simp only [go_sem, reduceIte, reduceCtorEq, Nat.reduceAdd, Nat.reduceMul, Nat.reduceEqDiff, Nat.reduceLT, Nat.reduceLeDiff, Nat.reduceSub, Nat.reducePow, Nat.reduceBEq, Int.reduceToNat, List.reduceReplicate, hrl, hlen, hcl, hwl]
        repeat with_reducible refine cj ?_ ?_
        all_goals try first | omega
        refine hK35 _ _ _ ?_; clear hK35
        -- cond 8
        refine AW.cond rfl (by simp only [go_sem, reduceIte, reduceCtorEq, Nat.reduceAdd, Nat.reduceMul, Nat.reduceEqDiff, Nat.reduceLT, Nat.reduceLeDiff, Nat.reduceSub, Nat.reducePow, Nat.reduceBEq, Int.reduceToNat, List.reduceReplicate]) ?_ ?_
        · intro hb
          try simp only [hB, decide_eq_true_eq, decide_eq_false_iff_not] at hb
          obtain ⟨m, rfl⟩ : ∃ m', m = m' + 1 := ⟨m - 1, by omega⟩
          obtain ⟨x', y, h1, h2, h3, h4, h5, h6, h7, h8⟩ := hO.next hs hfn hkn (by omega)
          have hxx : x' = x := by omega
          subst hxx
          rw [show L - O.length = m + 1 by omega] at h3 h6 h7
          have hOr2 : outW t j i r.1 m (O ++ [(y : Int)]) = res := by rw [← hOr]; show _ = outW t j i r.1 m (match stepO t j i r.1 (lastO O) (m + 1 : Nat) with | some j => O ++ [(j : Int)] | none => O); rw [h3]
          have hgr := rowsR_get (t := t) (i := x') (by omega)
          have hrw := hs.rowLen (i := x') h2
          have htk : (ints O).take O.length = ints O := List.take_of_length_le (by rw [ints_len]; exact Nat.le_refl _)
          have hla : lastO (O ++ [(y : Int)]) = (y : Int) := by unfold lastO; rw [Go.AM.getD_append, if_neg (by simp)]; simp
          refine AW.skip ?_
          refine hK34 _ _ _ ?_; clear hK34
          refine AW.seq fun K36 hK36 => ?_
          refine AW.block ?_
          refine AW.seq fun K37 hK37 => ?_
          -- region 29
          refine AW.regionK 0 (fun _ => none) [0, 6, 11, 12, 13, 14] [30, 94] ?_
          simp only [go_sem, reduceIte, reduceCtorEq, Nat.reduceAdd, Nat.reduceMul, Nat.reduceEqDiff, Nat.reduceLT, Nat.reduceLeDiff, Nat.reduceSub, Nat.reducePow, Nat.reduceBEq, Int.reduceToNat, List.reduceReplicate, hrl, hlen, hcl, hwl]
          repeat with_reducible refine cj ?_ ?_
          all_goals try first | omega
          refine hK37 _ _ _ ?_; clear hK37
          refine AW.seq fun K38 hK38 => ?_
          refine AW.block ?_
          -- loop 7
          refine AW.loopE (fun mm ee ss kk => ∃ (z g v g11 v11 : Nat), y - z = mm ∧ ee = [(0, .rsl 1 (rowsR t)), (6, .sl ⟨30, g, none⟩ 0 j none), (11, .sl ⟨94, g11, none⟩ 0 O.length none), (12, .int .i64 (x' : Nat)), (13, .int .i64 ((m + 1 : Nat) : Int)), (14, .int .i64 (z : Nat))] ∧ ss = [(30, some ⟨g, v, 1, ints F⟩), (94, some ⟨g11, v11, 1, ints O⟩)] ∧ (z ≤ y)) ?_ ?_
          · refine ⟨_, 0, ?_, ?_, ?_, ?_, rfl, ?henv, ?hstore, ?hst⟩
            case henv =>
              repeat' (first | rfl | refine env_cons ?_ ?_ | refine st_cons ?_ ?_ ?_ ?_ | refine int_eq ?_ | refine bool_eq ?_ | refine rsl_eq ?_ | refine osl_eq ?_ | refine sl_eq ?_ ?_ ?_ | refine ptr_eq ?_ ?_ ?_ | refine agg_eq ?_ | refine es_cons ?_ ?_ | refine row_cons ?_ ?_)
              all_goals (first | (simp; done) | omega | (simp; omega))
            case hstore =>
              repeat' (first | rfl | refine env_cons ?_ ?_ | refine st_cons ?_ ?_ ?_ ?_ | refine int_eq ?_ | refine bool_eq ?_ | refine rsl_eq ?_ | refine osl_eq ?_ | refine sl_eq ?_ ?_ ?_ | refine ptr_eq ?_ ?_ ?_ | refine agg_eq ?_ | refine es_cons ?_ ?_ | refine row_cons ?_ ?_)
              all_goals (first | (simp; done) | omega | (simp; omega))
            case hst =>
              first | trivial | omega | (simp; done) | (simp; omega)
          rintro mm ee ss kk ⟨z, g, v, g11, v11, rfl, rfl, rfl, hI⟩
          generalize hQl7 : thenQ _ _ = Ql7
          have hgb := bools_getD (l := rowT t x') (i := z) (by omega)
          have hat : (rowT t x').getD z false = atT t x' z := rfl
          rw [hat] at hgb
          have hgz := ints_getD (l := F) (i := z) (by omega)
          have hdz := hd z (m + 1) (by omega) (by omega) (by omega)
          refine AW.seq fun K39 hK39 => ?_
          refine AW.seq fun K40 hK40 => ?_
          -- region 30
          refine AW.regionK 0 (fun _ => none) [0, 6, 11, 12, 13, 14, 120] [30, 94] ?_
          simp only [go_sem, reduceIte, reduceCtorEq, Nat.reduceAdd, Nat.reduceMul, Nat.reduceEqDiff, Nat.reduceLT, Nat.reduceLeDiff, Nat.reduceSub, Nat.reducePow, Nat.reduceBEq, Int.reduceToNat, List.reduceReplicate, hrl, hlen, hcl, hwl, hgr, hrw, hgb, hgz, hFl]
          repeat with_reducible refine cj ?_ ?_
          all_goals try first | omega | (intros; (repeat' apply And.intro) <;> first | assumption | omega | decide) | (intro hgd; exact absurd hgd (by decide)) | rfl | (simp only [go_sem, reduceIte, reduceCtorEq, Nat.reduceAdd, Nat.reduceMul, Nat.reduceEqDiff, Nat.reduceLT, Nat.reduceLeDiff, Nat.reduceSub, Nat.reducePow, Nat.reduceBEq, Int.reduceToNat, List.reduceReplicate, hrl, hlen, hcl, hwl, hgr, hrw, hgb, hgz, hFl]; done) | (intro _hgd; simp_all [go_sem]; done)
          refine hK40 _ _ _ ?_; clear hK40
          -- cond 9
          refine AW.cond rfl (by simp only [go_sem, reduceIte, reduceCtorEq, Nat.reduceAdd, Nat.reduceMul, Nat.reduceEqDiff, Nat.reduceLT, Nat.reduceLeDiff, Nat.reduceSub, Nat.reducePow, Nat.reduceBEq, Int.reduceToNat, List.reduceReplicate]) ?_ ?_
          · intro hb
            try simp only [hB, decide_eq_true_eq, decide_eq_false_iff_not] at hb
            have hzy : z ≠ y := by
              rintro rfl
              rcases hb with h | h
              · rw [h5] at h; cases h
              · exact h (hdz.2 h6)
            refine AW.skip ?_
            refine hK39 _ _ _ ?_; clear hK39
            refine AW.block ?_
            -- region 31
            refine AW.regionK 0 (fun _ => none) [0, 6, 11, 12, 13, 14] [30, 94] ?_
            simp only [go_sem, reduceIte, reduceCtorEq, Nat.reduceAdd, Nat.reduceMul, Nat.reduceEqDiff, Nat.reduceLT, Nat.reduceLeDiff, Nat.reduceSub, Nat.reducePow, Nat.reduceBEq, Int.reduceToNat, List.reduceReplicate, hrl, hlen, hcl, hwl]
            repeat with_reducible refine cj ?_ ?_
            all_goals try first | omega
            rw [← hQl7]
            change Exists _
            refine ⟨_, ?hm, z + 1, ?_, ?_, ?_, ?_, rfl, ?henv, ?hstore, ?hst⟩
            case henv =>
              repeat' (first | rfl | refine env_cons ?_ ?_ | refine st_cons ?_ ?_ ?_ ?_ | refine int_eq ?_ | refine bool_eq ?_ | refine rsl_eq ?_ | refine osl_eq ?_ | refine sl_eq ?_ ?_ ?_ | refine ptr_eq ?_ ?_ ?_ | refine agg_eq ?_ | refine es_cons ?_ ?_ | refine row_cons ?_ ?_)
              all_goals (first | (simp; done) | omega | (simp; omega))
            case hstore =>
              repeat' (first | rfl | refine env_cons ?_ ?_ | refine st_cons ?_ ?_ ?_ ?_ | refine int_eq ?_ | refine bool_eq ?_ | refine rsl_eq ?_ | refine osl_eq ?_ | refine sl_eq ?_ ?_ ?_ | refine ptr_eq ?_ ?_ ?_ | refine agg_eq ?_ | refine es_cons ?_ ?_ | refine row_cons ?_ ?_)
              all_goals (first | (simp; done) | omega | (simp; omega))
            case hst =>
              omega
            case hm => omega
          · intro hb
            try simp only [hB, decide_eq_true_eq, decide_eq_false_iff_not] at hb
            have hzy : z = y := by
              rcases Nat.lt_or_ge z y with h9 | h9
              · exact absurd ⟨hb.1, hdz.1 hb.2⟩ (h7 z h9)
              · omega
            subst hzy
            refine AW.exit ?_
            rw [← hQl7]
            refine hK38 _ _ _ ?_; clear hK38
            refine AW.seq fun K41 hK41 => ?_
            -- region 32
            refine AW.regionK 0 (fun _ => none) [0, 6, 11, 13, 14] [30, 94] ?_
            simp only [go_sem, reduceIte, reduceCtorEq, Nat.reduceAdd, Nat.reduceMul, Nat.reduceEqDiff, Nat.reduceLT, Nat.reduceLeDiff, Nat.reduceSub, Nat.reducePow, Nat.reduceBEq, Int.reduceToNat, List.reduceReplicate, hrl, hlen, hcl, hwl, htk, ints_app]
            repeat with_reducible refine cj ?_ ?_
            all_goals try first | omega | (simp [scP, scalar]; done) | exact scP_words _ | exact scP_ints _ | exact scP_bools _
            refine hK41 _ _ _ ?_; clear hK41
            -- region 33
            refine AW.regionK 0 (fun _ => none) [0, 6, 11, 12, 13] [30, 94] ?_
            simp only [go_sem, reduceIte, reduceCtorEq, Nat.reduceAdd, Nat.reduceMul, Nat.reduceEqDiff, Nat.reduceLT, Nat.reduceLeDiff, Nat.reduceSub, Nat.reducePow, Nat.reduceBEq, Int.reduceToNat, List.reduceReplicate, hrl, hlen, hcl, hwl]
            repeat with_reducible refine cj ?_ ?_
            all_goals try first | omega
            refine hK36 _ _ _ ?_; clear hK36
            -- region 28
            refine AW.regionK 0 (fun _ => none) [0, 6, 11, 12, 13] [30, 94] ?_
            simp only [go_sem, reduceIte, reduceCtorEq, Nat.reduceAdd, Nat.reduceMul, Nat.reduceEqDiff, Nat.reduceLT, Nat.reduceLeDiff, Nat.reduceSub, Nat.reducePow, Nat.reduceBEq, Int.reduceToNat, List.reduceReplicate, hrl, hlen, hcl, hwl]
            repeat with_reducible refine cj ?_ ?_
            all_goals try first | omega
            rw [← hQl6]
            change Exists _
            refine ⟨_, ?hm, m, ?_, ?_, ?_, ?_, O ++ [(z : Int)], z, rfl, ?henv, ?hstore, ?hst⟩
            case henv =>
              repeat' (first | rfl | refine env_cons ?_ ?_ | refine st_cons ?_ ?_ ?_ ?_ | refine int_eq ?_ | refine bool_eq ?_ | refine rsl_eq ?_ | refine osl_eq ?_ | refine sl_eq ?_ ?_ ?_ | refine ptr_eq ?_ ?_ ?_ | refine agg_eq ?_ | refine es_cons ?_ ?_ | refine row_cons ?_ ?_)
              all_goals (first | (simp; done) | omega | (simp; omega))
            case hstore =>
              repeat' (first | rfl | refine env_cons ?_ ?_ | refine st_cons ?_ ?_ ?_ ?_ | refine int_eq ?_ | refine bool_eq ?_ | refine rsl_eq ?_ | refine osl_eq ?_ | refine sl_eq ?_ ?_ ?_ | refine ptr_eq ?_ ?_ ?_ | refine agg_eq ?_ | refine es_cons ?_ ?_ | refine row_cons ?_ ?_)
              all_goals (first | (simp; done) | omega | (simp; omega))
            case hst =>
              exact ⟨h8, by simp; omega, hla, hOr2⟩
            case hm => omega
        · intro hb
          try simp only [hB, decide_eq_true_eq, decide_eq_false_iff_not] at hb
          have hm0 : m = 0 := by omega
          subst hm0
          have hOr2 : O = res := hOr
          refine AW.exit ?_
          rw [← hQl6]
          refine hK32 _ _ _ ?_; clear hK32
          refine AW.seq fun K42 hK42 => ?_
          -- region 34
          refine AW.regionK 0 (fun _ => none) [2] [94] ?_
          simp only [go_sem, reduceIte, reduceCtorEq, Nat.reduceAdd, Nat.reduceMul, Nat.reduceEqDiff, Nat.reduceLT, Nat.reduceLeDiff, Nat.reduceSub, Nat.reducePow, Nat.reduceBEq, Int.reduceToNat, List.reduceReplicate, hrl, hlen, hcl, hwl]
          repeat with_reducible refine cj ?_ ?_
          all_goals try first | omega
          refine hK42 _ _ _ ?_; clear hK42
          refine AW.ret ?_
          rw [← hQr]
          simp only [go_sem, reduceIte, reduceCtorEq, Nat.reduceAdd, Nat.reduceMul, Nat.reduceEqDiff, Nat.reduceLT, Nat.reduceLeDiff, Nat.reduceSub, Nat.reducePow, Nat.reduceBEq, Int.reduceToNat, List.reduceReplicate, hrl, hlen, hcl, hwl]
          rw [← hOr2]
          exact Wk.refl _
end Go.Proofs.R

namespace Go.Proofs.R
open Go.AM Go
set_option maxRecDepth 100000
set_option maxHeartbeats 2000000
theorem ord_spec (rs : List USet) (hl : longR rs) (hok : ∀ x ∈ rs, okW x.W) : ∃ (O C : List Int) (e1 e2 : Nat) (b : Bool),
    Reads Try.prog 30 false [relV rs] (.tup [.rsl 1 (ints O), .int .i64 e1]) ∧ Reads Try.prog 31 false [relV rs] (.tup [.rsl 1 (ints C), .int .i64 e2]) ∧ Reads Try.prog 32 false [relV rs] (.bool b) ∧
    O.length ≤ 512 ∧ C.length ≤ 512 ∧ (e1 = 0 ∨ e1 = 1 ∨ e1 = 10) ∧ (e2 = 0 ∨ e2 = 1 ∨ e2 = 7) ∧
    (validR rs = false → O = [] ∧ C = [] ∧ e1 = 1 ∧ e2 = 1 ∧ b = false) ∧
    (validR rs = true → ∃ t, rs = t.map SB ∧ Sq rs.length t ∧ rs.length ≤ 512 ∧ b = acyc rs.length t ∧
      (acyc rs.length t = true → e1 = 0 ∧ O = nats (ordO rs.length t rs.length []) ∧ OrdI rs.length t (ordO rs.length t rs.length []) ∧ O.length = rs.length ∧ e2 = 7 ∧ C = []) ∧
      (acyc rs.length t = false → e1 = 10 ∧ O = [] ∧ e2 = 0 ∧ ∃ f, Reads Try.prog 35 false [.rsl 1 (rowsR t)] (.rsl 1 (ints C)) ∧ Cyl rs.length t f C)) := by
  by_cases hv : validR rs = true
  · obtain ⟨t, ht, hs, hn⟩ := rel_of hok hv
    have h3 := acyclic_g rs.length t hs hn
    by_cases ha : acyc rs.length t = true
    · have h1 := order_g rs.length t hs hn ha
      have h2 := cycle_g rs.length t hs hn (firstC_none.2 ha)
      rw [relB_SB, ← ht] at h1 h2 h3
      obtain ⟨o1, o2⟩ := ordO_ok hs ha rs.length [] (OrdI.nil _ _) (by simp)
      exact ⟨_, [], 0, 7, _, h1, h2, h3, by rw [nats_len, o2]; exact hn, by simp, .inl rfl, .inr (.inr rfl), fun h => (by rw [hv] at h; cases h), fun _ => ⟨t, ht, hs, hn, rfl, fun _ => ⟨rfl, rfl, o1, by rw [nats_len, o2], rfl, rfl⟩, fun h => (by rw [ha] at h; cases h)⟩⟩
    · have hf : acyc rs.length t = false := by simpa using ha
      have h1 := order_c rs.length t hs hn hf
      obtain ⟨f, hfc⟩ : ∃ f, firstC rs.length t = some f := by
        cases h : firstC rs.length t with
        | none => exact absurd (firstC_none.1 h) ha
        | some f => exact ⟨f, rfl⟩
      obtain ⟨hfn, _, _⟩ := find_range_lt (p := fun i => atT (warsh rs.length t) i i) hfc
      obtain ⟨r, hr, _⟩ := cycB_some (t := t) (rs.length + 2) 0 (cyc0 rs.length f) (WfC.start (f := (f : Int)) (by omega) (by omega)) (by omega)
      have h2 := cycle_c rs.length t hs hn f hfc r hr
      have h4 := rcycle_r rs.length t hs hn f hfc r hr
      obtain ⟨L, hL, hk⟩ := cyc_Kn hs hfc hr
      have hcy := outW_Cyl hs hfc hk
      rw [show (r.2.2 - 1).toNat = L - 1 by omega] at h2 h4
      rw [relB_SB, ← ht] at h1 h2 h3
      exact ⟨[], _, 10, 0, _, h1, h2, h3, by simp, Nat.le_trans hcy.len.2 hn, .inr (.inr rfl), .inl rfl, fun h => (by rw [hv] at h; cases h), fun _ => ⟨t, ht, hs, hn, rfl, fun h => absurd h ha, fun _ => ⟨rfl, rfl, rfl, f, h4, hcy⟩⟩⟩
  · have hf : validR rs = false := by simpa using hv
    exact ⟨[], [], 1, 1, false, order_e rs hl hf, cycle_e rs hl hf, acyclic_e rs hl hf, by simp, by simp, .inr (.inl rfl), .inr (.inl rfl), fun _ => ⟨rfl, rfl, rfl, rfl, rfl⟩, fun h => absurd h hv⟩
end Go.Proofs.R

/- A long region may be run in two parts. -/
namespace Go.AM
theorem arun_cut' {P : Program} {n base : Nat} {orc : Nat → Option Orc} {all : List Oper} {Q : Post} (l2 : List Oper) : ∀ (l1 : List Oper) (i : Nat) (e : Env) (s : Store) (k : Nat),
    arun P n base orc all l1 i e s k (fun e s k => arun P n base orc all l2 (i + l1.length) e s k Q) → arun P n base orc all (l1 ++ l2) i e s k Q
  | [], _, _, _, _, h => h
  | o :: l1, i, e, s, k, h => by
    have hi : i + (o :: l1).length = i + 1 + l1.length := by simp; omega
    rw [hi] at h
    rw [List.cons_append]
    unfold arun at h ⊢
    cases h1 : stepOp P (orc i) o.op (base + o.dst.getD 0) k e s with
    | none => rw [h1] at h; exact h
    | some r =>
      rw [h1] at h
      cases h2 : o.guard with
      | none => rw [h2] at h; exact ⟨h.1, h.2.1, arun_cut' l2 l1 _ _ _ _ h.2.2⟩
      | some p =>
        obtain ⟨j, want⟩ := p
        rw [h2] at h
        simp only at h ⊢
        split at h
        · rename_i q b heq
          cases h3 : r.u with
          | nil => rw [h3] at h; exact ⟨h.1, h.2.1, arun_cut' l2 l1 _ _ _ _ h.2.2⟩
          | cons c u => rw [h3] at h; exact ⟨h.1, h.2.1, h.2.2.1, h.2.2.2.1, arun_cut' l2 l1 _ _ _ _ h.2.2.2.2⟩
        · exact h.elim
theorem arun_cut {P : Program} {n base : Nat} {orc : Nat → Option Orc} {all rest : List Oper} {Q : Post} {i : Nat} {e : Env} {s : Store} {k : Nat} (j : Nat) (hj : (rest.take j).length = j)
    (h : ∀ K : Post, (∀ e s k, arun P n base orc all (rest.drop j) (i + j) e s k Q → K e s k) → arun P n base orc all (rest.take j) i e s k K) : arun P n base orc all rest i e s k Q := by
  have h1 := arun_cut' (P := P) (n := n) (base := base) (orc := orc) (all := all) (Q := Q) (rest.drop j) (rest.take j) i e s k
  rw [List.take_append_drop, hj] at h1
  exact h1 (h _ fun _ _ _ h => h)
end Go.AM

namespace Go.Proofs.R
open Go.AM Go
set_option maxRecDepth 100000
set_option maxHeartbeats 2000000
theorem nats_get {l : List Nat} {k : Nat} (h : k < l.length) : (nats l).getD k 0 = (l.getD k 0 : Nat) := by simp [nats, List.getD_eq_getElem?_getD, h]
theorem _root_.Go.AM.OrdI.all {n : Nat} {t : List (List Bool)} {out : List Nat} (h : OrdI n t out) (hl : out.length = n) {j : Nat} (hj : j < n) : j ∈ out := by
  rcases Classical.em (j ∈ out) with h1 | h1
  · exact h1
  · have := nodup_nat n (j :: out) (List.nodup_cons.2 ⟨h1, h.nd⟩) fun x hx => by
      rcases List.mem_cons.1 hx with rfl | hx
      · exact hj
      · exact h.rng x hx
    simp at this; omega
/-- Where each node stands, one up. -/
structure AtI (n : Nat) (out : List Nat) (k : Nat) (A : List Int) : Prop where
  len : A.length = n
  on : ∀ p x, p < k → out[p]? = some x → A.getD x 0 = p + 1
  off : ∀ y, (∀ p : Nat, p < k → out[p]? ≠ some y) → A.getD y 0 = 0
theorem AtI.start (n : Nat) (out : List Nat) : AtI n out 0 (List.replicate n 0) :=
  ⟨by simp, fun p x h => by omega, fun y _ => by rw [List.getD_eq_getElem?_getD, List.getElem?_replicate]; split <;> rfl⟩
theorem AtI.zero {n : Nat} {out : List Nat} {k : Nat} {A : List Int} (h : AtI n out k A) (hn : out.Nodup) {x : Nat} (hx : out[k]? = some x) : A.getD x 0 = 0 :=
  h.off x fun p hp e => by
    obtain ⟨h1, h2⟩ := List.getElem?_eq_some_iff.1 hx
    obtain ⟨h3, h4⟩ := List.getElem?_eq_some_iff.1 e
    have := (List.getElem_inj hn).1 (h2.trans h4.symm)
    omega
theorem AtI.step {n : Nat} {out : List Nat} {k : Nat} {A : List Int} (h : AtI n out k A) (hn : out.Nodup) {x : Nat} (hx : out[k]? = some x) (hxn : x < n) : AtI n out (k + 1) (A.set x (k + 1)) := by
  refine ⟨by simp [h.len], fun p y hp hy => ?_, fun y hy => ?_⟩
  · by_cases e : p = k
    · subst e
      rw [hx] at hy; cases hy
      exact Go.AM.getD_set_eq (by rw [h.len]; exact hxn) _ _
    · have hne : x ≠ y := by
        rintro rfl
        obtain ⟨h1, h2⟩ := List.getElem?_eq_some_iff.1 hx
        obtain ⟨h3, h4⟩ := List.getElem?_eq_some_iff.1 hy
        exact e ((List.getElem_inj hn).1 (h4.trans h2.symm))
      rw [Go.AM.getD_set_ne hne]
      exact h.on p y (by omega) hy
  · have hne : x ≠ y := by rintro rfl; exact hy k (by omega) hx
    rw [Go.AM.getD_set_ne hne]
    exact h.off y fun p hp => hy p (by omega)
theorem AtI.lt {n : Nat} {t : List (List Bool)} {out : List Nat} {A : List Int} (ho : OrdI n t out) (hl : out.length = n) (h : AtI n out n A) {i j : Nat} (hi : i < n) (hj : j < n) (he : atT t i j = true) : A.getD i 0 < A.getD j 0 := by
  obtain ⟨q, hq, hqj⟩ := List.mem_iff_getElem.1 (ho.all hl hj)
  have hq2 : out[q]? = some j := by rw [List.getElem?_eq_getElem hq, hqj]
  obtain ⟨p, hp, hpi⟩ := ho.top q j i hq2 hi he
  rw [h.on q j (by omega) hq2, h.on p i (by omega) hpi]
  omega
theorem law_either (rs : List USet) (hl : longR rs) (hok : ∀ x ∈ rs, okW x.W) : Reads Try.prog 8 false [relV rs] (.bool true) := by
  have haw := awake_r
  have hgr : Reads Try.prog 10 true [.rsl 1 [[.rsl 2 (rs.map rowV)]]] (.bool ([rs].any greatB)) := Reads.flat (great_r [rs] (by simp) (by simpa using hl)) rfl
  have hv1 := rrvalid_r rs hl.1 hl.2
  have hll := hl.1
  obtain ⟨O, C, e1, e2, b, h1, h2, h3, hO, hC, he1, he2, hE, hG⟩ := ord_spec rs hl hok
  unfold relV at *
  refine Reads.body (rs := [.tmp 2]) Try.func8 rfl Try.ntmps8 rfl (by simp) ?_
  generalize hQr : retQ _ _ _ = Qr
  refine AW.seq fun K1 hK1 => ?_
  -- region 0
  refine AW.regionK 0 (fun _ => none) [1] [1] ?_
  simp only [go_sem, reduceIte, reduceCtorEq, Nat.reduceAdd, Nat.reduceMul, Nat.reduceEqDiff, Nat.reduceLT, Nat.reduceLeDiff, Nat.reduceSub, Nat.reducePow, Nat.reduceBEq, Int.reduceToNat, List.reduceReplicate]
  repeat with_reducible refine cj ?_ ?_
  all_goals try first | omega
  refine hK1 _ _ _ ?_; clear hK1
  refine AW.seq fun K2 hK2 => ?_
  refine AW.seq fun K3 hK3 => ?_
  -- region 1
  refine AW.regionK 0 (fun ii => if ii = 0 then some (.reads false (.bool true)) else none) [1, 19] [1] ?_
  simp only [go_sem, reduceIte, reduceCtorEq, Nat.reduceAdd, Nat.reduceMul, Nat.reduceEqDiff, Nat.reduceLT, Nat.reduceLeDiff, Nat.reduceSub, Nat.reducePow, Nat.reduceBEq, Int.reduceToNat, List.reduceReplicate]
  repeat with_reducible refine cj ?_ ?_
  all_goals try first | (exact haw) | omega | exact ent (by kernel_rfl)
  refine hK3 _ _ _ ?_; clear hK3
  -- cond 1
  refine AW.cond rfl (by simp only [go_sem, reduceIte, reduceCtorEq, Nat.reduceAdd, Nat.reduceMul, Nat.reduceEqDiff, Nat.reduceLT, Nat.reduceLeDiff, Nat.reduceSub, Nat.reducePow, Nat.reduceBEq, Int.reduceToNat, List.reduceReplicate]) ?_ ?_
  · intro hb
    try simp only [hB, decide_eq_true_eq, decide_eq_false_iff_not] at hb
    simp at hb
  · intro hb
    try simp only [hB, decide_eq_true_eq, decide_eq_false_iff_not] at hb
    refine AW.skip ?_
    refine hK2 _ _ _ ?_; clear hK2
    refine AW.seq fun K4 hK4 => ?_
    refine AW.seq fun K5 hK5 => ?_
    -- region 3
    refine AW.regionK 0 (fun ii => if ii = 2 then some (.reads true (.bool ([rs].any greatB))) else if ii = 5 then some (.reads false (.bool (validR rs))) else none) [1, 27] [1] ?_
    simp only [go_sem, reduceIte, reduceCtorEq, Nat.reduceAdd, Nat.reduceMul, Nat.reduceEqDiff, Nat.reduceLT, Nat.reduceLeDiff, Nat.reduceSub, Nat.reducePow, Nat.reduceBEq, Int.reduceToNat, List.reduceReplicate]
    repeat with_reducible refine cj ?_ ?_
    all_goals try first | (first | exact hgr | exact hv1 | (intro hh; exact ⟨hh, hv1⟩)) | (intros; (repeat' apply And.intro) <;> first | assumption | (first | exact hgr | exact hv1 | (intro hh; exact ⟨hh, hv1⟩))) | omega | exact ent (by kernel_rfl) | (intro hgd; exact absurd hgd (by decide)) | rfl | (simp only [go_sem, reduceIte, reduceCtorEq, Nat.reduceAdd, Nat.reduceMul, Nat.reduceEqDiff, Nat.reduceLT, Nat.reduceLeDiff, Nat.reduceSub, Nat.reducePow, Nat.reduceBEq, Int.reduceToNat, List.reduceReplicate]; done) | (intro _hgd; simp_all [go_sem]; done)
    refine hK5 _ _ _ ?_; clear hK5
    -- cond 2
    refine AW.cond rfl (by simp only [go_sem, reduceIte, reduceCtorEq, Nat.reduceAdd, Nat.reduceMul, Nat.reduceEqDiff, Nat.reduceLT, Nat.reduceLeDiff, Nat.reduceSub, Nat.reducePow, Nat.reduceBEq, Int.reduceToNat, List.reduceReplicate]) ?_ ?_
    · intro hb
      try simp only [hB, decide_eq_true_eq, decide_eq_false_iff_not] at hb
      refine AW.seq fun K6 hK6 => ?_
      -- region 4
      refine AW.regionK 0 (fun _ => none) [2] [] ?_
      simp only [go_sem, reduceIte, reduceCtorEq, Nat.reduceAdd, Nat.reduceMul, Nat.reduceEqDiff, Nat.reduceLT, Nat.reduceLeDiff, Nat.reduceSub, Nat.reducePow, Nat.reduceBEq, Int.reduceToNat, List.reduceReplicate]
      repeat with_reducible refine cj ?_ ?_
      all_goals try first | omega
      refine hK6 _ _ _ ?_; clear hK6
      refine AW.ret ?_
      rw [← hQr]
      simp only [go_sem, reduceIte, reduceCtorEq, Nat.reduceAdd, Nat.reduceMul, Nat.reduceEqDiff, Nat.reduceLT, Nat.reduceLeDiff, Nat.reduceSub, Nat.reducePow, Nat.reduceBEq, Int.reduceToNat, List.reduceReplicate]
      exact Wk.refl _
    · intro hb
      try simp only [hB, decide_eq_true_eq, decide_eq_false_iff_not] at hb
      obtain ⟨t, ht, hs, hn, hab, hQA, hQB⟩ := hG hb.2
      have ea : rs.map rowV = tabR t := by rw [tabR_SB, ← ht]
      rw [ea]
      have htab := (table_r rs.length t hs hn).old
      rw [ea] at h1 h2 h3
      generalize rs.length = n at *
      have hlt : (tabR t).length = n := by rw [tabR_len, hs.len]
      have hrl := rowsR_len t
      have hlen := hs.len
      unfold relB at *
      refine AW.skip ?_
      refine hK4 _ _ _ ?_; clear hK4
      refine AW.seq fun K7 hK7 => ?_
      -- region 5
      refine AW.regionK 0 (fun _ => none) [1, 3] [1] ?_
      simp only [go_sem, reduceIte, reduceCtorEq, Nat.reduceAdd, Nat.reduceMul, Nat.reduceEqDiff, Nat.reduceLT, Nat.reduceLeDiff, Nat.reduceSub, Nat.reducePow, Nat.reduceBEq, Int.reduceToNat, List.reduceReplicate, hlt]
      repeat with_reducible refine cj ?_ ?_
      all_goals try first | omega
      refine hK7 _ _ _ ?_; clear hK7
      refine AW.seq fun K8 hK8 => ?_
      -- region 6
      refine AW.regionK 0 (fun ii => if ii = 1 then some (.reads false (.rsl 1 (rowsR t))) else none) [1, 3, 4] [1] ?_
      simp only [go_sem, reduceIte, reduceCtorEq, Nat.reduceAdd, Nat.reduceMul, Nat.reduceEqDiff, Nat.reduceLT, Nat.reduceLeDiff, Nat.reduceSub, Nat.reducePow, Nat.reduceBEq, Int.reduceToNat, List.reduceReplicate]
      repeat with_reducible refine cj ?_ ?_
      all_goals try first | (exact htab) | omega | exact ent (by kernel_rfl)
      refine hK8 _ _ _ ?_; clear hK8
      refine AW.seq fun K9 hK9 => ?_
      -- region 7
      refine AW.regionK 0 (fun ii => if ii = 1 then some (.reads false (.tup [.rsl 1 (ints O), .int .i64 e1])) else none) [1, 3, 4, 5, 6] [1] ?_
      simp only [go_sem, reduceIte, reduceCtorEq, Nat.reduceAdd, Nat.reduceMul, Nat.reduceEqDiff, Nat.reduceLT, Nat.reduceLeDiff, Nat.reduceSub, Nat.reducePow, Nat.reduceBEq, Int.reduceToNat, List.reduceReplicate]
      repeat with_reducible refine cj ?_ ?_
      all_goals try first | (exact h1) | omega | exact ent (by kernel_rfl)
      refine hK9 _ _ _ ?_; clear hK9
      refine AW.seq fun K10 hK10 => ?_
      -- region 8
      refine AW.regionK 0 (fun ii => if ii = 1 then some (.reads false (.tup [.rsl 1 (ints C), .int .i64 e2])) else none) [1, 3, 4, 5, 6, 7, 8] [1] ?_
      simp only [go_sem, reduceIte, reduceCtorEq, Nat.reduceAdd, Nat.reduceMul, Nat.reduceEqDiff, Nat.reduceLT, Nat.reduceLeDiff, Nat.reduceSub, Nat.reducePow, Nat.reduceBEq, Int.reduceToNat, List.reduceReplicate]
      repeat with_reducible refine cj ?_ ?_
      all_goals try first | (exact h2) | omega | exact ent (by kernel_rfl)
      refine hK10 _ _ _ ?_; clear hK10
      refine AW.seq fun K11 hK11 => ?_
      refine AW.seq fun K12 hK12 => ?_
      -- region 9
      refine AW.regionK 0 (fun ii => if ii = 7 then some (.reads false (.bool b)) else none) [3, 4, 5, 6, 7, 54] [] ?_
      simp only [go_sem, reduceIte, reduceCtorEq, Nat.reduceAdd, Nat.reduceMul, Nat.reduceEqDiff, Nat.reduceLT, Nat.reduceLeDiff, Nat.reduceSub, Nat.reducePow, Nat.reduceBEq, Int.reduceToNat, List.reduceReplicate]
      repeat with_reducible refine cj ?_ ?_
      all_goals try first | (first | exact h3 | (intro hh; exact ⟨hh, h3⟩)) | (intros; (repeat' apply And.intro) <;> first | assumption | (first | exact h3 | (intro hh; exact ⟨hh, h3⟩))) | omega | exact ent (by kernel_rfl) | (intro hgd; exact absurd hgd (by decide)) | rfl | (simp only [go_sem, reduceIte, reduceCtorEq, Nat.reduceAdd, Nat.reduceMul, Nat.reduceEqDiff, Nat.reduceLT, Nat.reduceLeDiff, Nat.reduceSub, Nat.reducePow, Nat.reduceBEq, Int.reduceToNat, List.reduceReplicate]; done) | (intro _hgd; simp_all [go_sem]; done)
      refine hK12 _ _ _ ?_; clear hK12
      -- cond 3
      refine AW.cond rfl (by simp only [go_sem, reduceIte, reduceCtorEq, Nat.reduceAdd, Nat.reduceMul, Nat.reduceEqDiff, Nat.reduceLT, Nat.reduceLeDiff, Nat.reduceSub, Nat.reducePow, Nat.reduceBEq, Int.reduceToNat, List.reduceReplicate]) ?_ ?_
      · intro hb
        try simp only [hB, decide_eq_true_eq, decide_eq_false_iff_not] at hb
        exfalso
        by_cases ha : acyc n t = true
        · obtain ⟨rfl, _, _, _, rfl, _⟩ := hQA ha
          rw [ha] at hab; subst hab; simp at hb
        · obtain ⟨rfl, _, rfl, _⟩ := hQB (by simpa using ha)
          have hab2 : b = false := by rw [hab]; simpa using ha
          subst hab2; simp at hb
      · intro hb
        try simp only [hB, decide_eq_true_eq, decide_eq_false_iff_not] at hb
        refine AW.skip ?_
        refine hK11 _ _ _ ?_; clear hK11
        refine AW.seq fun K13 hK13 => ?_
        refine AW.seq fun K14 hK14 => ?_
        -- region 11
        refine AW.regionK 0 (fun _ => none) [3, 4, 5, 7, 56] [] ?_
        simp only [go_sem, reduceIte, reduceCtorEq, Nat.reduceAdd, Nat.reduceMul, Nat.reduceEqDiff, Nat.reduceLT, Nat.reduceLeDiff, Nat.reduceSub, Nat.reducePow, Nat.reduceBEq, Int.reduceToNat, List.reduceReplicate]
        repeat with_reducible refine cj ?_ ?_
        all_goals try first | omega
        refine hK14 _ _ _ ?_; clear hK14
        -- cond 4
        refine AW.cond rfl (by simp only [go_sem, reduceIte, reduceCtorEq, Nat.reduceAdd, Nat.reduceMul, Nat.reduceEqDiff, Nat.reduceLT, Nat.reduceLeDiff, Nat.reduceSub, Nat.reducePow, Nat.reduceBEq, Int.reduceToNat, List.reduceReplicate]) ?_ ?_
        · intro hb
          try simp only [hB, decide_eq_true_eq, decide_eq_false_iff_not] at hb
          have hac : acyc n t = true := by
            by_cases ha : acyc n t = true
            · exact ha
            · obtain ⟨rfl, _⟩ := hQB (by simpa using ha); omega
          obtain ⟨_, hO1, hO2, hO3, _, _⟩ := hQA hac
          generalize ordO n t n [] = out at *
          have hol : out.length = n := by rw [hO1, nats_len] at hO3; exact hO3
          have hO4 : ∀ k, k < n → O.getD k 0 = (out.getD k 0 : Nat) ∧ out[k]? = some (out.getD k 0) ∧ out.getD k 0 < n := fun k hk => by
            have h1 : out[k]? = some (out.getD k 0) := by rw [List.getElem?_eq_getElem (by omega)]; simp [List.getD_eq_getElem?_getD, show k < out.length by omega]
            exact ⟨by rw [hO1]; exact nats_get (by omega), h1, hO2.rng _ (List.mem_of_getElem? h1)⟩
          have hgO := fun k (hk : k < n) => ints_getD (l := O) (i := k) (by omega)
          refine AW.seq fun K15 hK15 => ?_
          refine AW.seq fun K16 hK16 => ?_
          -- region 12
          refine AW.regionK 0 (fun _ => none) [3, 4, 5, 60] [] ?_
          simp only [go_sem, reduceIte, reduceCtorEq, Nat.reduceAdd, Nat.reduceMul, Nat.reduceEqDiff, Nat.reduceLT, Nat.reduceLeDiff, Nat.reduceSub, Nat.reducePow, Nat.reduceBEq, Int.reduceToNat, List.reduceReplicate]
          repeat with_reducible refine cj ?_ ?_
          all_goals try first | omega
          refine hK16 _ _ _ ?_; clear hK16
          -- cond 5
          refine AW.cond rfl (by simp only [go_sem, reduceIte, reduceCtorEq, Nat.reduceAdd, Nat.reduceMul, Nat.reduceEqDiff, Nat.reduceLT, Nat.reduceLeDiff, Nat.reduceSub, Nat.reducePow, Nat.reduceBEq, Int.reduceToNat, List.reduceReplicate]) ?_ ?_
          · intro hb
            try simp only [hB, decide_eq_true_eq, decide_eq_false_iff_not] at hb
            exfalso; omega
          · intro hb
            try simp only [hB, decide_eq_true_eq, decide_eq_false_iff_not] at hb
            refine AW.skip ?_
            refine hK15 _ _ _ ?_; clear hK15
            refine AW.seq fun K17 hK17 => ?_
            -- region 14
            refine AW.regionK 0 (fun _ => none) [3, 4, 5, 9] [62] ?_
            simp only [go_sem, reduceIte, reduceCtorEq, Nat.reduceAdd, Nat.reduceMul, Nat.reduceEqDiff, Nat.reduceLT, Nat.reduceLeDiff, Nat.reduceSub, Nat.reducePow, Nat.reduceBEq, Int.reduceToNat, List.reduceReplicate]
            repeat with_reducible refine cj ?_ ?_
            all_goals try first | omega
            refine hK17 _ _ _ ?_; clear hK17
            refine AW.seq fun K18 hK18 => ?_
            refine AW.seq fun K19 hK19 => ?_
            -- region 15
            refine AW.regionK 0 (fun _ => none) [3, 4, 9, 63, 64, 65] [62] ?_
            simp only [go_sem, reduceIte, reduceCtorEq, Nat.reduceAdd, Nat.reduceMul, Nat.reduceEqDiff, Nat.reduceLT, Nat.reduceLeDiff, Nat.reduceSub, Nat.reducePow, Nat.reduceBEq, Int.reduceToNat, List.reduceReplicate]
            repeat with_reducible refine cj ?_ ?_
            all_goals try first | omega
            refine hK19 _ _ _ ?_; clear hK19
            refine AW.block ?_
            -- loop 1
            refine AW.loopE (fun mm ee ss kk => ∃ (k g v : Nat) (A : List Int), n - k = mm ∧ ee = [(3, .int .i64 n), (4, .rsl 1 (rowsR t)), (9, .sl ⟨62, g, none⟩ 0 n none), (63, .rsl 1 (ints O)), (64, .int .i64 O.length), (65, .int .i64 (k : Nat))] ∧ ss = [(62, some ⟨g, v, 1, ints A⟩)] ∧ (k ≤ n ∧ AtI n out k A)) ?_ ?_
            · refine ⟨_, 0, ?_, ?_, List.replicate n 0, rfl, ?henv, ?hstore, ?hst⟩
              case henv =>
                repeat' (first | rfl | refine env_cons ?_ ?_ | refine st_cons ?_ ?_ ?_ ?_ | refine int_eq ?_ | refine bool_eq ?_ | refine rsl_eq ?_ | refine osl_eq ?_ | refine sl_eq ?_ ?_ ?_ | refine ptr_eq ?_ ?_ ?_ | refine agg_eq ?_ | refine es_cons ?_ ?_ | refine row_cons ?_ ?_)
                all_goals (first | (simp; done) | omega | (simp; omega))
              case hstore =>
                repeat' (first | rfl | refine env_cons ?_ ?_ | refine st_cons ?_ ?_ ?_ ?_ | refine int_eq ?_ | refine bool_eq ?_ | refine rsl_eq ?_ | refine osl_eq ?_ | refine sl_eq ?_ ?_ ?_ | refine ptr_eq ?_ ?_ ?_ | refine agg_eq ?_ | refine es_cons ?_ ?_ | refine row_cons ?_ ?_)
                all_goals (simp [ints])
              case hst =>
                exact ⟨Nat.zero_le _, AtI.start n out⟩
            rintro mm ee ss kk ⟨k, g, v, A, rfl, rfl, rfl, hI⟩
            generalize hQl1 : thenQ _ _ = Ql1
            obtain ⟨hk, hA1⟩ := hI
            have hAl := hA1.len
            refine AW.seq fun K20 hK20 => ?_
            -- region 16
            refine AW.regionK 0 (fun _ => none) [3, 4, 9, 63, 64, 65, 66] [62] ?_
            simp only [go_sem, reduceIte, reduceCtorEq, Nat.reduceAdd, Nat.reduceMul, Nat.reduceEqDiff, Nat.reduceLT, Nat.reduceLeDiff, Nat.reduceSub, Nat.reducePow, Nat.reduceBEq, Int.reduceToNat, List.reduceReplicate]
            repeat with_reducible refine cj ?_ ?_
            all_goals try first | omega
            refine hK20 _ _ _ ?_; clear hK20
            refine AW.seq fun K21 hK21 => ?_
            -- cond 6
            refine AW.cond rfl (by simp only [go_sem, reduceIte, reduceCtorEq, Nat.reduceAdd, Nat.reduceMul, Nat.reduceEqDiff, Nat.reduceLT, Nat.reduceLeDiff, Nat.reduceSub, Nat.reducePow, Nat.reduceBEq, Int.reduceToNat, List.reduceReplicate]) ?_ ?_
            · intro hb
              try simp only [hB, decide_eq_true_eq, decide_eq_false_iff_not] at hb
              obtain ⟨h61, h62, h63⟩ := hO4 k (by omega)
              have hgk := hgO k (by omega)
              have hz := hA1.zero hO2.nd h62
              have hst := hA1.step hO2.nd h62 h63
              rw [h61] at hgk
              generalize out.getD k 0 = x at *
              have hgx := ints_getD (l := A) (i := x) (by omega)
              rw [hz] at hgx
              refine AW.skip ?_
              refine hK21 _ _ _ ?_; clear hK21
              refine AW.seq fun K22 hK22 => ?_
              refine AW.block ?_
              refine AW.seq fun K23 hK23 => ?_
              -- region 17
              refine AW.regionK 0 (fun _ => none) [3, 4, 9, 10, 11, 63, 64, 65] [62] ?_
              simp only [go_sem, reduceIte, reduceCtorEq, Nat.reduceAdd, Nat.reduceMul, Nat.reduceEqDiff, Nat.reduceLT, Nat.reduceLeDiff, Nat.reduceSub, Nat.reducePow, Nat.reduceBEq, Int.reduceToNat, List.reduceReplicate, hgk]
              repeat with_reducible refine cj ?_ ?_
              all_goals try first | omega
              refine hK23 _ _ _ ?_; clear hK23
              refine AW.seq fun K24 hK24 => ?_
              refine AW.seq fun K25 hK25 => ?_
              -- region 18
              refine AW.regionK 0 (fun _ => none) [3, 4, 9, 10, 11, 63, 64, 65, 83] [62] ?_
              simp only [go_sem, reduceIte, reduceCtorEq, Nat.reduceAdd, Nat.reduceMul, Nat.reduceEqDiff, Nat.reduceLT, Nat.reduceLeDiff, Nat.reduceSub, Nat.reducePow, Nat.reduceBEq, Int.reduceToNat, List.reduceReplicate, hgx, hAl]
              repeat with_reducible refine cj ?_ ?_
              all_goals try first | omega | (intros; (repeat' apply And.intro) <;> first | assumption | omega | decide) | (intro hgd; exact absurd hgd (by decide)) | rfl | (simp only [go_sem, reduceIte, reduceCtorEq, Nat.reduceAdd, Nat.reduceMul, Nat.reduceEqDiff, Nat.reduceLT, Nat.reduceLeDiff, Nat.reduceSub, Nat.reducePow, Nat.reduceBEq, Int.reduceToNat, List.reduceReplicate, hgx, hAl]; done) | (intro _hgd; simp_all [go_sem]; done)
              refine hK25 _ _ _ ?_; clear hK25
              -- cond 7
              refine AW.cond rfl (by simp only [go_sem, reduceIte, reduceCtorEq, Nat.reduceAdd, Nat.reduceMul, Nat.reduceEqDiff, Nat.reduceLT, Nat.reduceLeDiff, Nat.reduceSub, Nat.reducePow, Nat.reduceBEq, Int.reduceToNat, List.reduceReplicate]) ?_ ?_
              · intro hb
                try simp only [hB, decide_eq_true_eq, decide_eq_false_iff_not] at hb
                exfalso; simp at hb; omega
              · intro hb
                try simp only [hB, decide_eq_true_eq, decide_eq_false_iff_not] at hb
                refine AW.skip ?_
                refine hK24 _ _ _ ?_; clear hK24
                -- region 20
                refine AW.regionK 0 (fun _ => none) [3, 4, 9, 63, 64, 65] [62] ?_
                simp only [go_sem, reduceIte, reduceCtorEq, Nat.reduceAdd, Nat.reduceMul, Nat.reduceEqDiff, Nat.reduceLT, Nat.reduceLeDiff, Nat.reduceSub, Nat.reducePow, Nat.reduceBEq, Int.reduceToNat, List.reduceReplicate, hAl]
                repeat with_reducible refine cj ?_ ?_
                all_goals try first | omega
                refine hK22 _ _ _ ?_; clear hK22
                -- region 21
                refine AW.regionK 0 (fun _ => none) [3, 4, 9, 63, 64, 65] [62] ?_
                simp only [go_sem, reduceIte, reduceCtorEq, Nat.reduceAdd, Nat.reduceMul, Nat.reduceEqDiff, Nat.reduceLT, Nat.reduceLeDiff, Nat.reduceSub, Nat.reducePow, Nat.reduceBEq, Int.reduceToNat, List.reduceReplicate]
                repeat with_reducible refine cj ?_ ?_
                all_goals try first | omega
                rw [← hQl1]
                change Exists _
                refine ⟨_, ?hm, k + 1, ?_, ?_, A.set x (k + 1), rfl, ?henv, ?hstore, ?hst⟩
                case henv =>
                  repeat' (first | rfl | refine env_cons ?_ ?_ | refine st_cons ?_ ?_ ?_ ?_ | refine int_eq ?_ | refine bool_eq ?_ | refine rsl_eq ?_ | refine osl_eq ?_ | refine sl_eq ?_ ?_ ?_ | refine ptr_eq ?_ ?_ ?_ | refine agg_eq ?_ | refine es_cons ?_ ?_ | refine row_cons ?_ ?_)
                  all_goals (first | (simp; done) | omega | (simp; omega))
                case hstore =>
                  repeat' (first | rfl | refine env_cons ?_ ?_ | refine st_cons ?_ ?_ ?_ ?_ | refine int_eq ?_ | refine bool_eq ?_ | refine rsl_eq ?_ | refine osl_eq ?_ | refine sl_eq ?_ ?_ ?_ | refine ptr_eq ?_ ?_ ?_ | refine agg_eq ?_ | refine es_cons ?_ ?_ | refine row_cons ?_ ?_)
                  all_goals (first | (simp; done) | omega | (simp; omega))
                case hst =>
                  exact ⟨by omega, hst⟩
                case hm => omega
            · intro hb
              try simp only [hB, decide_eq_true_eq, decide_eq_false_iff_not] at hb
              have hkn : k = n := by omega
              rw [hkn] at hA1
              have hlt1 := fun i j (hi : i < n) (hj : j < n) he => hA1.lt hO2 hol (i := i) (j := j) hi hj he
              refine AW.exit ?_
              rw [← hQl1]
              refine hK18 _ _ _ ?_; clear hK18
              refine AW.seq fun K26 hK26 => ?_
              refine AW.seq fun K27 hK27 => ?_
              -- region 22
              refine AW.regionK 0 (fun _ => none) [3, 4, 9, 90, 91] [62] ?_
              simp only [go_sem, reduceIte, reduceCtorEq, Nat.reduceAdd, Nat.reduceMul, Nat.reduceEqDiff, Nat.reduceLT, Nat.reduceLeDiff, Nat.reduceSub, Nat.reducePow, Nat.reduceBEq, Int.reduceToNat, List.reduceReplicate]
              repeat with_reducible refine cj ?_ ?_
              all_goals try first | omega
              refine hK27 _ _ _ ?_; clear hK27
              refine AW.block ?_
              -- loop 2
              refine AW.loopE (fun mm ee ss kk => ∃ (i g v : Nat), n - i = mm ∧ ee = [(3, .int .i64 n), (4, .rsl 1 (rowsR t)), (9, .sl ⟨62, g, none⟩ 0 n none), (90, .int .i64 n), (91, .int .i64 (i : Nat))] ∧ ss = [(62, some ⟨g, v, 1, ints A⟩)] ∧ (i ≤ n)) ?_ ?_
              · refine ⟨_, 0, ?_, ?_, rfl, ?henv, ?hstore, ?hst⟩
                case henv =>
                  repeat' (first | rfl | refine env_cons ?_ ?_ | refine st_cons ?_ ?_ ?_ ?_ | refine int_eq ?_ | refine bool_eq ?_ | refine rsl_eq ?_ | refine osl_eq ?_ | refine sl_eq ?_ ?_ ?_ | refine ptr_eq ?_ ?_ ?_ | refine agg_eq ?_ | refine es_cons ?_ ?_ | refine row_cons ?_ ?_)
                  all_goals (first | (simp; done) | omega | (simp; omega))
                case hstore =>
                  repeat' (first | rfl | refine env_cons ?_ ?_ | refine st_cons ?_ ?_ ?_ ?_ | refine int_eq ?_ | refine bool_eq ?_ | refine rsl_eq ?_ | refine osl_eq ?_ | refine sl_eq ?_ ?_ ?_ | refine ptr_eq ?_ ?_ ?_ | refine agg_eq ?_ | refine es_cons ?_ ?_ | refine row_cons ?_ ?_)
                  all_goals (first | (simp; done) | omega | (simp; omega))
                case hst =>
                  first | trivial | omega | (simp; done) | (simp; omega)
              rintro mm ee ss kk ⟨i, g, v, rfl, rfl, rfl, hI⟩
              generalize hQl2 : thenQ _ _ = Ql2
              refine AW.seq fun K28 hK28 => ?_
              -- region 23
              refine AW.regionK 0 (fun _ => none) [3, 4, 9, 90, 91, 92] [62] ?_
              simp only [go_sem, reduceIte, reduceCtorEq, Nat.reduceAdd, Nat.reduceMul, Nat.reduceEqDiff, Nat.reduceLT, Nat.reduceLeDiff, Nat.reduceSub, Nat.reducePow, Nat.reduceBEq, Int.reduceToNat, List.reduceReplicate]
              repeat with_reducible refine cj ?_ ?_
              all_goals try first | omega
              refine hK28 _ _ _ ?_; clear hK28
              refine AW.seq fun K29 hK29 => ?_
              -- cond 8
              refine AW.cond rfl (by simp only [go_sem, reduceIte, reduceCtorEq, Nat.reduceAdd, Nat.reduceMul, Nat.reduceEqDiff, Nat.reduceLT, Nat.reduceLeDiff, Nat.reduceSub, Nat.reducePow, Nat.reduceBEq, Int.reduceToNat, List.reduceReplicate]) ?_ ?_
              · intro hb
                try simp only [hB, decide_eq_true_eq, decide_eq_false_iff_not] at hb
                have hgr := rowsR_get (t := t) (i := i) (by omega)
                have hrw := hs.rowLen (i := i) (by omega)
                have hgi := ints_getD (l := A) (i := i) (by omega)
                refine AW.skip ?_
                refine hK29 _ _ _ ?_; clear hK29
                refine AW.seq fun K30 hK30 => ?_
                refine AW.block ?_
                refine AW.seq fun K31 hK31 => ?_
                -- region 24
                refine AW.regionK 0 (fun _ => none) [3, 4, 9, 12, 90, 91] [62] ?_
                simp only [go_sem, reduceIte, reduceCtorEq, Nat.reduceAdd, Nat.reduceMul, Nat.reduceEqDiff, Nat.reduceLT, Nat.reduceLeDiff, Nat.reduceSub, Nat.reducePow, Nat.reduceBEq, Int.reduceToNat, List.reduceReplicate]
                repeat with_reducible refine cj ?_ ?_
                all_goals try first | omega
                refine hK31 _ _ _ ?_; clear hK31
                refine AW.seq fun K32 hK32 => ?_
                -- region 25
                refine AW.regionK 0 (fun _ => none) [3, 4, 9, 12, 90, 91, 94, 95] [62] ?_
                simp only [go_sem, reduceIte, reduceCtorEq, Nat.reduceAdd, Nat.reduceMul, Nat.reduceEqDiff, Nat.reduceLT, Nat.reduceLeDiff, Nat.reduceSub, Nat.reducePow, Nat.reduceBEq, Int.reduceToNat, List.reduceReplicate]
                repeat with_reducible refine cj ?_ ?_
                all_goals try first | omega
                refine hK32 _ _ _ ?_; clear hK32
                refine AW.block ?_
                -- loop 3
                refine AW.loopE (fun mm ee ss kk => ∃ (j g v : Nat), n - j = mm ∧ ee = [(3, .int .i64 n), (4, .rsl 1 (rowsR t)), (9, .sl ⟨62, g, none⟩ 0 n none), (12, .int .i64 (i : Nat)), (90, .int .i64 n), (91, .int .i64 (i : Nat)), (94, .int .i64 n), (95, .int .i64 (j : Nat))] ∧ ss = [(62, some ⟨g, v, 1, ints A⟩)] ∧ (j ≤ n)) ?_ ?_
                · refine ⟨_, 0, ?_, ?_, rfl, ?henv, ?hstore, ?hst⟩
                  case henv =>
                    repeat' (first | rfl | refine env_cons ?_ ?_ | refine st_cons ?_ ?_ ?_ ?_ | refine int_eq ?_ | refine bool_eq ?_ | refine rsl_eq ?_ | refine osl_eq ?_ | refine sl_eq ?_ ?_ ?_ | refine ptr_eq ?_ ?_ ?_ | refine agg_eq ?_ | refine es_cons ?_ ?_ | refine row_cons ?_ ?_)
                    all_goals (first | (simp; done) | omega | (simp; omega))
                  case hstore =>
                    repeat' (first | rfl | refine env_cons ?_ ?_ | refine st_cons ?_ ?_ ?_ ?_ | refine int_eq ?_ | refine bool_eq ?_ | refine rsl_eq ?_ | refine osl_eq ?_ | refine sl_eq ?_ ?_ ?_ | refine ptr_eq ?_ ?_ ?_ | refine agg_eq ?_ | refine es_cons ?_ ?_ | refine row_cons ?_ ?_)
                    all_goals (first | (simp; done) | omega | (simp; omega))
                  case hst =>
                    first | trivial | omega | (simp; done) | (simp; omega)
                rintro mm ee ss kk ⟨j, g, v, rfl, rfl, rfl, hI⟩
                generalize hQl3 : thenQ _ _ = Ql3
                refine AW.seq fun K33 hK33 => ?_
                -- region 26
                refine AW.regionK 0 (fun _ => none) [3, 4, 9, 12, 90, 91, 94, 95, 96] [62] ?_
                simp only [go_sem, reduceIte, reduceCtorEq, Nat.reduceAdd, Nat.reduceMul, Nat.reduceEqDiff, Nat.reduceLT, Nat.reduceLeDiff, Nat.reduceSub, Nat.reducePow, Nat.reduceBEq, Int.reduceToNat, List.reduceReplicate]
                repeat with_reducible refine cj ?_ ?_
                all_goals try first | omega
                refine hK33 _ _ _ ?_; clear hK33
                refine AW.seq fun K34 hK34 => ?_
                -- cond 9
                refine AW.cond rfl (by simp only [go_sem, reduceIte, reduceCtorEq, Nat.reduceAdd, Nat.reduceMul, Nat.reduceEqDiff, Nat.reduceLT, Nat.reduceLeDiff, Nat.reduceSub, Nat.reducePow, Nat.reduceBEq, Int.reduceToNat, List.reduceReplicate]) ?_ ?_
                · intro hb
                  try simp only [hB, decide_eq_true_eq, decide_eq_false_iff_not] at hb
                  have hgb := bools_getD (l := rowT t i) (i := j) (by omega)
                  have hat : (rowT t i).getD j false = atT t i j := rfl
                  rw [hat] at hgb
                  have hgj := ints_getD (l := A) (i := j) (by omega)
                  have hltj := hlt1 i j (by omega) (by omega)
                  refine AW.skip ?_
                  refine hK34 _ _ _ ?_; clear hK34
                  refine AW.seq fun K35 hK35 => ?_
                  refine AW.block ?_
                  refine AW.seq fun K36 hK36 => ?_
                  -- region 27
                  refine AW.regionK 0 (fun _ => none) [3, 4, 9, 12, 13, 90, 91, 94, 95] [62] ?_
                  simp only [go_sem, reduceIte, reduceCtorEq, Nat.reduceAdd, Nat.reduceMul, Nat.reduceEqDiff, Nat.reduceLT, Nat.reduceLeDiff, Nat.reduceSub, Nat.reducePow, Nat.reduceBEq, Int.reduceToNat, List.reduceReplicate]
                  repeat with_reducible refine cj ?_ ?_
                  all_goals try first | omega
                  refine hK36 _ _ _ ?_; clear hK36
                  refine AW.seq fun K37 hK37 => ?_
                  -- region 28
                  refine AW.regionD mixed 0 (fun _ => none) [3, 4, 9, 12, 90, 91, 94, 95, 115] [62] ?_
                  simp only [go_sem, reduceIte, reduceCtorEq, Nat.reduceAdd, Nat.reduceMul, Nat.reduceEqDiff, Nat.reduceLT, Nat.reduceLeDiff, Nat.reduceSub, Nat.reducePow, Nat.reduceBEq, Int.reduceToNat, List.reduceReplicate, hgr, hrw, hgb, hgi, hgj, hAl]
                  repeat with_reducible refine cj ?_ ?_
                  all_goals try first | omega | exact chk (by kernel_rfl) | (intros; (repeat' apply And.intro) <;> first | assumption | omega | decide) | (intro hgd; exact absurd hgd (by decide)) | rfl | (simp only [go_sem, reduceIte, reduceCtorEq, Nat.reduceAdd, Nat.reduceMul, Nat.reduceEqDiff, Nat.reduceLT, Nat.reduceLeDiff, Nat.reduceSub, Nat.reducePow, Nat.reduceBEq, Int.reduceToNat, List.reduceReplicate, hgr, hrw, hgb, hgi, hgj, hAl]; done) | (intro _hgd; simp_all [go_sem]; done)
                  refine hK37 _ _ _ ?_; clear hK37
                  -- cond 10
                  refine AW.cond rfl (by simp only [go_sem, reduceIte, reduceCtorEq, Nat.reduceAdd, Nat.reduceMul, Nat.reduceEqDiff, Nat.reduceLT, Nat.reduceLeDiff, Nat.reduceSub, Nat.reducePow, Nat.reduceBEq, Int.reduceToNat, List.reduceReplicate]) ?_ ?_
                  · intro hb
                    try simp only [hB, decide_eq_true_eq, decide_eq_false_iff_not] at hb
                    exfalso; have := hltj hb.1; omega
                  · intro hb
                    try simp only [hB, decide_eq_true_eq, decide_eq_false_iff_not] at hb
                    refine AW.skip ?_
                    refine hK35 _ _ _ ?_; clear hK35
                    -- region 30
                    refine AW.regionK 0 (fun _ => none) [3, 4, 9, 12, 90, 91, 94, 95] [62] ?_
                    simp only [go_sem, reduceIte, reduceCtorEq, Nat.reduceAdd, Nat.reduceMul, Nat.reduceEqDiff, Nat.reduceLT, Nat.reduceLeDiff, Nat.reduceSub, Nat.reducePow, Nat.reduceBEq, Int.reduceToNat, List.reduceReplicate]
                    repeat with_reducible refine cj ?_ ?_
                    all_goals try first | omega
                    rw [← hQl3]
                    change Exists _
                    refine ⟨_, ?hm, j + 1, ?_, ?_, rfl, ?henv, ?hstore, ?hst⟩
                    case henv =>
                      repeat' (first | rfl | refine env_cons ?_ ?_ | refine st_cons ?_ ?_ ?_ ?_ | refine int_eq ?_ | refine bool_eq ?_ | refine rsl_eq ?_ | refine osl_eq ?_ | refine sl_eq ?_ ?_ ?_ | refine ptr_eq ?_ ?_ ?_ | refine agg_eq ?_ | refine es_cons ?_ ?_ | refine row_cons ?_ ?_)
                      all_goals (first | (simp; done) | omega | (simp; omega))
                    case hstore =>
                      repeat' (first | rfl | refine env_cons ?_ ?_ | refine st_cons ?_ ?_ ?_ ?_ | refine int_eq ?_ | refine bool_eq ?_ | refine rsl_eq ?_ | refine osl_eq ?_ | refine sl_eq ?_ ?_ ?_ | refine ptr_eq ?_ ?_ ?_ | refine agg_eq ?_ | refine es_cons ?_ ?_ | refine row_cons ?_ ?_)
                      all_goals (first | (simp; done) | omega | (simp; omega))
                    case hst =>
                      first | trivial | omega | (simp; done) | (simp; omega)
                    case hm => omega
                · intro hb
                  try simp only [hB, decide_eq_true_eq, decide_eq_false_iff_not] at hb
                  refine AW.exit ?_
                  rw [← hQl3]
                  refine hK30 _ _ _ ?_; clear hK30
                  -- region 31
                  refine AW.regionK 0 (fun _ => none) [3, 4, 9, 90, 91] [62] ?_
                  simp only [go_sem, reduceIte, reduceCtorEq, Nat.reduceAdd, Nat.reduceMul, Nat.reduceEqDiff, Nat.reduceLT, Nat.reduceLeDiff, Nat.reduceSub, Nat.reducePow, Nat.reduceBEq, Int.reduceToNat, List.reduceReplicate]
                  repeat with_reducible refine cj ?_ ?_
                  all_goals try first | omega
                  rw [← hQl2]
                  change Exists _
                  refine ⟨_, ?hm, i + 1, ?_, ?_, rfl, ?henv, ?hstore, ?hst⟩
                  case henv =>
                    repeat' (first | rfl | refine env_cons ?_ ?_ | refine st_cons ?_ ?_ ?_ ?_ | refine int_eq ?_ | refine bool_eq ?_ | refine rsl_eq ?_ | refine osl_eq ?_ | refine sl_eq ?_ ?_ ?_ | refine ptr_eq ?_ ?_ ?_ | refine agg_eq ?_ | refine es_cons ?_ ?_ | refine row_cons ?_ ?_)
                    all_goals (first | (simp; done) | omega | (simp; omega))
                  case hstore =>
                    repeat' (first | rfl | refine env_cons ?_ ?_ | refine st_cons ?_ ?_ ?_ ?_ | refine int_eq ?_ | refine bool_eq ?_ | refine rsl_eq ?_ | refine osl_eq ?_ | refine sl_eq ?_ ?_ ?_ | refine ptr_eq ?_ ?_ ?_ | refine agg_eq ?_ | refine es_cons ?_ ?_ | refine row_cons ?_ ?_)
                    all_goals (first | (simp; done) | omega | (simp; omega))
                  case hst =>
                    first | trivial | omega | (simp; done) | (simp; omega)
                  case hm => omega
              · intro hb
                try simp only [hB, decide_eq_true_eq, decide_eq_false_iff_not] at hb
                refine AW.exit ?_
                rw [← hQl2]
                refine hK26 _ _ _ ?_; clear hK26
                refine AW.seq fun K38 hK38 => ?_
                -- region 32
                refine AW.regionK 0 (fun _ => none) [2] [] ?_
                simp only [go_sem, reduceIte, reduceCtorEq, Nat.reduceAdd, Nat.reduceMul, Nat.reduceEqDiff, Nat.reduceLT, Nat.reduceLeDiff, Nat.reduceSub, Nat.reducePow, Nat.reduceBEq, Int.reduceToNat, List.reduceReplicate]
                repeat with_reducible refine cj ?_ ?_
                all_goals try first | omega
                refine hK38 _ _ _ ?_; clear hK38
                refine AW.ret ?_
                rw [← hQr]
                simp only [go_sem, reduceIte, reduceCtorEq, Nat.reduceAdd, Nat.reduceMul, Nat.reduceEqDiff, Nat.reduceLT, Nat.reduceLeDiff, Nat.reduceSub, Nat.reducePow, Nat.reduceBEq, Int.reduceToNat, List.reduceReplicate]
                exact Wk.refl _
        · intro hb
          try simp only [hB, decide_eq_true_eq, decide_eq_false_iff_not] at hb
          have hac : acyc n t = false := by
            by_cases ha : acyc n t = true
            · obtain ⟨rfl, _⟩ := hQA ha; omega
            · simpa using ha
          obtain ⟨_, _, _, f, _, hcy⟩ := hQB hac
          obtain ⟨hc0, hcn⟩ := hcy.len
          have hgC := fun k (hk : k < C.length) => ints_getD (l := C) (i := k) hk
          refine AW.skip ?_
          refine hK13 _ _ _ ?_; clear hK13
          refine AW.seq fun K39 hK39 => ?_
          refine AW.seq fun K40 hK40 => ?_
          -- region 33
          refine AW.regionK 0 (fun _ => none) [3, 4, 7, 126] [] ?_
          simp only [go_sem, reduceIte, reduceCtorEq, Nat.reduceAdd, Nat.reduceMul, Nat.reduceEqDiff, Nat.reduceLT, Nat.reduceLeDiff, Nat.reduceSub, Nat.reducePow, Nat.reduceBEq, Int.reduceToNat, List.reduceReplicate]
          repeat with_reducible refine cj ?_ ?_
          all_goals try first | omega | (intros; (repeat' apply And.intro) <;> first | assumption | omega | decide) | (intro hgd; exact absurd hgd (by decide)) | rfl | (simp only [go_sem, reduceIte, reduceCtorEq, Nat.reduceAdd, Nat.reduceMul, Nat.reduceEqDiff, Nat.reduceLT, Nat.reduceLeDiff, Nat.reduceSub, Nat.reducePow, Nat.reduceBEq, Int.reduceToNat, List.reduceReplicate]; done) | (intro _hgd; simp_all [go_sem]; done)
          refine hK40 _ _ _ ?_; clear hK40
          -- cond 11
          refine AW.cond rfl (by simp only [go_sem, reduceIte, reduceCtorEq, Nat.reduceAdd, Nat.reduceMul, Nat.reduceEqDiff, Nat.reduceLT, Nat.reduceLeDiff, Nat.reduceSub, Nat.reducePow, Nat.reduceBEq, Int.reduceToNat, List.reduceReplicate]) ?_ ?_
          · intro hb
            try simp only [hB, decide_eq_true_eq, decide_eq_false_iff_not] at hb
            exfalso; omega
          · intro hb
            try simp only [hB, decide_eq_true_eq, decide_eq_false_iff_not] at hb
            refine AW.skip ?_
            refine hK39 _ _ _ ?_; clear hK39
            refine AW.seq fun K41 hK41 => ?_
            -- region 35
            refine AW.regionK 0 (fun _ => none) [3, 4, 7, 14] [128] ?_
            simp only [go_sem, reduceIte, reduceCtorEq, Nat.reduceAdd, Nat.reduceMul, Nat.reduceEqDiff, Nat.reduceLT, Nat.reduceLeDiff, Nat.reduceSub, Nat.reducePow, Nat.reduceBEq, Int.reduceToNat, List.reduceReplicate]
            repeat with_reducible refine cj ?_ ?_
            all_goals try first | omega
            refine hK41 _ _ _ ?_; clear hK41
            refine AW.seq fun K42 hK42 => ?_
            refine AW.seq fun K43 hK43 => ?_
            -- region 36
            refine AW.regionK 0 (fun _ => none) [3, 4, 7, 14, 129, 130, 131] [128] ?_
            simp only [go_sem, reduceIte, reduceCtorEq, Nat.reduceAdd, Nat.reduceMul, Nat.reduceEqDiff, Nat.reduceLT, Nat.reduceLeDiff, Nat.reduceSub, Nat.reducePow, Nat.reduceBEq, Int.reduceToNat, List.reduceReplicate]
            repeat with_reducible refine cj ?_ ?_
            all_goals try first | omega
            refine hK43 _ _ _ ?_; clear hK43
            refine AW.block ?_
            -- loop 4
            refine AW.loopE (fun mm ee ss kk => ∃ (k g v : Nat) (S : List Bool), C.length - k = mm ∧ ee = [(3, .int .i64 n), (4, .rsl 1 (rowsR t)), (7, .rsl 1 (ints C)), (14, .sl ⟨128, g, none⟩ 0 n none), (129, .rsl 1 (ints C)), (130, .int .i64 C.length), (131, .int .i64 (k : Nat))] ∧ ss = [(128, some ⟨g, v, 1, bools S⟩)] ∧ (k ≤ C.length ∧ S.length = n ∧ ∀ p, k ≤ p → p < C.length → S.getD (C.getD p 0).toNat false = false)) ?_ ?_
            · refine ⟨_, 0, ?_, ?_, List.replicate n false, rfl, ?henv, ?hstore, ?hst⟩
              case henv =>
                repeat' (first | rfl | refine env_cons ?_ ?_ | refine st_cons ?_ ?_ ?_ ?_ | refine int_eq ?_ | refine bool_eq ?_ | refine rsl_eq ?_ | refine osl_eq ?_ | refine sl_eq ?_ ?_ ?_ | refine ptr_eq ?_ ?_ ?_ | refine agg_eq ?_ | refine es_cons ?_ ?_ | refine row_cons ?_ ?_)
                all_goals (first | (simp; done) | omega | (simp; omega))
              case hstore =>
                repeat' (first | rfl | refine env_cons ?_ ?_ | refine st_cons ?_ ?_ ?_ ?_ | refine int_eq ?_ | refine bool_eq ?_ | refine rsl_eq ?_ | refine osl_eq ?_ | refine sl_eq ?_ ?_ ?_ | refine ptr_eq ?_ ?_ ?_ | refine agg_eq ?_ | refine es_cons ?_ ?_ | refine row_cons ?_ ?_)
                all_goals (simp [bools])
              case hst =>
                exact ⟨Nat.zero_le _, by simp, fun p _ _ => by rw [List.getD_eq_getElem?_getD, List.getElem?_replicate]; split <;> rfl⟩
            rintro mm ee ss kk ⟨k, g, v, S, rfl, rfl, rfl, hI⟩
            generalize hQl4 : thenQ _ _ = Ql4
            obtain ⟨hk, hSl, hS⟩ := hI
            refine AW.seq fun K44 hK44 => ?_
            -- region 37
            refine AW.regionK 0 (fun _ => none) [3, 4, 7, 14, 129, 130, 131, 132] [128] ?_
            simp only [go_sem, reduceIte, reduceCtorEq, Nat.reduceAdd, Nat.reduceMul, Nat.reduceEqDiff, Nat.reduceLT, Nat.reduceLeDiff, Nat.reduceSub, Nat.reducePow, Nat.reduceBEq, Int.reduceToNat, List.reduceReplicate]
            repeat with_reducible refine cj ?_ ?_
            all_goals try first | omega
            refine hK44 _ _ _ ?_; clear hK44
            refine AW.seq fun K45 hK45 => ?_
            -- cond 12
            refine AW.cond rfl (by simp only [go_sem, reduceIte, reduceCtorEq, Nat.reduceAdd, Nat.reduceMul, Nat.reduceEqDiff, Nat.reduceLT, Nat.reduceLeDiff, Nat.reduceSub, Nat.reducePow, Nat.reduceBEq, Int.reduceToNat, List.reduceReplicate]) ?_ ?_
            · intro hb
              try simp only [hB, decide_eq_true_eq, decide_eq_false_iff_not] at hb
              obtain ⟨hr1, hr2, hr3⟩ := hcy.rng k (by omega)
              have hml : (k + 1) % C.length < C.length := Nat.mod_lt _ hc0
              obtain ⟨hr4, hr5, _⟩ := hcy.rng ((k + 1) % C.length) hml
              have hed := hcy.edg k (by omega)
              have hinj := fun q (h1 : k < q) (h2 : q < C.length) => hcy.inj k q h1 h2
              have hrng := fun q (h2 : q < C.length) => hcy.rng q h2
              have hg1 := hgC k (by omega)
              have hg2 := hgC _ hml
              have hg0 := hgC 0 (by omega)
              have hSk := hS k (Nat.le_refl _) (by omega)
              generalize hx : C.getD k 0 = x at *
              generalize C.getD ((k + 1) % C.length) 0 = y at *
              have hgs := bools_getD (l := S) (i := x.toNat) (by omega)
              rw [hSk] at hgs
              have hgr := rowsR_get (t := t) (i := x.toNat) (by omega)
              have hrw := hs.rowLen (i := x.toNat) (by omega)
              have hgb := bools_getD (l := rowT t x.toNat) (i := y.toNat) (by omega)
              have hat : (rowT t x.toNat).getD y.toNat false = atT t x.toNat y.toNat := rfl
              rw [hat, hed] at hgb
              have htm : ((k : Int) + 1).tmod (C.length : Int) = (((k + 1) % C.length : Nat) : Int) := by rw [show (k : Int) + 1 = ((k + 1 : Nat) : Int) by omega]; exact (Int.ofNat_tmod _ _).symm
              have z1 : decide (x < 0) = false := decide_eq_false (by omega)
              have z2 : decide ((n : Int) ≤ x) = false := decide_eq_false (by omega)
              have z3 : decide (y < 0) = false := decide_eq_false (by omega)
              have z4 : decide ((n : Int) ≤ y) = false := decide_eq_false (by omega)
              have z5 : decide (x < C.getD 0 0) = false := decide_eq_false (by omega)
              refine AW.skip ?_
              refine hK45 _ _ _ ?_; clear hK45
              refine AW.seq fun K46 hK46 => ?_
              refine AW.block ?_
              refine AW.seq fun K47 hK47 => ?_
              -- region 38
              refine AW.regionK 0 (fun _ => none) [3, 4, 7, 14, 15, 16, 129, 130, 131] [128] ?_
              simp only [go_sem, reduceIte, reduceCtorEq, Nat.reduceAdd, Nat.reduceMul, Nat.reduceEqDiff, Nat.reduceLT, Nat.reduceLeDiff, Nat.reduceSub, Nat.reducePow, Nat.reduceBEq, Int.reduceToNat, List.reduceReplicate, hg1]
              repeat with_reducible refine cj ?_ ?_
              all_goals try first | omega
              refine hK47 _ _ _ ?_; clear hK47
              refine AW.seq fun K48 hK48 => ?_
              -- region 39
              refine AW.regionK 0 (fun _ => none) [3, 4, 7, 14, 16, 17, 129, 130, 131] [128] ?_
              simp only [go_sem, reduceIte, reduceCtorEq, Nat.reduceAdd, Nat.reduceMul, Nat.reduceEqDiff, Nat.reduceLT, Nat.reduceLeDiff, Nat.reduceSub, Nat.reducePow, Nat.reduceBEq, Int.reduceToNat, List.reduceReplicate, htm, hg2]
              repeat with_reducible refine cj ?_ ?_
              all_goals try first | omega
              refine hK48 _ _ _ ?_; clear hK48
              refine AW.seq fun K49 hK49 => ?_
              refine AW.seq fun K50 hK50 => ?_
              -- region 40
              refine AW.regionK 0 (fun _ => none) [3, 4, 7, 14, 16, 129, 130, 131, 182] [128] ?_
              refine arun_cut 20 rfl fun KC51 hKC51 => ?_
              simp only [go_sem, reduceIte, reduceCtorEq, Nat.reduceAdd, Nat.reduceMul, Nat.reduceEqDiff, Nat.reduceLT, Nat.reduceLeDiff, Nat.reduceSub, Nat.reducePow, Nat.reduceBEq, Int.reduceToNat, List.reduceReplicate, z1, z2, z3, z4, z5, hgs, hgr, hrw, hgb, hg0, hSl]
              repeat with_reducible refine cj ?_ ?_
              all_goals try first | omega | (intros; (repeat' apply And.intro) <;> first | assumption | omega | decide) | (intro hgd; exact absurd hgd (by decide)) | rfl | (simp only [go_sem, reduceIte, reduceCtorEq, Nat.reduceAdd, Nat.reduceMul, Nat.reduceEqDiff, Nat.reduceLT, Nat.reduceLeDiff, Nat.reduceSub, Nat.reducePow, Nat.reduceBEq, Int.reduceToNat, List.reduceReplicate, z1, z2, z3, z4, z5, hgs, hgr, hrw, hgb, hg0, hSl]; done) | (intro _hgd; simp_all [go_sem]; done)
              refine hKC51 _ _ _ ?_; clear hKC51
              simp only [go_sem, reduceIte, reduceCtorEq, Nat.reduceAdd, Nat.reduceMul, Nat.reduceEqDiff, Nat.reduceLT, Nat.reduceLeDiff, Nat.reduceSub, Nat.reducePow, Nat.reduceBEq, Int.reduceToNat, List.reduceReplicate, z1, z2, z3, z4, z5, hgs, hgr, hrw, hgb, hg0, hSl]
              repeat with_reducible refine cj ?_ ?_
              all_goals try first | omega | (intros; (repeat' apply And.intro) <;> first | assumption | omega | decide) | (intro hgd; exact absurd hgd (by decide)) | rfl | (simp only [go_sem, reduceIte, reduceCtorEq, Nat.reduceAdd, Nat.reduceMul, Nat.reduceEqDiff, Nat.reduceLT, Nat.reduceLeDiff, Nat.reduceSub, Nat.reducePow, Nat.reduceBEq, Int.reduceToNat, List.reduceReplicate, z1, z2, z3, z4, z5, hgs, hgr, hrw, hgb, hg0, hSl]; done) | (intro _hgd; simp_all [go_sem]; done)
              refine hK50 _ _ _ ?_; clear hK50
              -- cond 13
              refine AW.cond rfl (by simp only [go_sem, reduceIte, reduceCtorEq, Nat.reduceAdd, Nat.reduceMul, Nat.reduceEqDiff, Nat.reduceLT, Nat.reduceLeDiff, Nat.reduceSub, Nat.reducePow, Nat.reduceBEq, Int.reduceToNat, List.reduceReplicate]) ?_ ?_
              · intro hb
                try simp only [hB, decide_eq_true_eq, decide_eq_false_iff_not] at hb
                simp at hb
              · intro hb
                try simp only [hB, decide_eq_true_eq, decide_eq_false_iff_not] at hb
                refine AW.skip ?_
                refine hK49 _ _ _ ?_; clear hK49
                -- region 42
                refine AW.regionK 0 (fun _ => none) [3, 4, 7, 14, 129, 130, 131] [128] ?_
                simp only [go_sem, reduceIte, reduceCtorEq, Nat.reduceAdd, Nat.reduceMul, Nat.reduceEqDiff, Nat.reduceLT, Nat.reduceLeDiff, Nat.reduceSub, Nat.reducePow, Nat.reduceBEq, Int.reduceToNat, List.reduceReplicate, hSl]
                repeat with_reducible refine cj ?_ ?_
                all_goals try first | omega
                refine hK46 _ _ _ ?_; clear hK46
                -- region 43
                refine AW.regionK 0 (fun _ => none) [3, 4, 7, 14, 129, 130, 131] [128] ?_
                simp only [go_sem, reduceIte, reduceCtorEq, Nat.reduceAdd, Nat.reduceMul, Nat.reduceEqDiff, Nat.reduceLT, Nat.reduceLeDiff, Nat.reduceSub, Nat.reducePow, Nat.reduceBEq, Int.reduceToNat, List.reduceReplicate]
                repeat with_reducible refine cj ?_ ?_
                all_goals try first | omega
                rw [← hQl4]
                change Exists _
                refine ⟨_, ?hm, k + 1, ?_, ?_, S.set x.toNat true, rfl, ?henv, ?hstore, ?hst⟩
                case henv =>
                  repeat' (first | rfl | refine env_cons ?_ ?_ | refine st_cons ?_ ?_ ?_ ?_ | refine int_eq ?_ | refine bool_eq ?_ | refine rsl_eq ?_ | refine osl_eq ?_ | refine sl_eq ?_ ?_ ?_ | refine ptr_eq ?_ ?_ ?_ | refine agg_eq ?_ | refine es_cons ?_ ?_ | refine row_cons ?_ ?_)
                  all_goals (first | (simp; done) | omega | (simp; omega))
                case hstore =>
                  repeat' (first | rfl | refine env_cons ?_ ?_ | refine st_cons ?_ ?_ ?_ ?_ | refine int_eq ?_ | refine bool_eq ?_ | refine rsl_eq ?_ | refine osl_eq ?_ | refine sl_eq ?_ ?_ ?_ | refine ptr_eq ?_ ?_ ?_ | refine agg_eq ?_ | refine es_cons ?_ ?_ | refine row_cons ?_ ?_)
                  all_goals (first | (simp; done) | omega | (simp; omega))
                case hst =>
                  exact ⟨by omega, by simp [hSl], fun p hp hpl => by
                    have h9 := hinj p (by omega) hpl
                    have h10 := hrng p hpl
                    rw [Go.AM.getD_set_ne (by omega)]; exact hS p (by omega) hpl⟩
                case hm => omega
            · intro hb
              try simp only [hB, decide_eq_true_eq, decide_eq_false_iff_not] at hb
              refine AW.exit ?_
              rw [← hQl4]
              refine hK42 _ _ _ ?_; clear hK42
              refine AW.seq fun K52 hK52 => ?_
              -- region 44
              refine AW.regionK 0 (fun _ => none) [2] [] ?_
              simp only [go_sem, reduceIte, reduceCtorEq, Nat.reduceAdd, Nat.reduceMul, Nat.reduceEqDiff, Nat.reduceLT, Nat.reduceLeDiff, Nat.reduceSub, Nat.reducePow, Nat.reduceBEq, Int.reduceToNat, List.reduceReplicate]
              repeat with_reducible refine cj ?_ ?_
              all_goals try first | omega
              refine hK52 _ _ _ ?_; clear hK52
              refine AW.ret ?_
              rw [← hQr]
              simp only [go_sem, reduceIte, reduceCtorEq, Nat.reduceAdd, Nat.reduceMul, Nat.reduceEqDiff, Nat.reduceLT, Nat.reduceLeDiff, Nat.reduceSub, Nat.reducePow, Nat.reduceBEq, Int.reduceToNat, List.reduceReplicate]
              exact Wk.refl _
end Go.Proofs.R

/- Arguments that are read as data, as pure trees. -/
namespace Go.AM

inductive F2 {α β : Type} (R : α → β → Prop) : List α → List β → Prop
  | nil : F2 R [] []
  | cons {a b l r} (h : R a b) (t : F2 R l r) : F2 R (a :: l) (b :: r)

/-- The shape of a type's cells. -/
def Fit (P : Program) : Nat → TypeId → List AV → Prop
  | 0, _, _ => False
  | f + 1, t, avs => match P.underlying t with
    | some .bool => ∃ b, avs = [.bool b]
    | some (.int k) => ∃ n, avs = [.int k n] ∧ k.min ≤ n ∧ n ≤ k.max
    | some .string => ∃ s, avs = [.str s]
    | some (.slice e) => P.cellsOf e = 0 ∨ ∃ es, avs = [.rsl (P.cellsOf e) es] ∧ es.length ≤ maxLen ∧ ∀ x ∈ es, x.length = P.cellsOf e ∧ Fit P f e x
    | some (.struct fs) => ∃ parts : List (List AV), avs = parts.flatten ∧ F2 (fun (fl : Field) p => p.length = P.cellsOf fl.type ∧ Fit P f fl.type p) fs.toList parts
    | some (.array n e) => ∃ parts : List (List AV), avs = parts.flatten ∧ parts.length = n ∧ ∀ p ∈ parts, p.length = P.cellsOf e ∧ Fit P f e p
    | _ => True

abbrev immW (w : World) : Nat → Prop := immF w fun _ => False
def Match (w : World) (avs : List AV) (cs : List Value) : Prop := avs.length = cs.length ∧ ∀ i, i < avs.length → RelP (immW w) w (avs.getD i .any) (cs.getD i undef)

theorem Match.append {w : World} {a a' : List AV} {c c' : List Value} (h : Match w a c) (h' : Match w a' c') : Match w (a ++ a') (c ++ c') := by
  obtain ⟨h1, h2⟩ := h
  obtain ⟨k1, k2⟩ := h'
  refine ⟨by simp [h1, k1], fun i hi => ?_⟩
  rw [getD_append, getD_append, ← h1]
  by_cases hlt : i < a.length
  · rw [if_pos hlt, if_pos hlt]; exact h2 i hlt
  · rw [if_neg hlt, if_neg hlt]
    exact k2 _ (by simp at hi; omega)
theorem Match.one {w : World} {a : AV} {u : Value} (h : RelP (immW w) w a u) : Match w [a] [u] := ⟨rfl, fun i hi => by
  match i, hi with
  | 0, _ => exact h⟩

theorem mapM_some {α β : Type} {f : α → Option β} : ∀ {l : List α} {r : List β}, l.mapM f = some r → F2 (fun a b => f a = some b) l r
  | [], r, h => by
    simp only [List.mapM_nil, Option.pure_def, Option.some.injEq] at h
    subst h; exact .nil
  | a :: l, r, h => by
    rw [List.mapM_cons] at h
    cases ha : f a with
    | none => simp [ha] at h
    | some b =>
      cases hl : l.mapM f with
      | none => simp [ha, hl] at h
      | some r' =>
        simp [ha, hl] at h
        subst h
        exact .cons ha (mapM_some hl)

theorem range_mapM {β : Type} {f : Nat → Option β} {n : Nat} {r : List β} (h : (List.range n).mapM f = some r) : r.length = n ∧ ∀ i, i < n → ∃ b, r[i]? = some b ∧ f i = some b := by
  have h2 := mapM_some h
  have key : ∀ {l : List Nat} {r : List β}, F2 (fun a b => f a = some b) l r → r.length = l.length ∧ ∀ (i a : Nat), l[i]? = some a → ∃ b, r[i]? = some b ∧ f a = some b := by
    intro l r h
    induction h with
    | nil => exact ⟨rfl, by simp⟩
    | cons h t ih =>
      refine ⟨by simp [ih.1], fun i a ha => ?_⟩
      cases i with
      | zero => simp only [List.getElem?_cons_zero, Option.some.injEq] at ha; subst ha; exact ⟨_, rfl, h⟩
      | succ i => simpa using ih.2 i a (by simpa using ha)
  obtain ⟨k1, k2⟩ := key h2
  refine ⟨by simpa using k1, fun i hi => k2 i i (by simp [hi])⟩

theorem cells?_spec {w : World} {a : Addr} {n : Nat} {cs : List Value} (h : w.cells? 0 a n = some cs) : cs.length = n ∧ ∀ j, j < n → w.cell? (a.add j) = some (cs.getD j undef) := by
  simp only [World.cells?, Nat.zero_le, if_true] at h
  obtain ⟨h1, h2⟩ := range_mapM h
  refine ⟨h1, fun j hj => ?_⟩
  obtain ⟨b, e1, e2⟩ := h2 j hj
  rw [e2, List.getD_eq_getElem?_getD, e1]; rfl

theorem cell?_spot {w : World} {a : Addr} {v : Value} (h : w.cell? a = some v) : a.spot = none ∧ a.block < w.heap.size := by
  unfold World.cell? at h
  split at h
  · rename_i c _ _ hh
    split at h
    · cases h
    · rename_i hs
      exact ⟨by simpa using hs, heap_lt hh⟩
  · cases h

theorem chunks_struct {P : Program} (cs : List Value) : ∀ (fs : List Field) (o : Nat), (∀ (j : Nat) f, fs[j]? = some f → f.offset = o + ((fs.take j).map fun f => P.cellsOf f.type).sum) →
    (fs.map fun f => (cs.drop f.offset).take (P.cellsOf f.type)).flatten = (cs.drop o).take ((fs.map fun f => P.cellsOf f.type).sum)
  | [], o, _ => by simp
  | f :: fs, o, h => by
    have h0 := h 0 f rfl
    simp at h0
    have ih := chunks_struct (P := P) cs fs (o + P.cellsOf f.type) fun j g hj => by
      have := h (j + 1) g (by simpa using hj)
      rw [this]
      simp [Nat.add_assoc]
    simp only [List.map_cons, List.flatten_cons, List.sum_cons, ih, h0]
    rw [List.take_add, List.drop_drop]

theorem chunks_array (cs : List Value) (m : Nat) : ∀ n, ((List.range n).map fun i => (cs.drop (i * m)).take m).flatten = cs.take (n * m)
  | 0 => by simp
  | n + 1 => by
    rw [List.range_succ, List.map_append, List.flatten_append, chunks_array cs m n, Nat.succ_mul, List.take_add]
    simp

theorem match_flatten {α : Type} {w : World} {g : α → List Value} {p : α → List AV → Prop} : ∀ {l : List α} {parts : List (List AV)}, F2 (fun a x => p a x ∧ Match w x (g a)) l parts → Match w parts.flatten (l.map g).flatten
  | _, _, .nil => ⟨rfl, by simp⟩
  | _, _, .cons h t => by
    simp only [List.flatten_cons, List.map_cons]
    exact h.2.append (match_flatten t)

theorem forall2_imp {α β : Type} {R S : α → β → Prop} (h : ∀ a b, R a b → S a b) : ∀ {l : List α} {r : List β}, F2 R l r → F2 S l r
  | _, _, .nil => .nil
  | _, _, .cons h1 t => .cons (h _ _ h1) (forall2_imp h t)
theorem forall2_len {α β : Type} {R : α → β → Prop} : ∀ {l : List α} {r : List β}, F2 R l r → l.length = r.length
  | _, _, .nil => rfl
  | _, _, .cons _ t => by simp [forall2_len t]
theorem forall2_right {α β : Type} {R : α → β → Prop} {Q : β → Prop} (h : ∀ a b, R a b → Q b) : ∀ {l : List α} {r : List β}, F2 R l r → ∀ b ∈ r, Q b
  | _, _, .nil, b, hb => by cases hb
  | _, _, .cons h1 t, b, hb => by
    rcases List.mem_cons.1 hb with rfl | hb
    · exact h _ _ h1
    · exact forall2_right h t b hb

theorem fit_of_trod {H : Type} {enc : TypeId × Value → H} {P : Program} {w : World} (hl : laidOutB P = true) : ∀ (n : Nat) (t : TypeId) (cs : List Value) (x : DataW H × List MemPlace), t < P.types.size →
    DataW.trod enc P w 0 (fun _ => true) true n t cs = some x → ∃ avs, Fit P n t avs ∧ Match w avs cs := by
  intro n
  induction n with
  | zero => intro t cs x _ h; simp [DataW.trod] at h
  | succ n ih =>
    intro t cs x ht h
    have hany : (match P.underlying t with | some .bool | some (.int _) | some .string | some (.slice _) | some (.struct _) | some (.array _ _) => False | _ => True) → ∃ avs, Fit P (n + 1) t avs ∧ Match w avs cs := fun hh => by
      refine ⟨List.replicate cs.length .any, ?_, by simp, fun i hi => ?_⟩
      · unfold Fit
        split <;> simp_all
      · have : (List.replicate cs.length AV.any).getD i .any = .any := by
          simp only [List.getD_eq_getElem?_getD]
          cases h : (List.replicate cs.length AV.any)[i]? with
          | none => rfl
          | some y => simp [List.getElem?_replicate] at h; simp [h.2]
        rw [this]; exact .any _
    by_cases hh : (match P.underlying t with | some .bool | some (.int _) | some .string | some (.slice _) | some (.struct _) | some (.array _ _) => False | _ => True)
    · exact hany hh
    cases hu : P.underlying t with
    | none => exact absurd (by rw [hu]; trivial) hh
    | some d =>
      rw [hu] at hh
      cases d <;> first | exact absurd trivial hh | skip
      case bool =>
        unfold DataW.trod at h
        rw [hu] at h
        rcases cs with _ | ⟨c, _ | ⟨c2, rest⟩⟩ <;> (try cases c) <;> simp at h
        exact ⟨[.bool _], by unfold Fit; rw [hu]; exact ⟨_, rfl⟩, .one (.bool _)⟩
      case int k =>
        unfold DataW.trod at h
        rw [hu] at h
        rcases cs with _ | ⟨c, _ | ⟨c2, rest⟩⟩ <;> (try cases c) <;> simp at h
        rename_i k' m
        obtain ⟨⟨rfl, h1⟩, _⟩ := h
        exact ⟨[.int k' m], by unfold Fit; rw [hu]; exact ⟨_, rfl, by simpa [Lit.wf] using h1⟩, .one (.int _ _)⟩
      case string =>
        unfold DataW.trod at h
        rw [hu] at h
        rcases cs with _ | ⟨c, _ | ⟨c2, rest⟩⟩ <;> (try cases c) <;> simp at h
        exact ⟨[.str _], by unfold Fit; rw [hu]; exact ⟨_, rfl⟩, .one (.str _)⟩
      case slice e =>
        have he := kid_slice hl ht hu
        unfold DataW.trod at h
        rw [hu] at h
        have hbad : ∀ c c2 rest, cs ≠ c :: c2 :: rest := fun c c2 rest e => by subst e; cases c <;> simp at h
        rcases cs with _ | ⟨c, _ | ⟨c2, rest⟩⟩
        · simp at h
        rotate_left
        · exact absurd rfl (hbad _ _ _)
        cases c <;> first | (simp at h; done) | skip
        rename_i a len cap
        cases a with
        | none =>
          rcases len with _ | len <;> rcases cap with _ | cap <;> first | (simp at h; done) | skip
          exact ⟨[.rsl (P.cellsOf e) []], by unfold Fit; rw [hu]; exact .inr ⟨[], rfl, by simp, by simp⟩, .one (.rnil _ _ _)⟩
        | some a =>
          dsimp only at h
          split at h
          · rename_i hb
            cases hm : (List.range len).mapM (fun i => (w.cells? 0 (a.add (i * P.cellsOf e)) (P.cellsOf e)).bind (DataW.trod enc P w 0 (fun _ => true) true n e)) with
            | none => rw [hm] at h; simp at h
            | some elems =>
              obtain ⟨k1, k2⟩ := range_mapM hm
              have k3 : ∀ i, i < len → ∃ avs cs', w.cells? 0 (a.add (i * P.cellsOf e)) (P.cellsOf e) = some cs' ∧ Fit P n e avs ∧ Match w avs cs' := fun i hi => by
                obtain ⟨b, _, e2⟩ := k2 i hi
                cases hc : w.cells? 0 (a.add (i * P.cellsOf e)) (P.cellsOf e) with
                | none => rw [hc] at e2; simp at e2
                | some cs' =>
                  rw [hc] at e2
                  obtain ⟨avs, h1, h2⟩ := ih e cs' b he e2
                  exact ⟨avs, cs', rfl, h1, h2⟩
              classical
              let F : Nat → List AV := fun i => if hi : i < len then Classical.choose (k3 i hi) else []
              let es := (List.range len).map F
              have hlen : es.length = len := by simp [es]
              have hget : ∀ i, i < len → es.getD i [] = F i := fun i hi => by simp [es, List.getD_eq_getElem?_getD, hi]
              have hF : ∀ i, i < len → ∃ cs', w.cells? 0 (a.add (i * P.cellsOf e)) (P.cellsOf e) = some cs' ∧ Fit P n e (F i) ∧ Match w (F i) cs' := fun i hi => by
                have := Classical.choose_spec (k3 i hi)
                simp only [F, dif_pos hi]
                exact this
              have hes : ∀ x ∈ es, x.length = P.cellsOf e ∧ Fit P n e x := fun x hx => by
                simp only [es, List.mem_map, List.mem_range] at hx
                obtain ⟨i, hi, rfl⟩ := hx
                obtain ⟨cs', h1, h2, h3⟩ := hF i hi
                exact ⟨h3.1.trans (cells?_spec h1).1, h2⟩
              rcases Nat.eq_zero_or_pos (P.cellsOf e) with hz | hz
              · exact ⟨[.any], by unfold Fit; rw [hu]; exact .inl hz, .one (.any _)⟩
              refine ⟨[.rsl (P.cellsOf e) es], by unfold Fit; rw [hu]; exact .inr ⟨es, rfl, by rw [hlen]; omega, hes⟩, .one ?_⟩
              rcases Nat.eq_zero_or_pos len with h0 | h0
              · have : es = [] := List.length_eq_zero_iff.1 (by omega)
                rw [this, h0]; exact .rnil _ _ _
              · have hcell : ∀ i j, i < len → j < P.cellsOf e → ∃ v, w.cell? ((a.add (i * P.cellsOf e)).add j) = some v ∧ RelP (immW w) w ((es.getD i []).getD j .any) v := fun i j hi hj => by
                  obtain ⟨cs', h1, h2, h3⟩ := hF i hi
                  obtain ⟨g1, g2⟩ := cells?_spec h1
                  refine ⟨_, g2 j hj, ?_⟩
                  rw [hget i hi]
                  exact h3.2 j (by rw [h3.1, g1]; exact hj)
                obtain ⟨v0, g1, _⟩ := hcell 0 0 h0 hz
                simp only [Nat.zero_mul, Addr.add, if_true] at g1
                obtain ⟨hs, hblk⟩ := cell?_spot g1
                obtain ⟨b, off, sp⟩ := a
                simp only at hs
                subst hs
                have hadd : ∀ i j, ((⟨b, off, none⟩ : Addr).add (i * P.cellsOf e)).add j = ⟨b, off + i * P.cellsOf e + j, none⟩ := fun i j => by
                  simp only [Addr.add]
                  split <;> split <;> simp_all
                rw [← hlen]
                refine .rsl _ es b off cap (fun i j => (w.cell? ⟨b, off + i * P.cellsOf e + j, none⟩).getD undef) (by omega) ⟨hblk, fun h => h⟩ (fun x hx => (hes x hx).1) (fun i j hi hj => ?_) (fun i j hi hj => ?_)
                · obtain ⟨v, e1, _⟩ := hcell i j (by omega) hj
                  rw [hadd] at e1
                  simp [e1]
                · obtain ⟨v, e1, e2⟩ := hcell i j (by omega) hj
                  rw [hadd] at e1
                  simpa [e1] using e2
          · cases h
      case struct fs =>
        obtain ⟨hk1, hk2, hk3⟩ := kid_struct hl ht hu
        unfold DataW.trod at h
        rw [hu] at h
        dsimp only at h
        split at h
        · rename_i hlen
          cases hm : (fs.toList.mapM fun f => DataW.trod enc P w 0 (fun _ => true) true n f.type ((cs.drop f.offset).take (P.cellsOf f.type))) with
          | none => rw [hm] at h; simp at h
          | some xs =>
            have h2 := mapM_some hm
            have h3 : ∃ parts : List (List AV), F2 (fun (fl : Field) p => (p.length = P.cellsOf fl.type ∧ Fit P n fl.type p) ∧ Match w p ((cs.drop fl.offset).take (P.cellsOf fl.type))) fs.toList parts := by
              have hall : ∀ f ∈ fs.toList, f.type < P.types.size ∧ f.offset + P.cellsOf f.type ≤ cs.length := fun f hf => by
                refine ⟨hk1 f hf, ?_⟩
                obtain ⟨j, hj, rfl⟩ := List.mem_iff_getElem.1 hf
                have h5 := hk3 j fs.toList[j] (List.getElem?_eq_getElem hj)
                rw [h5, hlen, hk2]
                have h6 : (fs.toList.map fun f => P.cellsOf f.type).sum = ((fs.toList.take j).map fun f => P.cellsOf f.type).sum + ((fs.toList.drop j).map fun f => P.cellsOf f.type).sum := by
                  rw [← List.sum_append, ← List.map_append, List.take_append_drop]
                rw [h6, List.drop_eq_getElem_cons hj]
                simp
              clear hm h hk1 hk2 hk3
              generalize fs.toList = l at h2 hall
              induction h2 with
              | nil => exact ⟨[], .nil⟩
              | cons h1 t ih2 =>
                rename_i f y l' r'
                obtain ⟨parts, hp⟩ := ih2 fun f hf => hall f (List.mem_cons_of_mem _ hf)
                obtain ⟨g1, g2⟩ := hall f (List.mem_cons_self ..)
                obtain ⟨avs, k1, k2⟩ := ih _ _ _ g1 h1
                exact ⟨avs :: parts, .cons ⟨⟨by rw [k2.1]; simp; omega, k1⟩, k2⟩ hp⟩
            obtain ⟨parts, hp⟩ := h3
            refine ⟨parts.flatten, by unfold Fit; rw [hu]; exact ⟨parts, rfl, forall2_imp (fun _ _ h => h.1) hp⟩, ?_⟩
            have h4 := match_flatten hp
            rw [chunks_struct cs fs.toList 0 (fun j f hj => by simpa using hk3 j f hj)] at h4
            rw [← hk2, ← hlen] at h4
            simpa using h4
        · cases h
      case array m e =>
        obtain ⟨he, hsz⟩ := kid_array hl ht hu
        unfold DataW.trod at h
        rw [hu] at h
        dsimp only at h
        split at h
        · rename_i hlen
          cases hm : ((List.range m).mapM fun i => DataW.trod enc P w 0 (fun _ => true) true n e ((cs.drop (i * P.cellsOf e)).take (P.cellsOf e))) with
          | none => rw [hm] at h; simp at h
          | some xs =>
            have h2 := mapM_some hm
            have h3 : ∃ parts : List (List AV), F2 (fun (i : Nat) p => (p.length = P.cellsOf e ∧ Fit P n e p) ∧ Match w p ((cs.drop (i * P.cellsOf e)).take (P.cellsOf e))) (List.range m) parts := by
              have hall : ∀ i ∈ List.range m, (i + 1) * P.cellsOf e ≤ cs.length := fun i hi => by
                rw [hlen, hsz]
                exact Nat.mul_le_mul_right _ (by have := List.mem_range.1 hi; omega)
              clear hm h hsz
              generalize List.range m = l at h2 hall
              induction h2 with
              | nil => exact ⟨[], .nil⟩
              | cons h1 t ih2 =>
                rename_i i y l' r'
                obtain ⟨parts, hp⟩ := ih2 fun f hf => hall f (List.mem_cons_of_mem _ hf)
                have g2 := hall i (List.mem_cons_self ..)
                obtain ⟨avs, k1, k2⟩ := ih _ _ _ he h1
                rw [Nat.succ_mul] at g2
                exact ⟨avs :: parts, .cons ⟨⟨by rw [k2.1]; simp; omega, k1⟩, k2⟩ hp⟩
            obtain ⟨parts, hp⟩ := h3
            refine ⟨parts.flatten, by unfold Fit; rw [hu]; exact ⟨parts, rfl, by have := forall2_len hp; simpa using this.symm, forall2_right (fun _ _ h => h.1) hp⟩, ?_⟩
            have h4 := match_flatten (g := fun i => (cs.drop (i * P.cellsOf e)).take (P.cellsOf e)) hp
            rw [chunks_array, ← hsz, ← hlen] at h4
            simpa using h4
        · cases h

end Go.AM

/- A law's contract out of a contract over pure trees. -/
namespace Go.AM
open Go.RowKit Go.WideShapes Go.ChangeShapes

def aggT (P : Program) (t : TypeId) : Bool :=
  match P.underlying t with
  | some (.struct _) | some (.array _ _) => true
  | _ => false
def supT (P : Program) (t : TypeId) : Bool :=
  match P.underlying t with
  | some .bool | some (.int _) | some .string | some (.slice _) | some (.struct _) | some (.array _ _) => true
  | _ => false
def argAV (P : Program) (t : TypeId) (avs : List AV) : AV := if aggT P t then .agg avs else avs.getD 0 .any
def argsAV (P : Program) : List TypeId → List (List AV) → List AV
  | t :: ts, a :: avs => argAV P t a :: argsAV P ts avs
  | _, _ => []

theorem match_arg {P : Program} {w : World} {t : TypeId} {v : Value} {avs : List AV} {base : Nat} (hs : supT P t = true) (hok : Value.okWide P w .any base t v) (h : Match w avs v.cells.toList) : RelP (immW w) w (argAV P t avs) v := by
  have hone : (∀ cs, v ≠ .agg cs) → aggT P t = false → RelP (immW w) w (argAV P t avs) v := fun hv ha => by
    have hc : v.cells.toList = [v] := by
      cases v <;> first | rfl | exact absurd rfl (hv _)
    rw [hc] at h
    unfold argAV
    rw [ha]
    exact h.2 0 (by rw [h.1]; simp)
  have hagg : (∃ cs, v = .agg cs) → aggT P t = true → RelP (immW w) w (argAV P t avs) v := fun ⟨cs, e⟩ ha => by
    subst e
    unfold argAV
    rw [ha]
    obtain ⟨l⟩ := cs
    exact .agg _ _ h.1 h.2
  cases hu : P.underlying t with
  | none => simp [supT, hu] at hs
  | some d =>
    cases d <;> first | (simp [supT, hu] at hs; done) | skip
    case bool => obtain ⟨b, rfl⟩ := okWide_bool hu hok; exact hone (by simp) (by simp [aggT, hu])
    case int => obtain ⟨b, rfl⟩ := okWide_int hu hok; exact hone (by simp) (by simp [aggT, hu])
    case string => obtain ⟨b, rfl⟩ := okWide_string hu hok; exact hone (by simp) (by simp [aggT, hu])
    case slice => obtain ⟨b, _, _, rfl⟩ := okWide_slice hu hok; exact hone (by simp) (by simp [aggT, hu])
    case struct => obtain ⟨cs, rfl, _⟩ := okWide_struct hu hok; exact hagg ⟨_, rfl⟩ (by simp [aggT, hu])
    case array =>
      unfold Value.okWide at hok
      rw [hu] at hok
      obtain ⟨cs, rfl, _⟩ := hok
      exact hagg ⟨_, rfl⟩ (by simp [aggT, hu])

theorem args_match {H : Type} {enc : TypeId × Value → H} {P : Program} {w : World} {base : Nat} (hl : laidOutB P = true) : ∀ {ts : List TypeId} {vs : List Value} {ds : List (DataW H)} {ps : List MemPlace}, (∀ t ∈ ts, t < P.types.size ∧ supT P t = true) →
    (∀ (j : Nat) t v, ts[j]? = some t → vs[j]? = some v → Value.okWide P w .any base t v) → DataW.TrodAll enc P w 0 (fun _ => true) true ts vs ds ps →
    ∃ ass, F2 (fun t avs => ∃ n, Fit P n t avs) ts ass ∧ (argsAV P ts ass).length = vs.length ∧ ∀ i, i < vs.length → RelP (immW w) w ((argsAV P ts ass).getD i .any) (vs.getD i undef)
  | [], vs, ds, ps, _, _, h => by
    obtain ⟨rfl, _, _⟩ := trodAll_nil h
    exact ⟨[], .nil, rfl, by simp⟩
  | t :: ts, vs, ds, ps, hts, hv, h => by
    obtain ⟨v, vs', d, ds', p, q, rfl, rfl, rfl, ⟨n, h1⟩, h2⟩ := trodAll_cons h
    obtain ⟨avs, k1, k2⟩ := fit_of_trod hl n t _ _ (hts t (List.mem_cons_self ..)).1 h1
    obtain ⟨ass, j1, j2, j3⟩ := args_match hl (fun t ht => hts t (List.mem_cons_of_mem _ ht)) (fun j t v e1 e2 => hv (j + 1) t v (by simpa using e1) (by simpa using e2)) h2
    refine ⟨avs :: ass, .cons ⟨n, k1⟩ j1, by simp [argsAV, j2], fun i hi => ?_⟩
    cases i with
    | zero => simpa [argsAV] using match_arg (hts t (List.mem_cons_self ..)).2 (hv 0 t v rfl rfl) k2
    | succ i => simpa [argsAV] using j3 i (by simpa using hi)

theorem Ext.below {w w' : World} (h : Ext (fun _ => False) w w') : Below w.heap.size w w' := ⟨h.os, h.tape, h.output, h.size, fun k hk => h.block k hk fun e => e⟩

theorem trodAll_below {H : Type} {enc : TypeId × Value → H} {P : Program} {W W' : World} (hl : laidOutB P = true) (hb : Below W.heap.size W W') {sp : Nat → Bool} : ∀ {ts : List TypeId} {vs : List Value} {ds : List (DataW H)} {ps : List MemPlace},
    (∀ t ∈ ts, t < P.types.size ∧ P.readableRec t = true) → DataW.TrodAll enc P W 0 (fun _ => true) true ts vs ds ps → (∀ p ∈ ps, p.block < W.heap.size ∧ sp p.block = true) → DataW.TrodAll enc P W' 0 sp true ts vs ds ps
  | [], vs, ds, ps, _, h, _ => by
    obtain ⟨rfl, rfl, rfl⟩ := trodAll_nil h
    rfl
  | t :: ts, vs, ds, ps, hts, h, hp => by
    obtain ⟨v, vs', d, ds', p, q, rfl, rfl, rfl, h1, h2⟩ := trodAll_cons h
    obtain ⟨g1, g2⟩ := hts t (List.mem_cons_self ..)
    exact ⟨p, q, WideElems.Trod_stays hl g2 g1 h1 (fun x hx => hb.same (hp x (List.mem_append_left _ hx)).1) (fun x hx => (hp x (List.mem_append_left _ hx)).2),
      trodAll_below hl hb (fun t ht => hts t (List.mem_cons_of_mem _ ht)) h2 (fun x hx => hp x (List.mem_append_right _ hx)), rfl⟩

theorem trodAll_len {H : Type} {enc : TypeId × Value → H} {P : Program} {w : World} {b : Nat} {sp : Nat → Bool} {hd : Bool} : ∀ {ts : List TypeId} {vs : List Value} {ds : List (DataW H)} {ps : List MemPlace}, DataW.TrodAll enc P w b sp hd ts vs ds ps → vs.length = ts.length ∧ ds.length = ts.length
  | [], vs, ds, ps, h => by
    obtain ⟨rfl, rfl, rfl⟩ := trodAll_nil h
    exact ⟨rfl, rfl⟩
  | t :: ts, vs, ds, ps, h => by
    obtain ⟨v, vs', d, ds', p, q, rfl, rfl, rfl, _, h2⟩ := trodAll_cons h
    have := trodAll_len h2
    exact ⟨by simp [this.1], by simp [this.2]⟩

/-- What the form asks of a law's call, out of a contract over pure trees. -/
theorem law_contract {H : Type} {enc : TypeId × Value → H} {P : Program} {fn : Func} {f : FuncId} {s : ChangeSpec} (hl : laidOutB P = true) {ts : List TypeId} {T : TypeId} (hps : fn.params.toList = ts) (hrs : fn.resultTypes = #[T]) (hT : P.underlying T = some .bool)
    (hts : ts.all (fun t => decide (t < P.types.size) && supT P t && P.readableRec t) = true) (hvars : s.vars = []) (hs : ∀ ds : List (DataW H), ds.length = ts.length → s.fn H ds = { results := [.lit (.bool true)], args := ds })
    (hread : ∀ ass, F2 (fun t avs => ∃ n, Fit P n t avs) ts ass → Reads P f false (argsAV P ts ass) (.bool true))
    {W : World} {base : Nat} {args : Array Value} {ds gs : List (DataW H)} {before : List MemPlace} (hval : ∀ (j : Nat) t v, fn.params[j]? = some t → args[j]? = some v → Value.okWide P W .any base t v)
    (hW : DataW.Whole enc P fn.params.toList s.vars false W args.toList ds gs before) :
    Calls P f args W fun e W' => ∃ v, e = .returned v ∧ s.post enc P fn false true false false W args v W' := by
  have hts' : ∀ t ∈ ts, t < P.types.size ∧ supT P t = true ∧ P.readableRec t = true := fun t ht => by
    have := List.all_eq_true.1 hts t ht
    simpa [and_assoc] using this
  have hW' := hW
  obtain ⟨p, q, hA, hV, rfl, hfz, hnd⟩ := hW
  rw [hvars] at hV
  obtain ⟨rfl, rfl⟩ := trodVars_none hV
  rw [hps] at hA
  obtain ⟨hl1, hl2⟩ := trodAll_len hA
  obtain ⟨ass, j1, j2, j3⟩ := args_match hl (fun t ht => ⟨(hts' t ht).1, (hts' t ht).2.1⟩) (fun j t v e1 e2 => hval j t v (by rw [← hps] at e1; simpa using e1) (by simpa using e2)) hA
  have hc := hread ass j1 W (fun _ => False) args.toList (fun _ h => h.elim) j2.symm (fun i hi => j3 i (by omega))
  rw [show args.toList.toArray = args by simp] at hc
  refine hc.mono fun e W' ⟨u, h1, h2, h3⟩ => ⟨u, h1, ?_⟩
  have hu : u = .bool true := by cases h3; rfl
  subst hu
  have hb := h2.below
  have hlt : ∀ x ∈ p, x.block < W.heap.size := fun x hx => hW'.lt x (by simpa using hx)
  have hsf := hs ds hl2
  have hres : ∀ (b : Nat) (sp : Nat → Bool) (hd : Bool), DataW.TrodAll enc P W' b sp hd fn.resultTypes.toList ((Value.bool true).resultList fn.resultTypes.size) (s.fn H (ds ++ [])).results [] := fun b sp hd => by
    rw [hrs, List.append_nil, hsf]
    exact trodAll_mk1 (shut_bool hT true)
  have hargs : ∀ sp : Nat → Bool, (∀ x ∈ p, sp x.block = true) → DataW.TrodAll enc P W' 0 sp true fn.params.toList args.toList (s.fn H (ds ++ [])).args p := fun sp hsp => by
    rw [List.append_nil, hsf, hps]
    exact trodAll_below hl hb (fun t ht => ⟨(hts' t ht).1, (hts' t ht).2.2⟩) hA fun x hx => ⟨hlt x hx, hsp x hx⟩
  have hvs : ∀ sp : Nat → Bool, DataW.TrodVars enc P W' sp s.vars (s.fn H (ds ++ [])).vars [] := fun sp => by
    rw [List.append_nil, hsf, hvars]; rfl
  refine ⟨ds, [], p ++ [], [], p, [], hW', hres _ _ _, hargs _ (fun x hx => by simpa using hlt x hx), hvs _, World.keptBut_mono (fun x hx => ⟨hx, ?_⟩) (hb.frame (· ∈ p ++ [])), fun _ => ?_⟩
  · simpa using hx
  · refine ⟨ok_one hrs rfl (okWide_bool_mk hT _), _, _, ([] ++ p) ++ [], ⟨[] ++ p, [], trodAll_append (hargs _ (fun _ _ => rfl)) (hres _ _ _), hvs _, rfl, ?_, ?_⟩, ?_⟩
    · intro b off hp
      have hin : MemPlace.cell b off ∈ p := by simpa using hp
      rw [hb.frozen (hlt _ hin)]
      exact hfz b off (by simpa using hin)
    · intro ha; cases ha
    · intro x hx _
      simpa using hx

end Go.AM

/- The shapes of arguments. -/
namespace Go.AM
theorem fit_int {P : Program} {t : TypeId} {k : IntKind} (hu : P.underlying t = some (.int k)) {f : Nat} {x : List AV} (h : Fit P f t x) : ∃ n, x = [.int k n] ∧ k.min ≤ n ∧ n ≤ k.max := by
  cases f with
  | zero => exact h.elim
  | succ f => unfold Fit at h; rw [hu] at h; exact h
theorem fit_slice {P : Program} {t e : TypeId} {m : Nat} (hu : P.underlying t = some (.slice e)) (hm : P.cellsOf e = m) (h0 : m ≠ 0) {f : Nat} {x : List AV} (h : Fit P f t x) : ∃ es f', x = [.rsl m es] ∧ es.length ≤ maxLen ∧ ∀ y ∈ es, Fit P f' e y := by
  cases f with
  | zero => exact h.elim
  | succ f =>
    unfold Fit at h; rw [hu] at h
    rcases h with h | ⟨es, h1, h2, h3⟩
    · exact absurd (hm ▸ h) h0
    · rw [hm] at h1; exact ⟨es, f, h1, h2, fun y hy => (h3 y hy).2⟩
theorem fit_struct {P : Program} {t : TypeId} {fs : Array Field} (hu : P.underlying t = some (.struct fs)) {f : Nat} {x : List AV} (h : Fit P f t x) : ∃ f' parts, x = List.flatten parts ∧ F2 (fun (fl : Field) p => Fit P f' fl.type p) fs.toList parts := by
  cases f with
  | zero => exact h.elim
  | succ f =>
    unfold Fit at h; rw [hu] at h
    obtain ⟨parts, h1, h2⟩ := h
    exact ⟨f, parts, h1, forall2_imp (fun _ _ h => h.2) h2⟩
theorem F2.two {α β : Type} {R : α → β → Prop} {a b : α} {l : List β} (h : F2 R [a, b] l) : ∃ x y, l = [x, y] ∧ R a x ∧ R b y := by
  cases h with | cons h1 t => cases t with | cons h2 t => cases t with | nil => exact ⟨_, _, rfl, h1, h2⟩
theorem exists_mapP {α β : Type} {f : α → β} {p : α → Prop} : ∀ {l : List β}, (∀ x ∈ l, ∃ a, x = f a ∧ p a) → ∃ m : List α, l = m.map f ∧ ∀ a ∈ m, p a
  | [], _ => ⟨[], rfl, fun _ h => by cases h⟩
  | x :: l, h => by
    obtain ⟨a, rfl, ha⟩ := h x (List.mem_cons_self ..)
    obtain ⟨m, rfl, hm⟩ := exists_mapP fun y hy => h y (List.mem_cons_of_mem _ hy)
    exact ⟨a :: m, rfl, fun b hb => by rcases List.mem_cons.1 hb with rfl | hb; exact ha; exact hm b hb⟩
theorem okW_of {W : List Int} (h : ∀ w ∈ W, 0 ≤ w ∧ w ≤ 18446744073709551615) : okW W := fun i => by
  by_cases hi : i < W.length
  · have := h _ (mem_getD hi 0); omega
  · rw [List.getD_eq_getElem?_getD, List.getElem?_eq_none (by omega)]; simp
end Go.AM

/- The shapes of the relation laws' arguments. -/
namespace Go.AM
open Go.Proofs
theorem fit_words {f : Nat} {x : List AV} (h : Fit Try.prog f 61 x) : ∃ W : List Int, x = [.rsl 1 (words W)] ∧ W.length ≤ 9223372036854775807 ∧ okW W := by
  obtain ⟨es, f2, rfl, h5, h6⟩ := fit_slice (m := 1) Try.underlying61 (by kernel_rfl) (by decide) h
  obtain ⟨ws, rfl, hw⟩ := exists_mapP (f := fun x : Int => [AV.int .u64 x]) (p := fun w => 0 ≤ w ∧ w ≤ 18446744073709551615) fun y hy => by
    obtain ⟨n, e, h1, h2⟩ := fit_int Try.underlying71 (h6 y hy)
    exact ⟨n, e, by simpa [IntKind.min, IntKind.signed] using h1, by simpa [IntKind.max, IntKind.signed, IntKind.bits] using h2⟩
  exact ⟨ws, rfl, by simpa [maxLen] using h5, okW_of hw⟩
theorem fit_set {f : Nat} {x : List AV} (h : Fit Try.prog f 63 x) : ∃ y : USet, x = rowV y ∧ y.W.length ≤ 9223372036854775807 ∧ okW y.W := by
  obtain ⟨f', parts, rfl, h2⟩ := fit_struct Try.underlying63 h
  obtain ⟨a, b, rfl, h3, h4⟩ := F2.two h2
  obtain ⟨i, rfl, _⟩ := fit_int Try.underlying3 h3
  obtain ⟨W, rfl, h5, h6⟩ := fit_words h4
  exact ⟨⟨i, W⟩, rfl, h5, h6⟩
theorem F2.one {α β : Type} {R : α → β → Prop} {a : α} {l : List β} (h : F2 R [a] l) : ∃ x, l = [x] ∧ R a x := by
  cases h with | cons h1 t => cases t with | nil => exact ⟨_, rfl, h1⟩
theorem fit_rel {f : Nat} {x : List AV} (h : Fit Try.prog f 24 x) : ∃ rs : List USet, x = [.rsl 2 (rs.map rowV)] ∧ (rs.length ≤ 9223372036854775807 ∧ ∀ y ∈ rs, y.W.length ≤ 9223372036854775807) ∧ ∀ y ∈ rs, okW y.W := by
  obtain ⟨f', parts, rfl, h2⟩ := fit_struct Try.underlying24 h
  obtain ⟨a, rfl, h3⟩ := F2.one h2
  obtain ⟨es, f2, rfl, h5, h6⟩ := fit_slice (m := 2) Try.underlying22 (by kernel_rfl) (by decide) h3
  obtain ⟨rs, rfl, hr⟩ := exists_mapP (f := rowV) (p := fun y => y.W.length ≤ 9223372036854775807 ∧ okW y.W) fun y hy => fit_set (h6 y hy)
  exact ⟨rs, rfl, ⟨by simpa [maxLen] using h5, fun y hy => (hr y hy).1⟩, fun y hy => (hr y hy).2⟩
end Go.AM

