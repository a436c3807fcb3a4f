/- Lemmas and contracts, part 4: an abstract machine over the model, and the functions that the statement reaches. -/
import Derived.Test.YtadfdoalifmkhaaMatchingHallP3
set_option linter.unusedVariables false
set_option linter.unusedSimpArgs false
/- The nodes that alternating paths reach. -/
namespace Go.AM
structure RSt where
  s : List Bool
  l : List Int
  q : List Int
def rstep (R : List Int) (r : Int) (t : RSt) : RSt :=
  if t.s.getD r.toNat false = true then t
  else ⟨t.s.set r.toNat true, if 0 ≤ R.getD r.toNat 0 then t.l ++ [R.getD r.toNat 0] else t.l, t.q ++ [r]⟩
def rrow (R : List Int) : List Int → RSt → RSt
  | [], t => t
  | r :: rs, t => rrow R rs (rstep R r t)
def rrun (nb : List (List Int)) (R : List Int) : Nat → Nat → RSt → RSt
  | 0, _, t => t
  | f + 1, i, t => if i < t.l.length then rrun nb R f (i + 1) (rrow R (nb.getD (t.l.getD i 0).toNat []) t) else t
def frL (L : List Int) (j : Nat) : List Int := ((List.range j).filter fun i => decide (L.getD i 0 < 0)).map fun (i : Nat) => (i : Int)
theorem frL_succ (L : List Int) (j : Nat) : frL L (j + 1) = if L.getD j 0 < 0 then frL L j ++ [(j : Int)] else frL L j := by
  unfold frL
  rw [List.range_succ, List.filter_append, List.map_append]
  by_cases h : L.getD j 0 < 0
  · rw [if_pos h]; simp only [List.filter_cons, h, decide_true, if_true, List.filter_nil, List.map_cons, List.map_nil]
  · rw [if_neg h]; simp only [List.filter_cons, h, decide_false, Bool.false_eq_true, if_false, List.filter_nil, List.map_nil, List.append_nil]
theorem frL_le (L : List Int) (j : Nat) : (frL L j).length ≤ j := by
  unfold frL
  rw [List.length_map]
  have := List.length_filter_le (fun i => decide (L.getD i 0 < 0)) (List.range j)
  simpa using this
theorem frL_mem {L : List Int} {n : Nat} (hn : n ≤ L.length) (x : Int) : x ∈ frL L n ↔ ∃ i : Nat, x = i ∧ i < n ∧ gi L i < 0 := by
  simp only [frL, List.mem_map, List.mem_filter, List.mem_range, decide_eq_true_eq]
  constructor
  · rintro ⟨i, ⟨h1, h2⟩, rfl⟩; exact ⟨i, rfl, h1, by rw [← gi_eq (by omega)]; exact h2⟩
  · rintro ⟨i, rfl, h1, h2⟩; exact ⟨i, ⟨h1, by rw [gi_eq (by omega)]; exact h2⟩, rfl⟩
/-- The whole search of the reached nodes. -/
def reachP (nb : List (List Int)) (L R : List Int) (n m : Nat) : RSt := rrun nb R (n + m + 1) 0 ⟨List.replicate m false, frL L n, []⟩

inductive RL (nb : List (List Int)) (n : Nat) (L R : List Int) : Nat → Prop
  | free {l : Nat} : l < n → gi L l < 0 → RL nb n L R l
  | step {l : Nat} {r : Int} {l2 : Nat} : RL nb n L R l → r ∈ nbl nb l → gi R r.toNat = (l2 : Int) → RL nb n L R l2
def RR (nb : List (List Int)) (n : Nat) (L R : List Int) (r : Nat) : Prop := ∃ l, RL nb n L R l ∧ (r : Int) ∈ nbl nb l

/-- What the search keeps. -/
structure RIv (n m : Nat) (nb : List (List Int)) (L R : List Int) (t : RSt) : Prop where
  hs : t.s.length = m
  hl : ∀ x ∈ t.l, ∃ i : Nat, x = i ∧ i < n ∧ RL nb n L R i
  hq : ∀ x ∈ t.q, ∃ r : Nat, x = r ∧ r < m ∧ RR nb n L R r ∧ sg t.s r
  hsq : ∀ r, sg t.s r → (r : Int) ∈ t.q
  hb : ∀ r, sg t.s r → 0 ≤ gi R r → gi R r ∈ t.l
  hfr : ∀ i : Nat, i < n → gi L i < 0 → (i : Int) ∈ t.l
  hlen : t.l.length + uns t.s ≤ n + m
  hlq : t.q.length + uns t.s ≤ m
structure RLe (t u : RSt) : Prop where
  hs : ∀ r, sg t.s r → sg u.s r
  hl : ∃ z, u.l = t.l ++ z
  hu : u.l.length + uns u.s ≤ t.l.length + uns t.s
theorem RLe.refl (t : RSt) : RLe t t := ⟨fun _ h => h, ⟨[], by simp⟩, Nat.le_refl _⟩
theorem RLe.trans {t u v : RSt} (h : RLe t u) (g : RLe u v) : RLe t v :=
  ⟨fun r hr => g.hs r (h.hs r hr), by obtain ⟨a, ha⟩ := h.hl; obtain ⟨b, hb⟩ := g.hl; exact ⟨a ++ b, by rw [hb, ha, List.append_assoc]⟩, Nat.le_trans g.hu h.hu⟩
theorem rstep_iv {n m : Nat} {nb : List (List Int)} {L R : List Int} (hR : R.length = m) (hRn : ∀ r, gi R r < (n : Int)) {t : RSt} (h : RIv n m nb L R t) {l : Nat} (hl : RL nb n L R l) {r : Int} (hr : r ∈ nbl nb l) (hrm : 0 ≤ r ∧ r < (m : Int)) :
    RIv n m nb L R (rstep R r t) ∧ RLe t (rstep R r t) ∧ sg (rstep R r t).s r.toNat := by
  unfold rstep
  obtain ⟨q, rfl⟩ : ∃ q : Nat, r = (q : Int) := ⟨r.toNat, by omega⟩
  rw [Int.toNat_natCast]
  by_cases hs : t.s.getD q false = true
  · rw [if_pos hs]; exact ⟨h, .refl t, hs⟩
  · rw [if_neg hs]
    have hsl := h.hs
    have hss := fun k => sg_set t.s q k (by omega)
    have hu := uns_set (s := t.s) (i := q) (by omega) (by simpa using hs)
    have hRR : RR nb n L R q := ⟨l, hl, hr⟩
    have e0 : R.getD q 0 = gi R q := gi_eq (by omega)
    rw [e0]
    have hlen := h.hlen
    have hlq := h.hlq
    have hsm : ∀ x, x ∈ t.l → x ∈ (if 0 ≤ gi R q then t.l ++ [gi R q] else t.l) := fun x hx => by split <;> simp [hx]
    refine ⟨⟨by simp [hsl], fun x hx => ?_, fun x hx => ?_, fun k hk => ?_, fun k hk hk2 => ?_, fun i hi hi2 => hsm _ (h.hfr i hi hi2), ?_, ?_⟩, ⟨fun k hk => (hss k).2 (.inr hk), ?_, ?_⟩, (hss q).2 (.inl rfl)⟩
    · simp only at hx
      split at hx
      · rename_i h0
        rcases List.mem_append.1 hx with h1 | h1
        · exact h.hl x h1
        · simp only [List.mem_singleton] at h1
          subst h1
          refine ⟨(gi R q).toNat, by omega, by have := hRn q; omega, RL.step hl hr ?_⟩
          rw [Int.toNat_natCast]; omega
      · exact h.hl x hx
    · rcases List.mem_append.1 hx with h1 | h1
      · obtain ⟨r, e, h2, h3, h4⟩ := h.hq x h1
        exact ⟨r, e, h2, h3, (hss r).2 (.inr h4)⟩
      · simp only [List.mem_singleton] at h1
        subst h1
        exact ⟨q, rfl, by omega, hRR, (hss q).2 (.inl rfl)⟩
    · rcases (hss k).1 hk with h1 | h1
      · subst h1; simp
      · exact List.mem_append.2 (.inl (h.hsq k h1))
    · rcases (hss k).1 hk with h1 | h1
      · subst h1; simp only; rw [if_pos hk2]; simp
      · exact hsm _ (h.hb k h1 hk2)
    · simp only; split <;> (try simp only [List.length_append, List.length_cons, List.length_nil]) <;> omega
    · simp only [List.length_append, List.length_cons, List.length_nil]; omega
    · simp only; split
      · exact ⟨[gi R q], rfl⟩
      · exact ⟨[], by simp⟩
    · simp only; split <;> simp <;> omega
theorem rrow_iv {n m : Nat} {nb : List (List Int)} {L R : List Int} (hR : R.length = m) (hRn : ∀ r, gi R r < (n : Int)) {l : Nat} (hl : RL nb n L R l) :
    ∀ (rs : List Int) (t : RSt), RIv n m nb L R t → (∀ r ∈ rs, r ∈ nbl nb l ∧ 0 ≤ r ∧ r < (m : Int)) → RIv n m nb L R (rrow R rs t) ∧ RLe t (rrow R rs t) ∧ ∀ r ∈ rs, sg (rrow R rs t).s r.toNat
  | [], t, h, _ => ⟨h, .refl t, fun r hr => by cases hr⟩
  | r :: rs, t, h, hrs => by
    obtain ⟨h1, h2⟩ := hrs r (by simp)
    obtain ⟨a1, a2, a3⟩ := rstep_iv hR hRn h hl h1 h2
    obtain ⟨b1, b2, b3⟩ := rrow_iv hR hRn hl rs (rstep R r t) a1 (fun x hx => hrs x (by simp [hx]))
    refine ⟨b1, a2.trans b2, fun x hx => ?_⟩
    rcases List.mem_cons.1 hx with rfl | hx
    · exact b2.hs _ a3
    · exact b3 x hx
def RCl (nb : List (List Int)) (t : RSt) (i : Nat) : Prop := ∀ k, k < i → k < t.l.length → ∀ r ∈ nbl nb (t.l.getD k 0).toNat, sg t.s r.toNat
theorem rrun_iv {n m : Nat} {nb : List (List Int)} {L R : List Int} (hn1 : nb.length = n) (hn2 : ∀ row ∈ nb, ∀ r ∈ row, 0 ≤ r ∧ r < (m : Int)) (hR : R.length = m) (hRn : ∀ r, gi R r < (n : Int)) :
    ∀ (f i : Nat) (t : RSt), t.l.length + uns t.s < f + i → RIv n m nb L R t → RCl nb t i → RIv n m nb L R (rrun nb R f i t) ∧ RCl nb (rrun nb R f i t) (rrun nb R f i t).l.length
  | 0, i, t, hf, h, hc => ⟨h, fun k hk hk2 => hc k (by show k < i; unfold rrun at hk; omega) hk2⟩
  | f + 1, i, t, hf, h, hc => by
    unfold rrun
    by_cases hi : i < t.l.length
    · rw [if_pos hi]
      obtain ⟨l, e, hln, hl⟩ := h.hl (t.l.getD i 0) (mem_getD hi 0)
      obtain ⟨a1, a2, a3⟩ := rrow_iv hR hRn hl (nb.getD (t.l.getD i 0).toNat []) t h (fun r hr => by
        rw [e, Int.toNat_natCast] at hr
        exact ⟨hr, hn2 _ (mem_getD (by omega) []) r hr⟩)
      obtain ⟨z, hz⟩ := a2.hl
      have hu := a2.hu
      refine rrun_iv hn1 hn2 hR hRn f (i + 1) _ (by omega) a1 fun k hk hk2 r hr => ?_
      rw [hz] at hr
      have hkl : k < t.l.length := by omega
      rw [List.getD_eq_getElem?_getD, List.getElem?_append_left hkl, ← List.getD_eq_getElem?_getD] at hr
      by_cases e2 : k = i
      · subst e2; exact a3 r hr
      · exact a2.hs _ (hc k (by omega) hkl r hr)
    · rw [if_neg hi]; exact ⟨h, fun k hk hk2 => hc k (by omega) hk2⟩
theorem reach_iv0 {n m : Nat} {nb : List (List Int)} {L R : List Int} (hL : L.length = n) : RIv n m nb L R ⟨List.replicate m false, frL L n, []⟩ :=
  ⟨by simp, fun x hx => by obtain ⟨i, e, h1, h2⟩ := (frL_mem (by omega) x).1 hx; exact ⟨i, e, h1, .free h1 h2⟩, fun x hx => (by cases hx), fun r hr => absurd hr (sg_none m r), fun r hr => absurd hr (sg_none m r),
   fun i hi h => (frL_mem (by omega) _).2 ⟨i, rfl, hi, h⟩, by have := frL_le L n; rw [uns_replicate]; simp only; omega, by rw [uns_replicate]; simp⟩
theorem reachP_spec {n m : Nat} {nb : List (List Int)} (hn1 : nb.length = n) (hn2 : ∀ row ∈ nb, ∀ r ∈ row, 0 ≤ r ∧ r < (m : Int)) {L R : List Int} (h : Mch n m nb L R) :
    RIv n m nb L R (reachP nb L R n m) ∧ (∀ i : Nat, (i : Int) ∈ (reachP nb L R n m).l ↔ RL nb n L R i) ∧ ∀ r : Nat, (r : Int) ∈ (reachP nb L R n m).q ↔ RR nb n L R r := by
  obtain ⟨h1, h2⟩ := rrun_iv hn1 hn2 h.hR h.hRn (n + m + 1) 0 ⟨List.replicate m false, frL L n, []⟩ (by have := frL_le L n; rw [uns_replicate]; simp only; omega) (reach_iv0 h.hL) (fun k hk => by omega)
  have hre : rrun nb R (n + m + 1) 0 ⟨List.replicate m false, frL L n, []⟩ = reachP nb L R n m := rfl
  rw [hre] at h1 h2
  have hl : ∀ i : Nat, RL nb n L R i → (i : Int) ∈ (reachP nb L R n m).l := by
    intro i hi
    induction hi with
    | free a b => exact h1.hfr _ a b
    | step a b c ih =>
      obtain ⟨k, hk, e⟩ := List.getElem_of_mem ih
      have h3 := h2 k hk hk
      rw [List.getD_eq_getElem?_getD, List.getElem?_eq_getElem hk, Option.getD_some] at h3
      rw [e, Int.toNat_natCast] at h3
      have h4 := h1.hb _ (h3 _ b) (by omega)
      rw [c] at h4; exact h4
  have hsr : ∀ r : Nat, RR nb n L R r → sg (reachP nb L R n m).s r := by
    rintro r ⟨l, a, b⟩
    have hm := hl l a
    obtain ⟨k, hk, e⟩ := List.getElem_of_mem hm
    have h3 := h2 k hk hk
    rw [List.getD_eq_getElem?_getD, List.getElem?_eq_getElem hk, Option.getD_some] at h3
    rw [e, Int.toNat_natCast] at h3
    exact h3 _ b
  refine ⟨h1, fun i => ⟨fun hi => ?_, hl i⟩, fun r => ⟨fun hr => ?_, fun hr => h1.hsq r (hsr r hr)⟩⟩
  · obtain ⟨i2, e, _, h3⟩ := h1.hl _ hi
    have : i = i2 := by omega
    subst this; exact h3
  · obtain ⟨r2, e, _, h3, _⟩ := h1.hq _ hr
    have : r = r2 := by omega
    subst this; exact h3

/-- The reference's rounds over the edges. -/
abbrev FSt := List Bool × List Bool
def eone (R : List Int) (e : Int × Int) (t : FSt × Bool) : FSt × Bool :=
  if t.1.1.getD e.1.toNat false = false ∨ t.1.2.getD e.2.toNat false = true then t
  else ((if 0 ≤ R.getD e.2.toNat 0 then t.1.1.set (R.getD e.2.toNat 0).toNat true else t.1.1, t.1.2.set e.2.toNat true), true)
def eall (R : List Int) : List (Int × Int) → FSt × Bool → FSt × Bool
  | [], t => t
  | e :: es, t => eall R es (eone R e t)
def erun (R : List Int) (E : List (Int × Int)) : Nat → FSt → FSt
  | 0, t => t
  | f + 1, t => let u := eall R E (t, false); if u.2 = true then erun R E f u.1 else u.1
def freeF (R : List Int) (n : Nat) : Nat → List Bool
  | 0 => List.replicate n true
  | j + 1 => if 0 ≤ R.getD j 0 then (freeF R n j).set (R.getD j 0).toNat false else freeF R n j
theorem freeF_len (R : List Int) (n : Nat) : ∀ j, (freeF R n j).length = n
  | 0 => by simp [freeF]
  | j + 1 => by unfold freeF; split <;> simp [freeF_len R n j]
theorem freeF_get {R : List Int} {n m : Nat} (hR : R.length = m) (hRn : ∀ r, gi R r < (n : Int)) : ∀ j, j ≤ m → ∀ i, i < n → ((freeF R n j).getD i false = true ↔ ∀ r, r < j → gi R r ≠ (i : Int))
  | 0, _, i, hi => by simp [freeF, List.getD_eq_getElem?_getD, hi]
  | j + 1, hj, i, hi => by
    have ih := freeF_get hR hRn j (by omega) i hi
    have hl := freeF_len R n j
    have e0 : R.getD j 0 = gi R j := gi_eq (by omega)
    unfold freeF
    rw [e0]
    have hlt := hRn j
    have hsp : (∀ r, r < j + 1 → gi R r ≠ (i : Int)) ↔ (∀ r, r < j → gi R r ≠ (i : Int)) ∧ gi R j ≠ (i : Int) :=
      ⟨fun h => ⟨fun r hr => h r (by omega), h j (by omega)⟩, fun h r hr => by
        by_cases e : r = j
        · subst e; exact h.2
        · exact h.1 r (by omega)⟩
    rw [hsp, ← ih]
    split
    · by_cases e : (gi R j).toNat = i
      · subst e
        rw [Go.AM.getD_set_eq (by omega)]
        constructor
        · intro h; cases h
        · intro h; omega
      · rw [Go.AM.getD_set_ne (by omega)]
        constructor
        · intro h; exact ⟨h, by omega⟩
        · intro h; exact h.1
    · constructor
      · intro h; exact ⟨h, by omega⟩
      · intro h; exact h.1
/-- What the reference's rounds keep. -/
structure FIv (n m : Nat) (nb : List (List Int)) (L R : List Int) (t : FSt) : Prop where
  h1 : t.1.length = n
  h2 : t.2.length = m
  hl : ∀ i, sg t.1 i → RL nb n L R i
  hr : ∀ r, sg t.2 r → RR nb n L R r
  hb : ∀ r, sg t.2 r → 0 ≤ gi R r → sg t.1 (gi R r).toNat
  hfr : ∀ i, i < n → gi L i < 0 → sg t.1 i
theorem eone_iv {n m : Nat} {nb : List (List Int)} {L R : List Int} (hR : R.length = m) (hRn : ∀ r, gi R r < (n : Int)) {t : FSt × Bool} (h : FIv n m nb L R t.1) {e : Int × Int} (he : edgeIn n m e = true) (hnb : e.2 ∈ nbl nb e.1.toNat) :
    FIv n m nb L R (eone R e t).1 ∧ (∀ r, sg t.1.1 r → sg (eone R e t).1.1 r) ∧ (∀ r, sg t.1.2 r → sg (eone R e t).1.2 r) ∧ (eone R e t = t ∧ (sg t.1.1 e.1.toNat → sg t.1.2 e.2.toNat) ∨ (eone R e t).2 = true ∧ uns (eone R e t).1.2 + 1 = uns t.1.2) := by
  obtain ⟨q1, q2, q3, q4⟩ := edgeIn_iff.1 he
  unfold eone
  by_cases hc : t.1.1.getD e.1.toNat false = false ∨ t.1.2.getD e.2.toNat false = true
  · rw [if_pos hc]
    refine ⟨h, fun _ h => h, fun _ h => h, .inl ⟨rfl, fun h3 => ?_⟩⟩
    rcases hc with h4 | h4
    · unfold sg at h3; rw [h4] at h3; cases h3
    · exact h4
  · rw [if_neg hc]
    have hc1 : sg t.1.1 e.1.toNat := by unfold sg; cases h4 : t.1.1.getD e.1.toNat false <;> simp_all
    have hc2 : ¬ sg t.1.2 e.2.toNat := fun h4 => hc (.inr h4)
    have hl1 := h.h1
    have hl2 := h.h2
    have e0 : R.getD e.2.toNat 0 = gi R e.2.toNat := gi_eq (by omega)
    rw [e0]
    have hlt := hRn e.2.toNat
    have hu := uns_set (s := t.1.2) (i := e.2.toNat) (by omega) (by unfold sg at hc2; simpa using hc2)
    have hs2 := fun k => sg_set t.1.2 e.2.toNat k (by omega)
    have hRR : RR nb n L R e.2.toNat := ⟨_, h.hl _ hc1, by rw [Int.toNat_of_nonneg q3]; exact hnb⟩
    have hs1 : ∀ k, sg (if 0 ≤ gi R e.2.toNat then t.1.1.set (gi R e.2.toNat).toNat true else t.1.1) k ↔ (0 ≤ gi R e.2.toNat ∧ (gi R e.2.toNat).toNat = k) ∨ sg t.1.1 k := fun k => by
      split
      · rename_i h0
        rw [sg_set _ _ _ (by omega)]
        simp [h0]
      · rename_i h0
        simp [h0]
    refine ⟨⟨by simp only; split <;> simp [hl1], by simp [hl2], fun i hi => ?_, fun r hr => ?_, fun r hr h0 => ?_, fun i hi h0 => (hs1 i).2 (.inr (h.hfr i hi h0))⟩, fun k hk => (hs1 k).2 (.inr hk), fun k hk => (hs2 k).2 (.inr hk), .inr ⟨rfl, hu⟩⟩
    · rcases (hs1 i).1 hi with ⟨h3, rfl⟩ | h3
      · exact RL.step (h.hl _ hc1) hnb (by omega)
      · exact h.hl i h3
    · rcases (hs2 r).1 hr with rfl | h3
      · exact hRR
      · exact h.hr r h3
    · rcases (hs2 r).1 hr with rfl | h3
      · exact (hs1 _).2 (.inl ⟨h0, rfl⟩)
      · exact (hs1 _).2 (.inr (h.hb r h3 h0))
theorem eall_iv {n m : Nat} {nb : List (List Int)} {L R : List Int} (hR : R.length = m) (hRn : ∀ r, gi R r < (n : Int)) : ∀ (E : List (Int × Int)) (t : FSt × Bool), (∀ e ∈ E, edgeIn n m e = true ∧ e.2 ∈ nbl nb e.1.toNat) → FIv n m nb L R t.1 →
    FIv n m nb L R (eall R E t).1 ∧ (t.2 = true → (eall R E t).2 = true) ∧ (uns (eall R E t).1.2 ≤ uns t.1.2) ∧ (eall R E t = t ∧ (∀ e ∈ E, sg t.1.1 e.1.toNat → sg t.1.2 e.2.toNat) ∨ (eall R E t).2 = true ∧ uns (eall R E t).1.2 < uns t.1.2)
  | [], t, _, h => ⟨h, fun h => h, Nat.le_refl _, .inl ⟨rfl, fun e he => by cases he⟩⟩
  | e :: E, t, hE, h => by
    obtain ⟨p1, p2⟩ := hE e (by simp)
    obtain ⟨a1, a2, a3, a4⟩ := eone_iv hR hRn h p1 p2
    obtain ⟨b1, b2, b3, b4⟩ := eall_iv hR hRn E (eone R e t) (fun x hx => hE x (by simp [hx])) a1
    unfold eall
    rcases a4 with ⟨a4, a5⟩ | ⟨a4, a5⟩
    · rw [a4] at b1 b2 b3 b4 ⊢
      refine ⟨b1, b2, b3, ?_⟩
      rcases b4 with ⟨b4, b5⟩ | b4
      · refine .inl ⟨b4, fun x hx => ?_⟩
        rcases List.mem_cons.1 hx with rfl | hx
        · exact a5
        · exact b5 x hx
      · exact .inr b4
    · exact ⟨b1, fun _ => b2 a4, by omega, .inr ⟨b2 a4, by omega⟩⟩
theorem erun_iv {n m : Nat} {nb : List (List Int)} {L R : List Int} (hR : R.length = m) (hRn : ∀ r, gi R r < (n : Int)) {E : List (Int × Int)} (hE : ∀ e ∈ E, edgeIn n m e = true ∧ e.2 ∈ nbl nb e.1.toNat) : ∀ (f : Nat) (t : FSt), uns t.2 < f → FIv n m nb L R t →
    FIv n m nb L R (erun R E f t) ∧ ∀ e ∈ E, sg (erun R E f t).1 e.1.toNat → sg (erun R E f t).2 e.2.toNat
  | 0, t, hf, _ => by omega
  | f + 1, t, hf, h => by
    obtain ⟨a1, a2, a3, a4⟩ := eall_iv hR hRn E (t, false) hE h
    unfold erun
    simp only
    rcases a4 with ⟨a4, a5⟩ | ⟨a4, a5⟩
    · rw [a4]
      simp only [Bool.false_eq_true, if_false]
      exact ⟨h, a5⟩
    · rw [if_pos a4]
      exact erun_iv hR hRn hE f _ (by simp only at a5; omega) a1
def reachF (R : List Int) (E : List (Int × Int)) (n m : Nat) : FSt := erun R E (m + 1) (freeF R n m, List.replicate m false)
theorem reachF_spec {n m : Nat} {nb : List (List Int)} {L R : List Int} (h : Mch n m nb L R) {E : List (Int × Int)} (hE : ∀ e ∈ E, edgeIn n m e = true ∧ e.2 ∈ nbl nb e.1.toNat) (hnb : ∀ l, ∀ r ∈ nbl nb l, ((l : Int), r) ∈ E) :
    (reachF R E n m).1.length = n ∧ (reachF R E n m).2.length = m ∧ (∀ i, sg (reachF R E n m).1 i ↔ RL nb n L R i) ∧ ∀ r, sg (reachF R E n m).2 r ↔ RR nb n L R r := by
  have hfg := freeF_get h.hR h.hRn m (Nat.le_refl m)
  have h0 : FIv n m nb L R (freeF R n m, List.replicate m false) := by
    refine ⟨freeF_len R n m, by simp, fun i hi => ?_, fun r hr => absurd hr (sg_none m r), fun r hr => absurd hr (sg_none m r), fun i hi h0 => ?_⟩
    · have hin : i < n := by
        have hfl := freeF_len R n m
        by_cases hh : i < n
        · exact hh
        · unfold sg at hi; rw [getD_out (by simp only; omega)] at hi; cases hi
      refine .free hin ?_
      have h1 := (hfg i hin).1 hi
      have hm := h.hLm i
      by_cases h2 : gi L i < 0
      · exact h2
      · have h3 := (h.hC i (gi L i).toNat).1 (by omega)
        exact absurd h3 (h1 _ (by omega))
    · exact (hfg i hi).2 fun r _ hr => by have := (h.hC i r).2 hr; omega
  obtain ⟨a1, a2⟩ := erun_iv h.hR h.hRn hE (m + 1) (freeF R n m, List.replicate m false) (by rw [uns_replicate]; omega) h0
  have hl : ∀ i, RL nb n L R i → sg (reachF R E n m).1 i := by
    intro i hi
    induction hi with
    | free a b => exact a1.hfr _ a b
    | @step l r l2 a b c ih =>
      have h2 := a2 _ (hnb _ _ b) (by rw [Int.toNat_natCast]; exact ih)
      have h3 := a1.hb _ h2 (by simp only; omega)
      simp only [c, Int.toNat_natCast] at h3
      exact h3
  refine ⟨a1.h1, a1.h2, fun i => ⟨a1.hl i, hl i⟩, fun r => ⟨a1.hr r, ?_⟩⟩
  rintro ⟨l, b1, b2⟩
  have := a2 _ (hnb _ _ b2) (by rw [Int.toNat_natCast]; exact hl l b1)
  rw [Int.toNat_natCast] at this
  exact this
/-- Neighbors and edges. -/
theorem foldl_nb_mem (E : List (Int × Int)) : ∀ (nb : List (List Int)) (l : Nat) (r : Int), (∀ e ∈ E, 0 ≤ e.1 ∧ e.1 < (nb.length : Int)) → (r ∈ nbl (E.foldl nbAdd nb) l ↔ r ∈ nbl nb l ∨ ((l : Int), r) ∈ E) := by
  induction E with
  | nil => intro nb l r _; simp
  | cons e E ih =>
    intro nb l r hE
    rw [List.foldl_cons, ih (nbAdd nb e) l r (fun x hx => by have := hE x (by simp [hx]); simpa [nbAdd] using this)]
    have he := hE e (by simp)
    have hm : r ∈ nbl (nbAdd nb e) l ↔ r ∈ nbl nb l ∨ ((l : Int), r) = e := by
      unfold nbl nbAdd
      by_cases h : e.1.toNat = l
      · subst h
        rw [Go.AM.getD_set_eq (by omega), List.mem_append]
        simp only [List.mem_singleton]
        rw [Int.toNat_of_nonneg he.1]
        constructor
        · rintro (h | rfl)
          · exact .inl h
          · exact .inr rfl
        · rintro (h | h)
          · exact .inl h
          · rw [← h]; exact .inr rfl
      · rw [Go.AM.getD_set_ne (by omega)]
        constructor
        · exact .inl
        · rintro (h1 | h1)
          · exact h1
          · rw [← h1] at h; simp at h
    rw [hm, List.mem_cons, or_assoc]
theorem nbOf_mem {n : Nat} {m : Int} {E : List (Int × Int)} (hE : ∀ e ∈ E, edgeIn n m e = true) (l : Nat) (r : Int) : r ∈ nbl (nbOf n E) l ↔ ((l : Int), r) ∈ E := by
  unfold nbOf
  rw [foldl_nb_mem E _ l r (fun e he => by have := edgeIn_iff.1 (hE e he); rw [List.length_replicate]; omega)]
  have : nbl (List.replicate n []) l = ([] : List Int) := by
    unfold nbl
    rw [List.getD_eq_getElem?_getD, List.getElem?_replicate]
    split <;> rfl
  rw [this]; simp
end Go.AM

namespace Go.Proofs.M
open Go.AM Go
set_option maxRecDepth 100000
set_option maxHeartbeats 2000000
theorem ints_snoc (l : List Int) (x : Int) : ints l ++ [[.int .i64 x]] = ints (l ++ [x]) := by simp [ints]
theorem ints_all (l : List Int) : (ints l).take l.length = ints l := List.take_of_length_le (by rw [ints_len]; exact Nat.le_refl _)
theorem reached_r {n m : Nat} (hn : n ≤ 512) (hm : m ≤ 512) {nb : List (List Int)} (h1 : nb.length = n) (h2 : ∀ row ∈ nb, ∀ r ∈ row, 0 ≤ r ∧ r < (m : Int)) (h3 : ∀ row ∈ nb, row.length ≤ 100000) {L R : List Int} (hM : Mch n m nb L R) :
    Reads Try.prog 33 true [.rptr [.rsl 1 (nbR nb), .rsl 1 (ints L), .rsl 1 (ints R)]] (.tup [.rsl 1 (ints (reachP nb L R n m).l), .rsl 1 (ints (reachP nb L R n m).q)]) := by
  have hL := hM.hL
  have hR := hM.hR
  have hz : List.replicate m [AV.bool false] = bools (List.replicate m false) := by simp [bools]
  have hnl := nbR_len nb
  obtain ⟨T, hT⟩ : ∃ T, reachP nb L R n m = T := ⟨_, rfl⟩
  have hT0 := hT
  rw [hT]
  unfold reachP at hT
  refine Reads.bodyF (rs := [.tmp 2, .tmp 3]) Try.func33 rfl Try.ntmps33 rfl (by simp) ?_
  generalize hQr : retQ _ _ _ = Qr
  refine AW.seq fun K1 hK1 => ?_
  -- region 0
  refine AW.regionK 0 (fun _ => none) [0, 2, 3] [15] ?_
  simp only [go_sem, reduceIte, reduceCtorEq, Nat.reduceAdd, Nat.reduceMul, Nat.reduceEqDiff, Nat.reduceLT, Nat.reduceLeDiff, Nat.reduceSub, Nat.reducePow, Nat.reduceBEq, Int.reduceToNat, List.reduceReplicate, ints_len, bools_len, hL, hR, hz, hnl, h1]
  repeat with_reducible refine cj ?_ ?_
  all_goals try first | omega
  refine hK1 _ _ _ ?_; clear hK1
  refine AW.seq fun K2 hK2 => ?_
  -- region 1
  refine AW.regionK 0 (fun _ => none) [0, 2, 3, 4] [15] ?_
  simp only [go_sem, reduceIte, reduceCtorEq, Nat.reduceAdd, Nat.reduceMul, Nat.reduceEqDiff, Nat.reduceLT, Nat.reduceLeDiff, Nat.reduceSub, Nat.reducePow, Nat.reduceBEq, Int.reduceToNat, List.reduceReplicate, ints_len, bools_len, hL, hR, hz, hnl, h1]
  repeat with_reducible refine cj ?_ ?_
  all_goals try first | omega
  refine hK2 _ _ _ ?_; clear hK2
  refine AW.seq fun K3 hK3 => ?_
  refine AW.seq fun K4 hK4 => ?_
  -- region 2
  refine AW.regionK 0 (fun _ => none) [0, 2, 3, 4, 19, 20, 21] [15] ?_
  simp only [go_sem, reduceIte, reduceCtorEq, Nat.reduceAdd, Nat.reduceMul, Nat.reduceEqDiff, Nat.reduceLT, Nat.reduceLeDiff, Nat.reduceSub, Nat.reducePow, Nat.reduceBEq, Int.reduceToNat, List.reduceReplicate, ints_len, bools_len, hL, hR, hz, hnl, h1]
  repeat with_reducible refine cj ?_ ?_
  all_goals try first | omega
  refine hK4 _ _ _ ?_; clear hK4
  refine AW.block ?_
  refine AW.nilOwn 2 200 1 (by simp only [go_sem, reduceIte, Nat.reduceEqDiff]) ?_
  refine AW.nilOwn 3 201 1 (by simp only [go_sem, reduceIte, Nat.reduceEqDiff]) ?_
  refine AW.keep [0, 2, 3, 4, 19, 20, 21] [15, 200, 201] ?_
  simp only [go_sem, reduceIte, Nat.reduceEqDiff]
  -- loop 1
  refine AW.loopE (fun mm ee ss kk => ∃ (j g4 v4 g2 v2 g3 v3 : Nat), n - j = mm ∧ ee = [(0, .rptr [.rsl 1 (nbR nb), .rsl 1 (ints L), .rsl 1 (ints R)]), (2, .sl ⟨200, g2, none⟩ 0 (frL L j).length none), (3, .sl ⟨201, g3, none⟩ 0 0 none), (4, .sl ⟨15, g4, none⟩ 0 m none), (19, .rsl 1 (ints L)), (20, .int .i64 n), (21, .int .i64 (j : Nat))] ∧ ss = [(15, some ⟨g4, v4, 1, bools (List.replicate m false)⟩), (200, some ⟨g2, v2, 1, ints (frL L j)⟩), (201, some ⟨g3, v3, 1, ints []⟩)] ∧ (j ≤ n)) ?_ ?_
  · refine ⟨_, 0, ?_, ?_, ?_, ?_, ?_, ?_, rfl, ?henv, ?hstore, ?hst⟩
    case henv =>
      repeat' (first | rfl | refine env_cons ?_ ?_ | refine st_cons ?_ ?_ ?_ ?_ | refine int_eq ?_ | refine bool_eq ?_ | refine rsl_eq ?_ | refine osl_eq ?_ | refine sl_eq ?_ ?_ ?_ | refine ptr_eq ?_ ?_ ?_ | refine agg_eq ?_ | refine es_cons ?_ ?_ | refine row_cons ?_ ?_)
      all_goals (first | (simp; done) | omega | (simp; omega))
    case hstore =>
      repeat' (first | rfl | refine env_cons ?_ ?_ | refine st_cons ?_ ?_ ?_ ?_ | refine int_eq ?_ | refine bool_eq ?_ | refine rsl_eq ?_ | refine osl_eq ?_ | refine sl_eq ?_ ?_ ?_ | refine ptr_eq ?_ ?_ ?_ | refine agg_eq ?_ | refine es_cons ?_ ?_ | refine row_cons ?_ ?_)
      all_goals (first | (simp; done) | omega | (simp; omega))
    case hst =>
      first | trivial | omega | (simp; done) | (simp; omega)
  rintro mm ee ss kk ⟨j, g4, v4, g2, v2, g3, v3, rfl, rfl, rfl, hI⟩
  generalize hQl1 : thenQ _ _ = Ql1
  refine AW.seq fun K5 hK5 => ?_
  -- region 3
  refine AW.regionK 0 (fun _ => none) [0, 2, 3, 4, 19, 20, 21, 22] [15, 200, 201] ?_
  simp only [go_sem, reduceIte, reduceCtorEq, Nat.reduceAdd, Nat.reduceMul, Nat.reduceEqDiff, Nat.reduceLT, Nat.reduceLeDiff, Nat.reduceSub, Nat.reducePow, Nat.reduceBEq, Int.reduceToNat, List.reduceReplicate, ints_len, bools_len, hL, hR, hz, hnl, h1]
  repeat with_reducible refine cj ?_ ?_
  all_goals try first | omega
  refine hK5 _ _ _ ?_; clear hK5
  refine AW.seq fun K6 hK6 => ?_
  -- cond 1
  refine AW.cond rfl (by simp only [go_sem, reduceIte, reduceCtorEq, Nat.reduceAdd, Nat.reduceMul, Nat.reduceEqDiff, Nat.reduceLT, Nat.reduceLeDiff, Nat.reduceSub, Nat.reducePow, Nat.reduceBEq, Int.reduceToNat, List.reduceReplicate]) ?_ ?_
  · intro hb
    try simp only [hB, decide_eq_true_eq, decide_eq_false_iff_not] at hb
    have hgl := ints_getD (l := L) (i := j) (by omega)
    have hsu := frL_succ L j
    have hle := frL_le L j
    have htk := ints_all (frL L j)
    have hsn := ints_snoc (frL L j) (j : Int)
    generalize hP : frL L j = P at *
    refine AW.skip ?_
    refine hK6 _ _ _ ?_; clear hK6
    refine AW.seq fun K7 hK7 => ?_
    refine AW.block ?_
    refine AW.seq fun K8 hK8 => ?_
    -- region 4
    refine AW.regionK 0 (fun _ => none) [0, 2, 3, 4, 5, 6, 19, 20, 21] [15, 200, 201] ?_
    simp only [go_sem, reduceIte, reduceCtorEq, Nat.reduceAdd, Nat.reduceMul, Nat.reduceEqDiff, Nat.reduceLT, Nat.reduceLeDiff, Nat.reduceSub, Nat.reducePow, Nat.reduceBEq, Int.reduceToNat, List.reduceReplicate, ints_len, bools_len, hL, hR, hz, hnl, h1, hgl]
    repeat with_reducible refine cj ?_ ?_
    all_goals try first | omega
    refine hK8 _ _ _ ?_; clear hK8
    refine AW.seq fun K9 hK9 => ?_
    -- region 5
    refine AW.regionK 0 (fun _ => none) [0, 2, 3, 4, 5, 19, 20, 21, 27] [15, 200, 201] ?_
    simp only [go_sem, reduceIte, reduceCtorEq, Nat.reduceAdd, Nat.reduceMul, Nat.reduceEqDiff, Nat.reduceLT, Nat.reduceLeDiff, Nat.reduceSub, Nat.reducePow, Nat.reduceBEq, Int.reduceToNat, List.reduceReplicate, ints_len, bools_len, hL, hR, hz, hnl, h1]
    repeat with_reducible refine cj ?_ ?_
    all_goals try first | omega
    refine hK9 _ _ _ ?_; clear hK9
    -- cond 2
    refine AW.cond rfl (by simp only [go_sem, reduceIte, reduceCtorEq, Nat.reduceAdd, Nat.reduceMul, Nat.reduceEqDiff, Nat.reduceLT, Nat.reduceLeDiff, Nat.reduceSub, Nat.reducePow, Nat.reduceBEq, Int.reduceToNat, List.reduceReplicate]) ?_ ?_
    · intro hb
      try simp only [hB, decide_eq_true_eq, decide_eq_false_iff_not] at hb
      rw [if_pos hb] at hsu
      -- region 6
      refine AW.regionK 0 (fun _ => none) [0, 2, 3, 4, 19, 20, 21] [15, 200, 201] ?_
      simp only [go_sem, reduceIte, reduceCtorEq, Nat.reduceAdd, Nat.reduceMul, Nat.reduceEqDiff, Nat.reduceLT, Nat.reduceLeDiff, Nat.reduceSub, Nat.reducePow, Nat.reduceBEq, Int.reduceToNat, List.reduceReplicate, ints_len, bools_len, hL, hR, hz, hnl, h1, htk, hsn]
      repeat with_reducible refine cj ?_ ?_
      all_goals try first | omega | (simp [scP, scalar]; done) | exact scP_words _ | exact scP_ints _ | exact scP_bools _
      refine hK7 _ _ _ ?_; clear hK7
      -- region 7
      refine AW.regionK 0 (fun _ => none) [0, 2, 3, 4, 19, 20, 21] [15, 200, 201] ?_
      simp only [go_sem, reduceIte, reduceCtorEq, Nat.reduceAdd, Nat.reduceMul, Nat.reduceEqDiff, Nat.reduceLT, Nat.reduceLeDiff, Nat.reduceSub, Nat.reducePow, Nat.reduceBEq, Int.reduceToNat, List.reduceReplicate, ints_len, bools_len, hL, hR, hz, hnl, h1]
      repeat with_reducible refine cj ?_ ?_
      all_goals try first | omega
      rw [← hQl1]
      change Exists _
      refine ⟨_, ?hm, j + 1, ?_, ?_, ?_, ?_, ?_, ?_, rfl, ?henv, ?hstore, ?hst⟩
      case henv =>
        repeat' (first | rfl | refine env_cons ?_ ?_ | refine st_cons ?_ ?_ ?_ ?_ | refine int_eq ?_ | refine bool_eq ?_ | refine rsl_eq ?_ | refine osl_eq ?_ | refine sl_eq ?_ ?_ ?_ | refine ptr_eq ?_ ?_ ?_ | refine agg_eq ?_ | refine es_cons ?_ ?_ | refine row_cons ?_ ?_)
        all_goals (rw [hsu]; try simp)
      case hstore =>
        repeat' (first | rfl | refine env_cons ?_ ?_ | refine st_cons ?_ ?_ ?_ ?_ | refine int_eq ?_ | refine bool_eq ?_ | refine rsl_eq ?_ | refine osl_eq ?_ | refine sl_eq ?_ ?_ ?_ | refine ptr_eq ?_ ?_ ?_ | refine agg_eq ?_ | refine es_cons ?_ ?_ | refine row_cons ?_ ?_)
        all_goals (rw [hsu])
      case hst =>
        first | trivial | omega | (simp; done) | (simp; omega)
      case hm => omega
    · intro hb
      try simp only [hB, decide_eq_true_eq, decide_eq_false_iff_not] at hb
      rw [if_neg (by omega)] at hsu
      refine AW.skip ?_
      refine hK7 _ _ _ ?_; clear hK7
      -- region 7
      refine AW.regionK 0 (fun _ => none) [0, 2, 3, 4, 19, 20, 21] [15, 200, 201] ?_
      simp only [go_sem, reduceIte, reduceCtorEq, Nat.reduceAdd, Nat.reduceMul, Nat.reduceEqDiff, Nat.reduceLT, Nat.reduceLeDiff, Nat.reduceSub, Nat.reducePow, Nat.reduceBEq, Int.reduceToNat, List.reduceReplicate, ints_len, bools_len, hL, hR, hz, hnl, h1]
      repeat with_reducible refine cj ?_ ?_
      all_goals try first | omega
      rw [← hQl1]
      change Exists _
      refine ⟨_, ?hm, j + 1, ?_, ?_, ?_, ?_, ?_, ?_, rfl, ?henv, ?hstore, ?hst⟩
      case henv =>
        repeat' (first | rfl | refine env_cons ?_ ?_ | refine st_cons ?_ ?_ ?_ ?_ | refine int_eq ?_ | refine bool_eq ?_ | refine rsl_eq ?_ | refine osl_eq ?_ | refine sl_eq ?_ ?_ ?_ | refine ptr_eq ?_ ?_ ?_ | refine agg_eq ?_ | refine es_cons ?_ ?_ | refine row_cons ?_ ?_)
        all_goals (rw [hsu]; try simp)
      case hstore =>
        repeat' (first | rfl | refine env_cons ?_ ?_ | refine st_cons ?_ ?_ ?_ ?_ | refine int_eq ?_ | refine bool_eq ?_ | refine rsl_eq ?_ | refine osl_eq ?_ | refine sl_eq ?_ ?_ ?_ | refine ptr_eq ?_ ?_ ?_ | refine agg_eq ?_ | refine es_cons ?_ ?_ | refine row_cons ?_ ?_)
        all_goals (rw [hsu])
      case hst =>
        first | trivial | omega | (simp; done) | (simp; omega)
      case hm => omega
  · intro hb
    try simp only [hB, decide_eq_true_eq, decide_eq_false_iff_not] at hb
    have hj : n = j := by omega
    subst hj
    refine AW.exit ?_
    rw [← hQl1]
    refine hK3 _ _ _ ?_; clear hK3
    refine AW.seq fun K10 hK10 => ?_
    refine AW.seq fun K11 hK11 => ?_
    -- region 8
    refine AW.regionK 0 (fun _ => none) [0, 2, 3, 4, 7] [15, 200, 201] ?_
    simp only [go_sem, reduceIte, reduceCtorEq, Nat.reduceAdd, Nat.reduceMul, Nat.reduceEqDiff, Nat.reduceLT, Nat.reduceLeDiff, Nat.reduceSub, Nat.reducePow, Nat.reduceBEq, Int.reduceToNat, List.reduceReplicate, ints_len, bools_len, hL, hR, hz, hnl, h1]
    repeat with_reducible refine cj ?_ ?_
    all_goals try first | omega
    refine hK11 _ _ _ ?_; clear hK11
    refine AW.block ?_
    -- loop 2
    refine AW.loopE (fun mm ee ss kk => ∃ (i fu g4 v4 g2 v2 g3 v3 : Nat) (t : RSt), fu + 1 = mm ∧ ee = [(0, .rptr [.rsl 1 (nbR nb), .rsl 1 (ints L), .rsl 1 (ints R)]), (2, .sl ⟨200, g2, none⟩ 0 t.l.length none), (3, .sl ⟨201, g3, none⟩ 0 t.q.length none), (4, .sl ⟨15, g4, none⟩ 0 m none), (7, .int .i64 (i : Nat))] ∧ ss = [(15, some ⟨g4, v4, 1, bools t.s⟩), (200, some ⟨g2, v2, 1, ints t.l⟩), (201, some ⟨g3, v3, 1, ints t.q⟩)] ∧ (RIv n m nb L R t ∧ i ≤ t.l.length ∧ t.l.length + uns t.s < fu + i ∧ rrun nb R fu i t = T)) ?_ ?_
    · refine ⟨_, 0, (n + m + 1), ?_, ?_, ?_, ?_, ?_, ?_, ⟨List.replicate m false, frL L n, []⟩, rfl, ?henv, ?hstore, ?hst⟩
      case henv =>
        repeat' (first | rfl | refine env_cons ?_ ?_ | refine st_cons ?_ ?_ ?_ ?_ | refine int_eq ?_ | refine bool_eq ?_ | refine rsl_eq ?_ | refine osl_eq ?_ | refine sl_eq ?_ ?_ ?_ | refine ptr_eq ?_ ?_ ?_ | refine agg_eq ?_ | refine es_cons ?_ ?_ | refine row_cons ?_ ?_)
        all_goals (first | (simp; done) | omega | (simp; omega))
      case hstore =>
        repeat' (first | rfl | refine env_cons ?_ ?_ | refine st_cons ?_ ?_ ?_ ?_ | refine int_eq ?_ | refine bool_eq ?_ | refine rsl_eq ?_ | refine osl_eq ?_ | refine sl_eq ?_ ?_ ?_ | refine ptr_eq ?_ ?_ ?_ | refine agg_eq ?_ | refine es_cons ?_ ?_ | refine row_cons ?_ ?_)
        all_goals (first | (simp; done) | omega | (simp; omega))
      case hst =>
        exact ⟨reach_iv0 hL, by omega, by have := frL_le L n; rw [uns_replicate]; simp only; omega, hT⟩
    rintro mm ee ss kk ⟨i, fu, g4, v4, g2, v2, g3, v3, t, rfl, rfl, rfl, hI⟩
    generalize hQl2 : thenQ _ _ = Ql2
    obtain ⟨hiv, hil, hfu, hrun⟩ := hI
    have hsl := hiv.hs
    have hll := hiv.hlen
    have hql := hiv.hlq
    refine AW.seq fun K12 hK12 => ?_
    refine AW.seq fun K13 hK13 => ?_
    -- region 9
    refine AW.regionK 0 (fun _ => none) [0, 2, 3, 4, 7, 36] [15, 200, 201] ?_
    simp only [go_sem, reduceIte, reduceCtorEq, Nat.reduceAdd, Nat.reduceMul, Nat.reduceEqDiff, Nat.reduceLT, Nat.reduceLeDiff, Nat.reduceSub, Nat.reducePow, Nat.reduceBEq, Int.reduceToNat, List.reduceReplicate, ints_len, bools_len, hL, hR, hz, hnl, h1]
    repeat with_reducible refine cj ?_ ?_
    all_goals try first | omega
    refine hK13 _ _ _ ?_; clear hK13
    -- cond 3
    refine AW.cond rfl (by simp only [go_sem, reduceIte, reduceCtorEq, Nat.reduceAdd, Nat.reduceMul, Nat.reduceEqDiff, Nat.reduceLT, Nat.reduceLeDiff, Nat.reduceSub, Nat.reducePow, Nat.reduceBEq, Int.reduceToNat, List.reduceReplicate]) ?_ ?_
    · intro hb
      try simp only [hB, decide_eq_true_eq, decide_eq_false_iff_not] at hb
      obtain ⟨fu, rfl⟩ : ∃ f, fu = f + 1 := ⟨fu - 1, by omega⟩
      unfold rrun at hrun
      rw [if_pos (by omega)] at hrun
      obtain ⟨l, hle, hln, hRL⟩ := hiv.hl (t.l.getD i 0) (mem_getD (by omega) 0)
      have hgl := ints_getD (l := t.l) (i := i) (by omega)
      rw [hle] at hgl hrun
      rw [Int.toNat_natCast] at hrun
      obtain ⟨row, hrow⟩ := getI (l := nb) (j := l) (by omega)
      have hgn := nbR_get hrow
      have hrd : nb.getD l [] = row := by rw [List.getD_eq_getElem?_getD, hrow]; rfl
      have hrl := h3 row (List.mem_of_getElem? hrow)
      have hrr := h2 row (List.mem_of_getElem? hrow)
      rw [hrd] at hrun
      have hriv := rrow_iv hR hM.hRn hRL row t hiv (fun r hr => ⟨by show r ∈ nb.getD l []; rw [hrd]; exact hr, hrr r hr⟩)
      generalize hU : rrow R row t = U at *
      refine AW.skip ?_
      refine hK12 _ _ _ ?_; clear hK12
      refine AW.seq fun K14 hK14 => ?_
      refine AW.block ?_
      refine AW.seq fun K15 hK15 => ?_
      -- region 11
      refine AW.regionD mixed 0 (fun _ => none) [0, 2, 3, 4, 7, 48, 49, 50] [15, 200, 201] ?_
      simp only [go_sem, reduceIte, reduceCtorEq, Nat.reduceAdd, Nat.reduceMul, Nat.reduceEqDiff, Nat.reduceLT, Nat.reduceLeDiff, Nat.reduceSub, Nat.reducePow, Nat.reduceBEq, Int.reduceToNat, List.reduceReplicate, ints_len, bools_len, hL, hR, hz, hnl, h1, hgl, hgn, Int.toNat_natCast]
      repeat with_reducible refine cj ?_ ?_
      all_goals try first | omega | exact chk (by kernel_rfl)
      refine hK15 _ _ _ ?_; clear hK15
      refine AW.block ?_
      -- loop 3
      refine AW.loopE (fun mm ee ss kk => ∃ (j g4 v4 g2 v2 g3 v3 : Nat) (u : RSt), row.length - j = mm ∧ ee = [(0, .rptr [.rsl 1 (nbR nb), .rsl 1 (ints L), .rsl 1 (ints R)]), (2, .sl ⟨200, g2, none⟩ 0 u.l.length none), (3, .sl ⟨201, g3, none⟩ 0 u.q.length none), (4, .sl ⟨15, g4, none⟩ 0 m none), (7, .int .i64 (i : Nat)), (48, .rsl 1 (ints row)), (49, .int .i64 row.length), (50, .int .i64 (j : Nat))] ∧ ss = [(15, some ⟨g4, v4, 1, bools u.s⟩), (200, some ⟨g2, v2, 1, ints u.l⟩), (201, some ⟨g3, v3, 1, ints u.q⟩)] ∧ (RIv n m nb L R u ∧ j ≤ row.length ∧ rrow R (row.drop j) u = U)) ?_ ?_
      · refine ⟨_, 0, ?_, ?_, ?_, ?_, ?_, ?_, t, rfl, ?henv, ?hstore, ?hst⟩
        case henv =>
          repeat' (first | rfl | refine env_cons ?_ ?_ | refine st_cons ?_ ?_ ?_ ?_ | refine int_eq ?_ | refine bool_eq ?_ | refine rsl_eq ?_ | refine osl_eq ?_ | refine sl_eq ?_ ?_ ?_ | refine ptr_eq ?_ ?_ ?_ | refine agg_eq ?_ | refine es_cons ?_ ?_ | refine row_cons ?_ ?_)
          all_goals (first | (simp; done) | omega | (simp; omega))
        case hstore =>
          repeat' (first | rfl | refine env_cons ?_ ?_ | refine st_cons ?_ ?_ ?_ ?_ | refine int_eq ?_ | refine bool_eq ?_ | refine rsl_eq ?_ | refine osl_eq ?_ | refine sl_eq ?_ ?_ ?_ | refine ptr_eq ?_ ?_ ?_ | refine agg_eq ?_ | refine es_cons ?_ ?_ | refine row_cons ?_ ?_)
          all_goals (first | (simp; done) | omega | (simp; omega))
        case hst =>
          exact ⟨hiv, by omega, hU⟩
      rintro mm ee ss kk ⟨j, g4, v4, g2, v2, g3, v3, u, rfl, rfl, rfl, hI⟩
      generalize hQl3 : thenQ _ _ = Ql3
      obtain ⟨hiu, hjl, hro⟩ := hI
      have hsl2 := hiu.hs
      have hll2 := hiu.hlen
      have hql2 := hiu.hlq
      refine AW.seq fun K16 hK16 => ?_
      -- region 12
      refine AW.regionK 0 (fun _ => none) [0, 2, 3, 4, 7, 48, 49, 50, 51] [15, 200, 201] ?_
      simp only [go_sem, reduceIte, reduceCtorEq, Nat.reduceAdd, Nat.reduceMul, Nat.reduceEqDiff, Nat.reduceLT, Nat.reduceLeDiff, Nat.reduceSub, Nat.reducePow, Nat.reduceBEq, Int.reduceToNat, List.reduceReplicate, ints_len, bools_len, hL, hR, hz, hnl, h1]
      repeat with_reducible refine cj ?_ ?_
      all_goals try first | omega
      refine hK16 _ _ _ ?_; clear hK16
      refine AW.seq fun K17 hK17 => ?_
      -- cond 4
      refine AW.cond rfl (by simp only [go_sem, reduceIte, reduceCtorEq, Nat.reduceAdd, Nat.reduceMul, Nat.reduceEqDiff, Nat.reduceLT, Nat.reduceLeDiff, Nat.reduceSub, Nat.reducePow, Nat.reduceBEq, Int.reduceToNat, List.reduceReplicate]) ?_ ?_
      · intro hb
        try simp only [hB, decide_eq_true_eq, decide_eq_false_iff_not] at hb
        obtain ⟨r, hr⟩ := getI (l := row) (j := j) (by omega)
        have hgr := ints_get hr
        have hrm := hrr r (List.mem_of_getElem? hr)
        have hgs := bools_getD (l := u.s) (i := r.toNat) (by omega)
        have hgR := ints_getD (l := R) (i := r.toNat) (by omega)
        have hus := bools_upd u.s r.toNat true
        have hdr : row.drop j = r :: row.drop (j + 1) := by rw [List.drop_eq_getElem_cons (by omega)]; congr 1; exact (List.getElem?_eq_some_iff.1 hr).2
        rw [hdr] at hro
        unfold rrow at hro
        have hst := (rstep_iv hR hM.hRn hiu hRL (r := r) (by show r ∈ nb.getD l []; rw [hrd]; exact List.mem_of_getElem? hr) hrm).1
        have htq := ints_all u.q
        have hsq := ints_snoc u.q r
        have htl := ints_all u.l
        have hsl3 := ints_snoc u.l (R.getD r.toNat 0)
        refine AW.skip ?_
        refine hK17 _ _ _ ?_; clear hK17
        refine AW.seq fun K18 hK18 => ?_
        refine AW.block ?_
        refine AW.seq fun K19 hK19 => ?_
        -- region 13
        refine AW.regionK 0 (fun _ => none) [0, 2, 3, 4, 7, 9, 48, 49, 50] [15, 200, 201] ?_
        simp only [go_sem, reduceIte, reduceCtorEq, Nat.reduceAdd, Nat.reduceMul, Nat.reduceEqDiff, Nat.reduceLT, Nat.reduceLeDiff, Nat.reduceSub, Nat.reducePow, Nat.reduceBEq, Int.reduceToNat, List.reduceReplicate, ints_len, bools_len, hL, hR, hz, hnl, h1, hgr]
        repeat with_reducible refine cj ?_ ?_
        all_goals try first | omega
        refine hK19 _ _ _ ?_; clear hK19
        refine AW.seq fun K20 hK20 => ?_
        refine AW.seq fun K21 hK21 => ?_
        -- region 14
        refine AW.regionK 0 (fun _ => none) [0, 2, 3, 4, 7, 9, 48, 49, 50, 57] [15, 200, 201] ?_
        simp only [go_sem, reduceIte, reduceCtorEq, Nat.reduceAdd, Nat.reduceMul, Nat.reduceEqDiff, Nat.reduceLT, Nat.reduceLeDiff, Nat.reduceSub, Nat.reducePow, Nat.reduceBEq, Int.reduceToNat, List.reduceReplicate, ints_len, bools_len, hL, hR, hz, hnl, h1, hsl2, hgs]
        repeat with_reducible refine cj ?_ ?_
        all_goals try first | omega
        refine hK21 _ _ _ ?_; clear hK21
        -- cond 5
        refine AW.cond rfl (by simp only [go_sem, reduceIte, reduceCtorEq, Nat.reduceAdd, Nat.reduceMul, Nat.reduceEqDiff, Nat.reduceLT, Nat.reduceLeDiff, Nat.reduceSub, Nat.reducePow, Nat.reduceBEq, Int.reduceToNat, List.reduceReplicate]) ?_ ?_
        · intro hb
          try simp only [hB, decide_eq_true_eq, decide_eq_false_iff_not] at hb
          unfold rstep at hst hro
          rw [if_pos hb] at hst hro
          obtain ⟨w, hw⟩ : ∃ w, w = u := ⟨_, rfl⟩
          refine AW.exit ?_
          refine hK18 _ _ _ ?_; clear hK18
          -- region 19
          refine AW.regionK 0 (fun _ => none) [0, 2, 3, 4, 7, 48, 49, 50] [15, 200, 201] ?_
          simp only [go_sem, reduceIte, reduceCtorEq, Nat.reduceAdd, Nat.reduceMul, Nat.reduceEqDiff, Nat.reduceLT, Nat.reduceLeDiff, Nat.reduceSub, Nat.reducePow, Nat.reduceBEq, Int.reduceToNat, List.reduceReplicate, ints_len, bools_len, hL, hR, hz, hnl, h1]
          repeat with_reducible refine cj ?_ ?_
          all_goals try first | omega
          rw [← hQl3]
          change Exists _
          refine ⟨_, ?hm, j + 1, ?_, ?_, ?_, ?_, ?_, ?_, w, rfl, ?henv, ?hstore, ?hst⟩
          case henv =>
            repeat' (first | rfl | refine env_cons ?_ ?_ | refine st_cons ?_ ?_ ?_ ?_ | refine int_eq ?_ | refine bool_eq ?_ | refine rsl_eq ?_ | refine osl_eq ?_ | refine sl_eq ?_ ?_ ?_ | refine ptr_eq ?_ ?_ ?_ | refine agg_eq ?_ | refine es_cons ?_ ?_ | refine row_cons ?_ ?_)
            all_goals (first | (rw [hw]; done) | (rw [hw]; simp; done) | omega | (simp; done))
          case hstore =>
            repeat' (first | rfl | refine env_cons ?_ ?_ | refine st_cons ?_ ?_ ?_ ?_ | refine int_eq ?_ | refine bool_eq ?_ | refine rsl_eq ?_ | refine osl_eq ?_ | refine sl_eq ?_ ?_ ?_ | refine ptr_eq ?_ ?_ ?_ | refine agg_eq ?_ | refine es_cons ?_ ?_ | refine row_cons ?_ ?_)
            all_goals (rw [hw])
          case hst =>
            rw [← hw] at hst hro
            exact ⟨hst, by omega, hro⟩
          case hm => omega
        · intro hb
          try simp only [hB, decide_eq_true_eq, decide_eq_false_iff_not] at hb
          unfold rstep at hst hro
          rw [if_neg (by rw [hb]; simp)] at hst hro
          refine AW.skip ?_
          refine hK20 _ _ _ ?_; clear hK20
          refine AW.seq fun K22 hK22 => ?_
          -- region 15
          refine AW.regionK 0 (fun _ => none) [0, 2, 3, 4, 7, 9, 48, 49, 50] [15, 200, 201] ?_
          simp only [go_sem, reduceIte, reduceCtorEq, Nat.reduceAdd, Nat.reduceMul, Nat.reduceEqDiff, Nat.reduceLT, Nat.reduceLeDiff, Nat.reduceSub, Nat.reducePow, Nat.reduceBEq, Int.reduceToNat, List.reduceReplicate, ints_len, bools_len, hL, hR, hz, hnl, h1, hsl2, hus]
          repeat with_reducible refine cj ?_ ?_
          all_goals try first | omega
          refine hK22 _ _ _ ?_; clear hK22
          refine AW.seq fun K23 hK23 => ?_
          -- region 16
          refine AW.regionK 0 (fun _ => none) [0, 2, 3, 4, 7, 9, 48, 49, 50] [15, 200, 201] ?_
          simp only [go_sem, reduceIte, reduceCtorEq, Nat.reduceAdd, Nat.reduceMul, Nat.reduceEqDiff, Nat.reduceLT, Nat.reduceLeDiff, Nat.reduceSub, Nat.reducePow, Nat.reduceBEq, Int.reduceToNat, List.reduceReplicate, ints_len, bools_len, hL, hR, hz, hnl, h1, htq, hsq]
          repeat with_reducible refine cj ?_ ?_
          all_goals try first | omega | (simp [scP, scalar]; done) | exact scP_words _ | exact scP_ints _ | exact scP_bools _
          refine hK23 _ _ _ ?_; clear hK23
          refine AW.seq fun K24 hK24 => ?_
          -- region 17
          refine AW.regionK 0 (fun _ => none) [0, 2, 3, 4, 7, 9, 48, 49, 50, 72] [15, 200, 201] ?_
          simp only [go_sem, reduceIte, reduceCtorEq, Nat.reduceAdd, Nat.reduceMul, Nat.reduceEqDiff, Nat.reduceLT, Nat.reduceLeDiff, Nat.reduceSub, Nat.reducePow, Nat.reduceBEq, Int.reduceToNat, List.reduceReplicate, ints_len, bools_len, hL, hR, hz, hnl, h1, hgR]
          repeat with_reducible refine cj ?_ ?_
          all_goals try first | omega
          refine hK24 _ _ _ ?_; clear hK24
          -- cond 6
          refine AW.cond rfl (by simp only [go_sem, reduceIte, reduceCtorEq, Nat.reduceAdd, Nat.reduceMul, Nat.reduceEqDiff, Nat.reduceLT, Nat.reduceLeDiff, Nat.reduceSub, Nat.reducePow, Nat.reduceBEq, Int.reduceToNat, List.reduceReplicate]) ?_ ?_
          · intro hb
            try simp only [hB, decide_eq_true_eq, decide_eq_false_iff_not] at hb
            rw [if_pos hb] at hst hro
            obtain ⟨w, hw⟩ : ∃ w : RSt, w = ⟨u.s.set r.toNat true, u.l ++ [R.getD r.toNat 0], u.q ++ [r]⟩ := ⟨_, rfl⟩
            -- region 18
            refine AW.regionK 0 (fun _ => none) [0, 2, 3, 4, 7, 48, 49, 50] [15, 200, 201] ?_
            simp only [go_sem, reduceIte, reduceCtorEq, Nat.reduceAdd, Nat.reduceMul, Nat.reduceEqDiff, Nat.reduceLT, Nat.reduceLeDiff, Nat.reduceSub, Nat.reducePow, Nat.reduceBEq, Int.reduceToNat, List.reduceReplicate, ints_len, bools_len, hL, hR, hz, hnl, h1, hgR, htl, hsl3]
            repeat with_reducible refine cj ?_ ?_
            all_goals try first | omega | (simp [scP, scalar]; done) | exact scP_words _ | exact scP_ints _ | exact scP_bools _
            refine hK18 _ _ _ ?_; clear hK18
            -- region 19
            refine AW.regionK 0 (fun _ => none) [0, 2, 3, 4, 7, 48, 49, 50] [15, 200, 201] ?_
            simp only [go_sem, reduceIte, reduceCtorEq, Nat.reduceAdd, Nat.reduceMul, Nat.reduceEqDiff, Nat.reduceLT, Nat.reduceLeDiff, Nat.reduceSub, Nat.reducePow, Nat.reduceBEq, Int.reduceToNat, List.reduceReplicate, ints_len, bools_len, hL, hR, hz, hnl, h1]
            repeat with_reducible refine cj ?_ ?_
            all_goals try first | omega
            rw [← hQl3]
            change Exists _
            refine ⟨_, ?hm, j + 1, ?_, ?_, ?_, ?_, ?_, ?_, w, rfl, ?henv, ?hstore, ?hst⟩
            case henv =>
              repeat' (first | rfl | refine env_cons ?_ ?_ | refine st_cons ?_ ?_ ?_ ?_ | refine int_eq ?_ | refine bool_eq ?_ | refine rsl_eq ?_ | refine osl_eq ?_ | refine sl_eq ?_ ?_ ?_ | refine ptr_eq ?_ ?_ ?_ | refine agg_eq ?_ | refine es_cons ?_ ?_ | refine row_cons ?_ ?_)
              all_goals (first | (rw [hw]; done) | (rw [hw]; simp; done) | omega | (simp; done))
            case hstore =>
              repeat' (first | rfl | refine env_cons ?_ ?_ | refine st_cons ?_ ?_ ?_ ?_ | refine int_eq ?_ | refine bool_eq ?_ | refine rsl_eq ?_ | refine osl_eq ?_ | refine sl_eq ?_ ?_ ?_ | refine ptr_eq ?_ ?_ ?_ | refine agg_eq ?_ | refine es_cons ?_ ?_ | refine row_cons ?_ ?_)
              all_goals (rw [hw])
            case hst =>
              rw [← hw] at hst hro
              exact ⟨hst, by omega, hro⟩
            case hm => omega
          · intro hb
            try simp only [hB, decide_eq_true_eq, decide_eq_false_iff_not] at hb
            rw [if_neg (by omega)] at hst hro
            obtain ⟨w, hw⟩ : ∃ w : RSt, w = ⟨u.s.set r.toNat true, u.l, u.q ++ [r]⟩ := ⟨_, rfl⟩
            refine AW.skip ?_
            refine hK18 _ _ _ ?_; clear hK18
            -- region 19
            refine AW.regionK 0 (fun _ => none) [0, 2, 3, 4, 7, 48, 49, 50] [15, 200, 201] ?_
            simp only [go_sem, reduceIte, reduceCtorEq, Nat.reduceAdd, Nat.reduceMul, Nat.reduceEqDiff, Nat.reduceLT, Nat.reduceLeDiff, Nat.reduceSub, Nat.reducePow, Nat.reduceBEq, Int.reduceToNat, List.reduceReplicate, ints_len, bools_len, hL, hR, hz, hnl, h1]
            repeat with_reducible refine cj ?_ ?_
            all_goals try first | omega
            rw [← hQl3]
            change Exists _
            refine ⟨_, ?hm, j + 1, ?_, ?_, ?_, ?_, ?_, ?_, w, rfl, ?henv, ?hstore, ?hst⟩
            case henv =>
              repeat' (first | rfl | refine env_cons ?_ ?_ | refine st_cons ?_ ?_ ?_ ?_ | refine int_eq ?_ | refine bool_eq ?_ | refine rsl_eq ?_ | refine osl_eq ?_ | refine sl_eq ?_ ?_ ?_ | refine ptr_eq ?_ ?_ ?_ | refine agg_eq ?_ | refine es_cons ?_ ?_ | refine row_cons ?_ ?_)
              all_goals (first | (rw [hw]; done) | (rw [hw]; simp; done) | omega | (simp; done))
            case hstore =>
              repeat' (first | rfl | refine env_cons ?_ ?_ | refine st_cons ?_ ?_ ?_ ?_ | refine int_eq ?_ | refine bool_eq ?_ | refine rsl_eq ?_ | refine osl_eq ?_ | refine sl_eq ?_ ?_ ?_ | refine ptr_eq ?_ ?_ ?_ | refine agg_eq ?_ | refine es_cons ?_ ?_ | refine row_cons ?_ ?_)
              all_goals (rw [hw])
            case hst =>
              rw [← hw] at hst hro
              exact ⟨hst, by omega, hro⟩
            case hm => omega
      · intro hb
        try simp only [hB, decide_eq_true_eq, decide_eq_false_iff_not] at hb
        have hj : j = row.length := by omega
        rw [hj, List.drop_length] at hro
        unfold rrow at hro
        subst hro
        refine AW.exit ?_
        rw [← hQl3]
        refine hK14 _ _ _ ?_; clear hK14
        -- region 10
        refine AW.regionK 0 (fun _ => none) [0, 2, 3, 4, 7] [15, 200, 201] ?_
        simp only [go_sem, reduceIte, reduceCtorEq, Nat.reduceAdd, Nat.reduceMul, Nat.reduceEqDiff, Nat.reduceLT, Nat.reduceLeDiff, Nat.reduceSub, Nat.reducePow, Nat.reduceBEq, Int.reduceToNat, List.reduceReplicate, ints_len, bools_len, hL, hR, hz, hnl, h1]
        repeat with_reducible refine cj ?_ ?_
        all_goals try first | omega
        rw [← hQl2]
        change Exists _
        refine ⟨_, ?hm, i + 1, fu, ?_, ?_, ?_, ?_, ?_, ?_, ?_, rfl, ?henv, ?hstore, ?hst⟩
        case henv =>
          repeat' (first | rfl | refine env_cons ?_ ?_ | refine st_cons ?_ ?_ ?_ ?_ | refine int_eq ?_ | refine bool_eq ?_ | refine rsl_eq ?_ | refine osl_eq ?_ | refine sl_eq ?_ ?_ ?_ | refine ptr_eq ?_ ?_ ?_ | refine agg_eq ?_ | refine es_cons ?_ ?_ | refine row_cons ?_ ?_)
          all_goals (first | (simp; done) | omega | (simp; omega))
        case hstore =>
          repeat' (first | rfl | refine env_cons ?_ ?_ | refine st_cons ?_ ?_ ?_ ?_ | refine int_eq ?_ | refine bool_eq ?_ | refine rsl_eq ?_ | refine osl_eq ?_ | refine sl_eq ?_ ?_ ?_ | refine ptr_eq ?_ ?_ ?_ | refine agg_eq ?_ | refine es_cons ?_ ?_ | refine row_cons ?_ ?_)
          all_goals (first | (simp; done) | omega | (simp; omega))
        case hst =>
          exact ⟨hiu, by obtain ⟨z, hz⟩ := hriv.2.1.hl; rw [hz, List.length_append]; omega, by have := hriv.2.1.hu; omega, hrun⟩
        case hm => omega
    · intro hb
      try simp only [hB, decide_eq_true_eq, decide_eq_false_iff_not] at hb
      have hTt : t = T := by
        cases fu with
        | zero => exact hrun
        | succ f => unfold rrun at hrun; rw [if_neg (by omega)] at hrun; exact hrun
      subst hTt
      refine AW.exit ?_
      rw [← hQl2]
      refine hK10 _ _ _ ?_; clear hK10
      refine AW.seq fun K25 hK25 => ?_
      -- region 20
      refine AW.regionK 0 (fun _ => none) [2, 3] [15, 200, 201] ?_
      simp only [go_sem, reduceIte, reduceCtorEq, Nat.reduceAdd, Nat.reduceMul, Nat.reduceEqDiff, Nat.reduceLT, Nat.reduceLeDiff, Nat.reduceSub, Nat.reducePow, Nat.reduceBEq, Int.reduceToNat, List.reduceReplicate, ints_len, bools_len, hL, hR, hz, hnl, h1]
      repeat with_reducible refine cj ?_ ?_
      all_goals try first | omega
      refine hK25 _ _ _ ?_; clear hK25
      refine AW.ret ?_
      rw [← hQr]
      simp only [go_sem, reduceIte, reduceCtorEq, Nat.reduceAdd, Nat.reduceMul, Nat.reduceEqDiff, Nat.reduceLT, Nat.reduceLeDiff, Nat.reduceSub, Nat.reducePow, Nat.reduceBEq, Int.reduceToNat, List.reduceReplicate, ints_len, bools_len, hL, hR, hz, hnl, h1]
      exact Wk.of_eq (by simp only [ints_all])
end Go.Proofs.M

/- Levels of an order; tables filled pair by pair. -/
namespace Go.AM
structure IsLev (n : Nat) (t : List (List Bool)) (o : List Int) : Prop where
  len : o.length = n
  pos : ∀ j, j < n → 0 ≤ o.getD j 0
  up : ∀ i j, i < n → j < n → atT t i j = true → o.getD i 0 + 1 ≤ o.getD j 0
  att : ∀ j, j < n → o.getD j 0 = 0 ∨ ∃ i, i < n ∧ atT t i j = true ∧ o.getD j 0 = o.getD i 0 + 1
theorem lev_le {n : Nat} {t : List (List Bool)} {o o' : List Int} (h : IsLev n t o) (hp : ∀ j, j < n → 0 ≤ o'.getD j 0) (hu : ∀ i j, i < n → j < n → atT t i j = true → o'.getD i 0 + 1 ≤ o'.getD j 0) :
    ∀ (m : Nat) (j : Nat), j < n → o.getD j 0 ≤ m → o.getD j 0 ≤ o'.getD j 0
  | 0, j, hj, hm => by have := hp j hj; omega
  | m + 1, j, hj, hm => by
    rcases h.att j hj with h0 | ⟨i, hi, ha, he⟩
    · have := hp j hj; omega
    · have := lev_le h hp hu m i hi (by omega)
      have := hu i j hi hj ha
      omega
/-! ### The program: along an order. -/
def levJ (i : Nat) (o : List Int) (j : Nat) : List Int := o.set j (max (o.getD j 0) (o.getD i 0 + 1))
def levS (t : List (List Bool)) (o : List Int) (i : Nat) : List Int := (memB (rowT t i)).foldl (levJ i) o
theorem levJ_len (i : Nat) (l : List Nat) : ∀ o : List Int, (l.foldl (levJ i) o).length = o.length := by
  induction l with
  | nil => intro o; rfl
  | cons a l ih => intro o; rw [List.foldl_cons, ih]; simp [levJ]
theorem levJ_get (i : Nat) : ∀ (l : List Nat) (o : List Int), l.Nodup → (∀ j ∈ l, j < o.length ∧ j ≠ i) → ∀ k, (l.foldl (levJ i) o).getD k 0 = if k ∈ l then max (o.getD k 0) (o.getD i 0 + 1) else o.getD k 0
  | [], o, _, _, k => by simp
  | a :: l, o, hn, hl, k => by
    have ha := hl a (List.mem_cons_self ..)
    have hn2 := List.nodup_cons.1 hn
    rw [List.foldl_cons, levJ_get i l _ hn2.2 (fun j hj => by have := hl j (List.mem_cons_of_mem _ hj); simpa [levJ] using this) k]
    have hi : (levJ i o a).getD i 0 = o.getD i 0 := Go.AM.getD_set_ne ha.2 ..
    rw [hi]
    by_cases e : a = k
    · subst e
      rw [if_neg hn2.1, if_pos (List.mem_cons_self ..)]
      exact Go.AM.getD_set_eq ha.1 _ _
    · have : (levJ i o a).getD k 0 = o.getD k 0 := Go.AM.getD_set_ne e ..
      rw [this]
      have e2 : (k ∈ a :: l) = (k ∈ l) := by
        apply propext; rw [List.mem_cons]; exact ⟨fun h => h.resolve_left (fun h => e h.symm), .inr⟩
      simp only [e2]
theorem memB_nodup (b : List Bool) : (memB b).Nodup := List.Pairwise.sublist List.filter_sublist List.nodup_range
theorem levS_len (t : List (List Bool)) (o : List Int) (i : Nat) : (levS t o i).length = o.length := levJ_len i _ o
theorem levS_get {n : Nat} {t : List (List Bool)} (hs : Sq n t) (hp : IsPo n t) {o : List Int} (ho : o.length = n) {i : Nat} (hi : i < n) {k : Nat} (hk : k < n) : (levS t o i).getD k 0 = if atT t i k = true then max (o.getD k 0) (o.getD i 0 + 1) else o.getD k 0 := by
  unfold levS
  rw [levJ_get i _ _ (memB_nodup _) (fun j hj => by
    have := memB_mem.1 hj
    rw [hs.rowLen hi] at this
    refine ⟨by omega, fun e => ?_⟩
    subst e
    have h2 := hp.irr _ hi
    unfold atT at h2
    rw [h2] at this
    exact absurd this.2 (by simp)) k]
  have e : (k ∈ memB (rowT t i)) = (atT t i k = true) := by
    apply propext; rw [memB_mem, hs.rowLen hi]; exact ⟨fun h => h.2, fun h => ⟨hk, h⟩⟩
  simp only [e]
structure LevI (n : Nat) (t : List (List Bool)) (pre : List Nat) (o : List Int) : Prop where
  len : o.length = n
  pos : ∀ j, j < n → 0 ≤ o.getD j 0
  up : ∀ i j, i ∈ pre → j < n → atT t i j = true → o.getD i 0 + 1 ≤ o.getD j 0
  att : ∀ j, j < n → o.getD j 0 = 0 ∨ ∃ i, i ∈ pre ∧ atT t i j = true ∧ o.getD j 0 = o.getD i 0 + 1
  bnd : ∀ j, j < n → o.getD j 0 ≤ pre.length
theorem LevI.nil (n : Nat) (t : List (List Bool)) : LevI n t [] (List.replicate n 0) := by
  have e : ∀ j, (List.replicate n (0 : Int)).getD j 0 = 0 := fun j => by rw [List.getD_eq_getElem?_getD, List.getElem?_replicate]; split <;> rfl
  exact ⟨by simp, fun j _ => by rw [e]; exact Int.le_refl _, (fun i j h => absurd h List.not_mem_nil), fun j _ => Or.inl (e j), fun j _ => by rw [e]; simp⟩
theorem nodup_ix {l : List Nat} (h : l.Nodup) {p q : Nat} (hp : p < l.length) (hq : q < l.length) (e : l[p] = l[q]) : p = q := (List.getElem_inj h).1 e
/-- What stands before: the elements of a list that is closed downwards. -/
theorem LevI.snoc {n : Nat} {t : List (List Bool)} (hs : Sq n t) (hp : IsPo n t) {pre : List Nat} {o : List Int} (h : LevI n t pre o) {i : Nat} (hi : i < n) (hin : i ∉ pre) (hpr : ∀ k ∈ pre, k < n) (hcl : ∀ k, k ∈ pre → atT t i k = false) : LevI n t (pre ++ [i]) (levS t o i) := by
  have hg := fun k hk => levS_get (k := k) hs hp h.len hi hk
  have hgi : (levS t o i).getD i 0 = o.getD i 0 := by rw [hg i hi, hp.irr i hi]; simp
  have hgp : ∀ k, k ∈ pre → (levS t o i).getD k 0 = o.getD k 0 := fun k hk => by rw [hg k (hpr k hk), hcl k hk]; simp
  have hge : ∀ k, k < n → o.getD k 0 ≤ (levS t o i).getD k 0 := fun k hk => by rw [hg k hk]; split <;> omega
  refine ⟨by rw [levS_len, h.len], fun j hj => Int.le_trans (h.pos j hj) (hge j hj), fun k j hk hj ha => ?_, fun j hj => ?_, fun j hj => ?_⟩
  · rcases List.mem_append.1 hk with hk | hk
    · rw [hgp k hk]
      exact Int.le_trans (h.up k j hk hj ha) (hge j hj)
    · obtain rfl := List.mem_singleton.1 hk
      rw [hgi, hg j hj, if_pos ha]
      omega
  · rw [hg j hj]
    have hold : o.getD j 0 = 0 ∨ ∃ k, k ∈ pre ++ [i] ∧ atT t k j = true ∧ o.getD j 0 = (levS t o i).getD k 0 + 1 := by
      rcases h.att j hj with h0 | ⟨k, hk, ha, he⟩
      · exact .inl h0
      · exact .inr ⟨k, List.mem_append_left _ hk, ha, by rw [hgp k hk]; exact he⟩
    split
    · rename_i ha
      by_cases hm : o.getD i 0 + 1 ≤ o.getD j 0
      · rw [Int.max_eq_left hm]; exact hold
      · rw [Int.max_eq_right (by omega)]
        exact .inr ⟨i, List.mem_append_right _ (List.mem_singleton.2 rfl), ha, by rw [hgi]⟩
    · exact hold
  · rw [hg j hj, List.length_append]
    have h1 := h.bnd j hj
    have h2 := h.bnd i hi
    simp only [List.length_singleton, Int.natCast_add, Int.natCast_one]
    split <;> omega
theorem LevI.all {n : Nat} {t : List (List Bool)} (hs : Sq n t) (hp : IsPo n t) {l : List Nat} (ho : OrdI n t l) : ∀ k, k ≤ l.length → LevI n t (l.take k) ((l.take k).foldl (levS t) (List.replicate n 0))
  | 0, _ => by simpa using LevI.nil n t
  | k + 1, hk => by
    have ih := LevI.all hs hp ho k (by omega)
    have e : l.take (k + 1) = l.take k ++ [l[k]] := by rw [List.take_succ_eq_append_getElem (by omega)]
    rw [e, List.foldl_append]
    have hm : l[k] ∈ l := List.getElem_mem ..
    have hin : ∀ x ∈ l, x < n := ho.rng
    refine LevI.snoc hs hp ih (hin _ hm) ?_ (fun x hx => hin x (List.mem_of_mem_take hx)) fun x hx => ?_
    · intro hx
      obtain ⟨q, hq, hqe⟩ := List.mem_iff_getElem.1 hx
      have hql : q < k := by simp at hq; omega
      rw [List.getElem_take] at hqe
      exact absurd (nodup_ix ho.nd (by omega) (by omega) hqe) (by omega)
    · cases ea : atT t l[k] x
      · rfl
      · exfalso
        obtain ⟨q, hq, hqe⟩ := List.mem_iff_getElem.1 hx
        have hql : q < k := by simp at hq; omega
        rw [List.getElem_take] at hqe
        obtain ⟨p, hp1, hp2⟩ := ho.top q x l[k] (by rw [List.getElem?_eq_getElem (by omega), hqe]) (hin _ hm) ea
        rw [List.getElem?_eq_getElem (by omega)] at hp2
        exact absurd (nodup_ix ho.nd (by omega) (by omega) (Option.some.inj hp2)) (by omega)
/-! ### The reference: rounds. -/
def relJ (t : List (List Bool)) (i j : Nat) (o : List Int) : List Int := if atT t i j = true ∧ o.getD j 0 ≤ o.getD i 0 then o.set j (o.getD i 0 + 1) else o
structure RndI (n : Nat) (t : List (List Bool)) (L : List Int) (r : Nat) (vis : Nat → Nat → Prop) (c : Bool) (o : List Int) : Prop where
  len : o.length = n
  pos : ∀ j, j < n → 0 ≤ o.getD j 0
  le : ∀ j, j < n → o.getD j 0 ≤ L.getD j 0
  low : ∀ j, j < n → min (L.getD j 0) r ≤ o.getD j 0
  nxt : ∀ i j, i < n → j < n → vis i j → atT t i j = true → min (L.getD i 0) r + 1 ≤ o.getD j 0
  same : c = false → ∀ i j, i < n → j < n → vis i j → atT t i j = true → o.getD i 0 < o.getD j 0
theorem RndI.start {n : Nat} {t : List (List Bool)} {L : List Int} (hL : IsLev n t L) : RndI n t L 0 (fun _ _ => False) false (List.replicate n 0) := by
  have e : ∀ j, (List.replicate n (0 : Int)).getD j 0 = 0 := fun j => by rw [List.getD_eq_getElem?_getD, List.getElem?_replicate]; split <;> rfl
  refine ⟨by simp, fun j _ => by rw [e]; exact Int.le_refl _, fun j hj => by rw [e]; exact hL.pos j hj, fun j hj => ?_, fun _ _ _ _ h => h.elim, fun _ _ _ _ _ h => h.elim⟩
  rw [e]; have := hL.pos j hj; omega
theorem RndI.step {n : Nat} {t : List (List Bool)} {L : List Int} (hL : IsLev n t L) (hp : IsPo n t) {r : Nat} {vis vis' : Nat → Nat → Prop} {c : Bool} {o : List Int} (h : RndI n t L r vis c o) {i j : Nat} (hi : i < n) (hj : j < n)
    (hv : ∀ a b, vis' a b → vis a b ∨ (a = i ∧ b = j)) :
    RndI n t L r vis' (c || (atT t i j && decide (o.getD j 0 ≤ o.getD i 0))) (relJ t i j o) := by
  unfold relJ
  by_cases hc : atT t i j = true ∧ o.getD j 0 ≤ o.getD i 0
  · have hne : i ≠ j := fun e => by subst e; have := hp.irr _ hi; rw [this] at hc; exact absurd hc.1 (by simp)
    rw [if_pos hc]
    have hg : ∀ k, (o.set j (o.getD i 0 + 1)).getD k 0 = if k = j then o.getD i 0 + 1 else o.getD k 0 := fun k => by
      by_cases e : k = j
      · subst e; rw [if_pos rfl]; exact Go.AM.getD_set_eq (by rw [h.len]; exact hj) _ _
      · rw [if_neg e]; exact Go.AM.getD_set_ne (fun q => e q.symm) ..
    have hge : ∀ k, k < n → o.getD k 0 ≤ (o.set j (o.getD i 0 + 1)).getD k 0 := fun k _ => by rw [hg]; split; (rename_i e; subst e; omega); exact Int.le_refl _
    refine ⟨by simp [h.len], fun k hk => Int.le_trans (h.pos k hk) (hge k hk), fun k hk => ?_, fun k hk => Int.le_trans (h.low k hk) (hge k hk), fun a b ha hb hab hat => ?_, fun hf => ?_⟩
    · rw [hg]
      split
      · rename_i e; subst e
        have := h.le i hi
        have := hL.up i _ hi hj hc.1
        omega
      · exact h.le k hk
    · rcases hv a b hab with h1 | ⟨rfl, rfl⟩
      · exact Int.le_trans (h.nxt a b ha hb h1 hat) (hge b hb)
      · rw [hg, if_pos rfl]
        have := h.low a ha
        omega
    · exfalso; rw [hc.1, decide_eq_true hc.2] at hf; simp at hf
  · rw [if_neg hc]
    refine ⟨h.len, h.pos, h.le, h.low, fun a b ha hb hab hat => ?_, fun hf a b ha hb hab hat => ?_⟩
    · rcases hv a b hab with h1 | ⟨rfl, rfl⟩
      · exact h.nxt a b ha hb h1 hat
      · have := h.low a ha
        have : ¬ o.getD b 0 ≤ o.getD a 0 := fun q => hc ⟨hat, q⟩
        omega
    · rcases hv a b hab with h1 | ⟨rfl, rfl⟩
      · exact h.same (by rw [Bool.or_eq_false_iff] at hf; exact hf.1) a b ha hb h1 hat
      · have : ¬ o.getD b 0 ≤ o.getD a 0 := fun q => hc ⟨hat, q⟩
        omega
theorem RndI.stop {n : Nat} {t : List (List Bool)} {L : List Int} (hL : IsLev n t L) {r : Nat} {vis : Nat → Nat → Prop} {o : List Int} (h : RndI n t L r vis false o) (hv : ∀ i j, i < n → j < n → vis i j) : o = L := by
  refine getD_ext (by rw [h.len, hL.len]) fun k hk => ?_
  rw [h.len] at hk
  have h1 := lev_le hL h.pos (fun i j hi hj ha => by have := h.same rfl i j hi hj (hv i j hi hj) ha; omega) (L.getD k 0).toNat k hk (by have := hL.pos k hk; omega)
  have h2 := h.le k hk
  omega
/-! ### Tables filled pair by pair. -/
end Go.AM

/- Rows made of lists of members. -/
namespace Go.AM
def rowL (n : Nat) (l : List Int) : List Bool := setR n fun i => decide ((i : Int) ∈ l)
theorem rowL_len (n : Nat) (l : List Int) : (rowL n l).length = n := setR_len _ _
theorem rowL_get {n : Nat} {l : List Int} {i : Nat} (h : i < n) : (rowL n l).getD i false = decide ((i : Int) ∈ l) := setR_get h
theorem fold_setBit {n : Nat} : ∀ (l : List Int) (b : List Bool), b.length = n → (∀ x ∈ l, 0 ≤ x ∧ x < n) → l.foldl setBit (setW b n) = setW (l.foldl (fun b x => b.set x.toNat true) b) n
  | [], _, _, _ => rfl
  | x :: l, b, hb, hl => by
    have hx := hl x (List.mem_cons_self ..)
    have h1 := setBit_setW b (i := x.toNat) (by omega)
    rw [hb, Int.toNat_of_nonneg hx.1] at h1
    rw [List.foldl_cons, List.foldl_cons, h1]
    exact fold_setBit l _ (by simp [hb]) fun y hy => hl y (List.mem_cons_of_mem _ hy)
theorem fold_set_get {n : Nat} : ∀ (l : List Int) (b : List Bool), b.length = n → (∀ x ∈ l, 0 ≤ x ∧ x < n) → (l.foldl (fun b x => b.set x.toNat true) b).length = n ∧ ∀ i, i < n → (l.foldl (fun b x => b.set x.toNat true) b).getD i false = (b.getD i false || decide ((i : Int) ∈ l))
  | [], b, hb, _ => ⟨hb, fun i _ => by simp⟩
  | x :: l, b, hb, hl => by
    have hx := hl x (List.mem_cons_self ..)
    obtain ⟨h1, h2⟩ := fold_set_get l (b.set x.toNat true) (by simp [hb]) fun y hy => hl y (List.mem_cons_of_mem _ hy)
    refine ⟨h1, fun i hi => ?_⟩
    rw [List.foldl_cons, h2 i hi, getD_setB]
    by_cases e : x = (i : Int)
    · rw [if_pos ⟨by omega, by omega⟩, decide_eq_true (show (i : Int) ∈ x :: l by rw [e]; exact List.mem_cons_self ..)]; simp
    · rw [if_neg (by omega)]
      congr 1
      refine decide_eq_decide.2 ?_
      rw [List.mem_cons]
      exact ⟨.inr, fun h => h.resolve_left fun h => e h.symm⟩
theorem ofW_row {n : Nat} {l : List Int} (hl : ∀ x ∈ l, 0 ≤ x ∧ x < n) : ofW n l = setW (rowL n l) n := by
  have hz := setW_zero n
  have h1 := fold_setBit l (List.replicate n false) (by simp) hl
  rw [hz] at h1
  have h2 := fold_set_get l (List.replicate n false) (by simp) hl
  unfold ofW
  rw [h1]
  congr 1
  refine getD_extB (by rw [h2.1, rowL_len]) fun i hi => ?_
  rw [h2.1] at hi
  rw [h2.2 i hi, rowL_get hi]
  have e : (List.replicate n false).getD i false = false := by rw [List.getD_eq_getElem?_getD, List.getElem?_replicate]; split <;> rfl
  rw [e, Bool.false_or]
end Go.AM

namespace Go.Proofs.M
open Go.AM Go
set_option maxRecDepth 100000
set_option maxHeartbeats 2000000
theorem contains_r (l : List Int) (x : Int) (hl : l.length ≤ 9223372036854775807) : Reads Try.prog 34 false [.rsl 1 (ints l), .int .i64 x] (.bool (decide (x ∈ l))) := by
  have hi := index_r l x hl
  have hg := ixf_ge (fun y => decide (x = y)) l
  refine Reads.body (rs := [.tmp 4]) Try.func34 rfl Try.ntmps34 rfl (by simp) ?_
  generalize hQr : retQ _ _ _ = Qr
  refine AW.seq fun K1 hK1 => ?_
  -- region 0
  refine AW.regionK 0 (fun _ => none) [0, 1] [] ?_
  simp only [go_sem, reduceIte, reduceCtorEq, Nat.reduceAdd, Nat.reduceMul, Nat.reduceEqDiff, Nat.reduceLT, Nat.reduceLeDiff, Nat.reduceSub, Nat.reducePow, Nat.reduceBEq, Int.reduceToNat, List.reduceReplicate]
  repeat with_reducible refine cj ?_ ?_
  all_goals try first | omega
  refine hK1 _ _ _ ?_; clear hK1
  refine AW.seq fun K2 hK2 => ?_
  -- region 1
  refine AW.regionK 0 (fun ii => if ii = 2 then some (.reads false (.int .i64 (ixf (fun y => decide (x = y)) l))) else none) [4] [] ?_
  simp only [go_sem, reduceIte, reduceCtorEq, Nat.reduceAdd, Nat.reduceMul, Nat.reduceEqDiff, Nat.reduceLT, Nat.reduceLeDiff, Nat.reduceSub, Nat.reducePow, Nat.reduceBEq, Int.reduceToNat, List.reduceReplicate]
  repeat with_reducible refine cj ?_ ?_
  all_goals try first | (exact hi) | omega | exact ent (by kernel_rfl)
  refine hK2 _ _ _ ?_; clear hK2
  refine AW.ret ?_
  rw [← hQr]
  simp only [go_sem, reduceIte, reduceCtorEq, Nat.reduceAdd, Nat.reduceMul, Nat.reduceEqDiff, Nat.reduceLT, Nat.reduceLeDiff, Nat.reduceSub, Nat.reducePow, Nat.reduceBEq, Int.reduceToNat, List.reduceReplicate]
  exact Wk.of_eq (by rw [hg]; congr 1; rw [List.any_eq, decide_eq_decide]; simp)
theorem of_b {n : Nat} (l : List Int) (h1 : n ≤ 512) (hl : l.length ≤ 9223372036854775807) (hr : ∀ i ∈ l, 0 ≤ i ∧ i < (n : Int)) :
    Reads Try.prog 35 true [.int .i64 n, .rsl 1 (ints l)] (.tup [.agg [.int .i64 n, .rsl 1 (words (setW (rowL n l) n))], .int .i64 0]) := by
  have := of_r (n : Int) l (by omega) (by omega) hl hr
  rw [ofW_row hr] at this
  exact this
def restI (l : List Int) (j : Nat) : List Int := ((List.range j).filter fun i => !decide (((i : Nat) : Int) ∈ l)).map fun (i : Nat) => (i : Int)
theorem restI_succ (l : List Int) (j : Nat) : restI l (j + 1) = if decide ((j : Int) ∈ l) = true then restI l j else restI l j ++ [(j : Int)] := by
  unfold restI
  rw [List.range_succ, List.filter_append, List.map_append]
  by_cases h : (j : Int) ∈ l
  · rw [if_pos (by simpa using h)]; simp [h]
  · rw [if_neg (by simpa using h)]; simp [h]
theorem restI_le (l : List Int) (j : Nat) : (restI l j).length ≤ j := by
  unfold restI
  rw [List.length_map]
  have := List.length_filter_le (fun i => !decide (((i : Nat) : Int) ∈ l)) (List.range j)
  simpa using this
theorem restI_mem (l : List Int) (j : Nat) (x : Int) : x ∈ restI l j ↔ ∃ i : Nat, x = i ∧ i < j ∧ (i : Int) ∉ l := by
  simp only [restI, List.mem_map, List.mem_filter, List.mem_range, Bool.not_eq_true', decide_eq_false_iff_not]
  constructor
  · rintro ⟨i, ⟨h1, h2⟩, rfl⟩; exact ⟨i, rfl, h1, h2⟩
  · rintro ⟨i, rfl, h1, h2⟩; exact ⟨i, ⟨h1, h2⟩, rfl⟩
/-- The nodes that Cover and Hall see. -/
def rchM (n m : Nat) (E : List (Int × Int)) : RSt := reachP (nbOf n E) (maxLR (nbOf n E) n m n).1 (maxLR (nbOf n E) n m n).2 n m
def cvL (n m : Nat) (E : List (Int × Int)) : List Bool := rowL n (restI (rchM n m E).l n)
def cvR (n m : Nat) (E : List (Int × Int)) : List Bool := rowL m (rchM n m E).q
structure Gd (n m : Nat) (E : List (Int × Int)) : Prop where
  hn : n ≤ 512
  hm : m ≤ 512
  hl : E.length ≤ 2000
  hE : ∀ e ∈ E, edgeIn n m e = true
  hnd : E.Nodup
theorem gd_of {n m : Int} {E : List (Int × Int)} (hv : validM n m E = true) : ∃ a b : Nat, n = a ∧ m = b ∧ Gd a b E := by
  simp only [validM, sizesM, Bool.and_eq_true, decide_eq_true_eq, List.all_eq_true] at hv
  obtain ⟨⟨⟨⟨⟨q1, q2⟩, q3⟩, q4⟩, q5⟩, q6, q7⟩ := hv
  obtain ⟨a, rfl⟩ : ∃ a : Nat, n = a := ⟨n.toNat, by omega⟩
  obtain ⟨b, rfl⟩ : ∃ b : Nat, m = b := ⟨m.toNat, by omega⟩
  exact ⟨a, b, rfl, rfl, by omega, by omega, q5, q6, q7⟩
theorem Gd.valid {n m : Nat} {E : List (Int × Int)} (h : Gd n m E) : validM n m E = true := by
  have h1 := h.hn
  have h2 := h.hm
  simp only [validM, sizesM, Bool.and_eq_true, decide_eq_true_eq, List.all_eq_true]
  exact ⟨⟨⟨⟨⟨by omega, by omega⟩, by omega⟩, by omega⟩, h.hl⟩, h.hE, h.hnd⟩
theorem Gd.rng {n m : Nat} {E : List (Int × Int)} (h : Gd n m E) : ∀ row ∈ nbOf n E, ∀ r ∈ row, 0 ≤ r ∧ r < (m : Int) := nbOf_rng fun e he => by have := edgeIn_iff.1 (h.hE e he); omega
theorem Gd.row {n m : Nat} {E : List (Int × Int)} (h : Gd n m E) : ∀ row ∈ nbOf n E, row.length ≤ 100000 := fun row hr => by have := nbOf_row n E row hr; have := h.hl; omega
theorem Gd.max {n m : Nat} {E : List (Int × Int)} (h : Gd n m E) : Mch n m (nbOf n E) (maxLR (nbOf n E) n m n).1 (maxLR (nbOf n E) n m n).2 ∧ NoAug (nbOf n E) n (maxLR (nbOf n E) n m n).1 (maxLR (nbOf n E) n m n).2 := maxLR_max (nbOf_len n E) h.rng
theorem Gd.rch {n m : Nat} {E : List (Int × Int)} (h : Gd n m E) : RIv n m (nbOf n E) (maxLR (nbOf n E) n m n).1 (maxLR (nbOf n E) n m n).2 (rchM n m E) := (reachP_spec (nbOf_len n E) h.rng h.max.1).1
theorem Gd.rngL {n m : Nat} {E : List (Int × Int)} (h : Gd n m E) : ∀ x ∈ (rchM n m E).l, 0 ≤ x ∧ x < (n : Int) := fun x hx => by
  obtain ⟨i, rfl, h1, _⟩ := h.rch.hl x hx; omega
theorem Gd.rngQ {n m : Nat} {E : List (Int × Int)} (h : Gd n m E) : ∀ x ∈ (rchM n m E).q, 0 ≤ x ∧ x < (m : Int) := fun x hx => by
  obtain ⟨i, rfl, h1, _⟩ := h.rch.hq x hx; omega
theorem cover_good {n m : Nat} {E : List (Int × Int)} (h : Gd n m E) : Reads Try.prog 12 false [.int .i64 n, .int .i64 m, .rsl 2 (E.map pairV)] (.tup [.agg [.int .i64 n, .rsl 1 (words (setW (cvL n m E) n))], .agg [.int .i64 m, .rsl 1 (words (setW (cvR n m E) m))], .int .i64 0]) := by
  have hn := h.hn
  have hm := h.hm
  have hvr := mvalid_r n m E (by have := h.hl; omega)
  rw [h.valid] at hvr
  have hmx := maximum_u hn hm h.hE h.hl
  have hre := reached_r hn hm (nbOf_len n E) h.rng h.row h.max.1
  have hrl := h.rngL
  have hrq := h.rngQ
  have hlen := h.rch.hlen
  have hlq := h.rch.hlq
  have hLn := h.max.1.hL
  have hRm := h.max.1.hR
  unfold cvL cvR
  rw [show reachP (nbOf n E) (maxLR (nbOf n E) n m n).1 (maxLR (nbOf n E) n m n).2 n m = rchM n m E from rfl] at hre
  generalize rchM n m E = T at *
  generalize maxLR (nbOf n E) n m n = x at *
  obtain ⟨L, R⟩ := x
  unfold graphS at hmx
  simp only at hmx hre hLn hRm ⊢
  generalize nbR (nbOf n E) = X at *
  have htL : (ints L).take n = ints L := List.take_of_length_le (by rw [ints_len]; omega)
  have htR : (ints R).take m = ints R := List.take_of_length_le (by rw [ints_len]; omega)
  have hoq := of_b T.q hm (by omega) hrq
  refine Reads.body (rs := [.cell 6 30, .cell 7 30, .tmp 8]) Try.func12 rfl Try.ntmps12 rfl (by simp) ?_
  generalize hQr : retQ _ _ _ = Qr
  refine AW.seq fun K1 hK1 => ?_
  -- region 0
  refine AW.regionK 0 (fun _ => none) [0, 1, 2, 6, 7] [6, 7] ?_
  simp only [go_sem, reduceIte, reduceCtorEq, Nat.reduceAdd, Nat.reduceMul, Nat.reduceEqDiff, Nat.reduceLT, Nat.reduceLeDiff, Nat.reduceSub, Nat.reducePow, Nat.reduceBEq, Int.reduceToNat, List.reduceReplicate, ints_len]
  repeat with_reducible refine cj ?_ ?_
  all_goals try first | omega
  refine hK1 _ _ _ ?_; clear hK1
  refine AW.seq fun K2 hK2 => ?_
  refine AW.seq fun K3 hK3 => ?_
  -- region 1
  refine AW.regionK 0 (fun ii => if ii = 3 then some (.reads false (.bool true)) else none) [0, 1, 2, 6, 7, 17] [6, 7] ?_
  simp only [go_sem, reduceIte, reduceCtorEq, Nat.reduceAdd, Nat.reduceMul, Nat.reduceEqDiff, Nat.reduceLT, Nat.reduceLeDiff, Nat.reduceSub, Nat.reducePow, Nat.reduceBEq, Int.reduceToNat, List.reduceReplicate, ints_len]
  repeat with_reducible refine cj ?_ ?_
  all_goals try first | (exact hvr) | omega | exact ent (by kernel_rfl)
  refine hK3 _ _ _ ?_; clear hK3
  -- cond 1
  refine AW.cond rfl (by simp only [go_sem, reduceIte, reduceCtorEq, Nat.reduceAdd, Nat.reduceMul, Nat.reduceEqDiff, Nat.reduceLT, Nat.reduceLeDiff, Nat.reduceSub, Nat.reducePow, Nat.reduceBEq, Int.reduceToNat, List.reduceReplicate]) ?_ ?_
  · intro hb
    try simp only [hB, decide_eq_true_eq, decide_eq_false_iff_not] at hb
    exact absurd hb (by simp)
  · intro hb
    try simp only [hB, decide_eq_true_eq, decide_eq_false_iff_not] at hb
    refine AW.skip ?_
    refine hK2 _ _ _ ?_; clear hK2
    refine AW.seq fun K4 hK4 => ?_
    -- region 3
    refine AW.regionK 0 (fun ii => if ii = 3 then some (.upd [] (fun k => [(0, some ⟨k, k, 3, [[.rsl 1 X, .sl ⟨1, k, none⟩ 0 n none, .sl ⟨2, k, none⟩ 0 m none]]⟩), (1, some ⟨k, k, 1, ints L⟩), (2, some ⟨k, k, 1, ints R⟩)]) (fun k => .ptr ⟨0, k, none⟩ 0 0)) else if ii = 4 then some (.upd [24, 1024, 2024] (fun _ => []) (fun _ => .tup [.rsl 1 (ints T.l), .rsl 1 (ints T.q)])) else none) [0, 1, 6, 7, 9, 10] [6, 7] ?_
    simp only [go_sem, reduceIte, reduceCtorEq, Nat.reduceAdd, Nat.reduceMul, Nat.reduceEqDiff, Nat.reduceLT, Nat.reduceLeDiff, Nat.reduceSub, Nat.reducePow, Nat.reduceBEq, Int.reduceToNat, List.reduceReplicate, ints_len]
    repeat with_reducible refine cj ?_ ?_
    all_goals try first | (first | exact hmx | exact hre.upd (by simp only [List.map_cons, List.map_nil, go_sem, reduceIte, Nat.reduceEqDiff, htL, htR, vwc_ints])) | omega | exact ent (by kernel_rfl)
    refine hK4 _ _ _ ?_; clear hK4
    refine AW.seq fun K5 hK5 => ?_
    -- region 4
    refine AW.regionK 0 (fun _ => none) [0, 1, 6, 7, 9, 10, 11] [6, 7] ?_
    simp only [go_sem, reduceIte, reduceCtorEq, Nat.reduceAdd, Nat.reduceMul, Nat.reduceEqDiff, Nat.reduceLT, Nat.reduceLeDiff, Nat.reduceSub, Nat.reducePow, Nat.reduceBEq, Int.reduceToNat, List.reduceReplicate, ints_len]
    repeat with_reducible refine cj ?_ ?_
    all_goals try first | omega
    refine hK5 _ _ _ ?_; clear hK5
    refine AW.seq fun K6 hK6 => ?_
    refine AW.seq fun K7 hK7 => ?_
    -- region 5
    refine AW.regionK 0 (fun _ => none) [0, 1, 6, 7, 9, 10, 11, 28, 29] [6, 7] ?_
    simp only [go_sem, reduceIte, reduceCtorEq, Nat.reduceAdd, Nat.reduceMul, Nat.reduceEqDiff, Nat.reduceLT, Nat.reduceLeDiff, Nat.reduceSub, Nat.reducePow, Nat.reduceBEq, Int.reduceToNat, List.reduceReplicate, ints_len]
    repeat with_reducible refine cj ?_ ?_
    all_goals try first | omega
    refine hK7 _ _ _ ?_; clear hK7
    refine AW.block ?_
    refine AW.nilOwn 11 200 1 (by simp only [go_sem, reduceIte, Nat.reduceEqDiff]) ?_
    refine AW.keep [0, 1, 6, 7, 9, 10, 11, 28, 29] [6, 7, 200] ?_
    simp only [go_sem, reduceIte, Nat.reduceEqDiff]
    -- loop 1
    refine AW.loopE (fun mm ee ss kk => ∃ (j g6 v6 g7 v7 g v : Nat), n - j = mm ∧ ee = [(0, .int .i64 n), (1, .int .i64 m), (6, .ptr ⟨6, g6, none⟩ 0 0), (7, .ptr ⟨7, g7, none⟩ 0 0), (9, .rsl 1 (ints T.l)), (10, .rsl 1 (ints T.q)), (11, .sl ⟨200, g, none⟩ 0 (restI T.l j).length none), (28, .int .i64 n), (29, .int .i64 (j : Nat))] ∧ ss = [(6, some ⟨g6, v6, 2, [[.int .i64 0, .nilsl]]⟩), (7, some ⟨g7, v7, 2, [[.int .i64 0, .nilsl]]⟩), (200, some ⟨g, v, 1, ints (restI T.l j)⟩)] ∧ (j ≤ n)) ?_ ?_
    · refine ⟨_, 0, ?_, ?_, ?_, ?_, ?_, ?_, rfl, ?henv, ?hstore, ?hst⟩
      case henv =>
        repeat' (first | rfl | refine env_cons ?_ ?_ | refine st_cons ?_ ?_ ?_ ?_ | refine int_eq ?_ | refine bool_eq ?_ | refine rsl_eq ?_ | refine osl_eq ?_ | refine sl_eq ?_ ?_ ?_ | refine ptr_eq ?_ ?_ ?_ | refine agg_eq ?_ | refine es_cons ?_ ?_ | refine row_cons ?_ ?_)
        all_goals (first | (simp; done) | omega | (simp; omega))
      case hstore =>
        repeat' (first | rfl | refine env_cons ?_ ?_ | refine st_cons ?_ ?_ ?_ ?_ | refine int_eq ?_ | refine bool_eq ?_ | refine rsl_eq ?_ | refine osl_eq ?_ | refine sl_eq ?_ ?_ ?_ | refine ptr_eq ?_ ?_ ?_ | refine agg_eq ?_ | refine es_cons ?_ ?_ | refine row_cons ?_ ?_)
        all_goals (first | (simp; done) | omega | (simp; omega))
      case hst =>
        first | trivial | omega | (simp; done) | (simp; omega)
    rintro mm ee ss kk ⟨j, g6, v6, g7, v7, g, v, rfl, rfl, rfl, hI⟩
    generalize hQl1 : thenQ _ _ = Ql1
    refine AW.seq fun K8 hK8 => ?_
    -- region 6
    refine AW.regionK 0 (fun _ => none) [0, 1, 6, 7, 9, 10, 11, 28, 29, 30] [6, 7, 200] ?_
    simp only [go_sem, reduceIte, reduceCtorEq, Nat.reduceAdd, Nat.reduceMul, Nat.reduceEqDiff, Nat.reduceLT, Nat.reduceLeDiff, Nat.reduceSub, Nat.reducePow, Nat.reduceBEq, Int.reduceToNat, List.reduceReplicate, ints_len]
    repeat with_reducible refine cj ?_ ?_
    all_goals try first | omega
    refine hK8 _ _ _ ?_; clear hK8
    refine AW.seq fun K9 hK9 => ?_
    -- cond 2
    refine AW.cond rfl (by simp only [go_sem, reduceIte, reduceCtorEq, Nat.reduceAdd, Nat.reduceMul, Nat.reduceEqDiff, Nat.reduceLT, Nat.reduceLeDiff, Nat.reduceSub, Nat.reducePow, Nat.reduceBEq, Int.reduceToNat, List.reduceReplicate]) ?_ ?_
    · intro hb
      try simp only [hB, decide_eq_true_eq, decide_eq_false_iff_not] at hb
      have hco := contains_r T.l (j : Int) (by omega)
      have hsu := restI_succ T.l j
      have hle := restI_le T.l j
      have htk := ints_all (restI T.l j)
      have hsn := ints_snoc (restI T.l j) (j : Int)
      generalize hP : restI T.l j = P at *
      refine AW.skip ?_
      refine hK9 _ _ _ ?_; clear hK9
      refine AW.seq fun K10 hK10 => ?_
      refine AW.block ?_
      refine AW.seq fun K11 hK11 => ?_
      -- region 7
      refine AW.regionK 0 (fun _ => none) [0, 1, 6, 7, 9, 10, 11, 12, 28, 29] [6, 7, 200] ?_
      simp only [go_sem, reduceIte, reduceCtorEq, Nat.reduceAdd, Nat.reduceMul, Nat.reduceEqDiff, Nat.reduceLT, Nat.reduceLeDiff, Nat.reduceSub, Nat.reducePow, Nat.reduceBEq, Int.reduceToNat, List.reduceReplicate, ints_len]
      repeat with_reducible refine cj ?_ ?_
      all_goals try first | omega
      refine hK11 _ _ _ ?_; clear hK11
      refine AW.seq fun K12 hK12 => ?_
      -- region 8
      refine AW.regionK 0 (fun ii => if ii = 2 then some (.reads false (.bool (decide ((j : Int) ∈ T.l)))) else none) [0, 1, 6, 7, 9, 10, 11, 12, 28, 29, 35] [6, 7, 200] ?_
      simp only [go_sem, reduceIte, reduceCtorEq, Nat.reduceAdd, Nat.reduceMul, Nat.reduceEqDiff, Nat.reduceLT, Nat.reduceLeDiff, Nat.reduceSub, Nat.reducePow, Nat.reduceBEq, Int.reduceToNat, List.reduceReplicate, ints_len]
      repeat with_reducible refine cj ?_ ?_
      all_goals try first | (exact hco) | omega | exact ent (by kernel_rfl)
      refine hK12 _ _ _ ?_; clear hK12
      -- cond 3
      refine AW.cond rfl (by simp only [go_sem, reduceIte, reduceCtorEq, Nat.reduceAdd, Nat.reduceMul, Nat.reduceEqDiff, Nat.reduceLT, Nat.reduceLeDiff, Nat.reduceSub, Nat.reducePow, Nat.reduceBEq, Int.reduceToNat, List.reduceReplicate]) ?_ ?_
      · intro hb
        try simp only [hB, decide_eq_true_eq, decide_eq_false_iff_not] at hb
        rw [if_neg (by simpa using hb)] at hsu
        -- region 9
        refine AW.regionK 0 (fun _ => none) [0, 1, 6, 7, 9, 10, 11, 28, 29] [6, 7, 200] ?_
        simp only [go_sem, reduceIte, reduceCtorEq, Nat.reduceAdd, Nat.reduceMul, Nat.reduceEqDiff, Nat.reduceLT, Nat.reduceLeDiff, Nat.reduceSub, Nat.reducePow, Nat.reduceBEq, Int.reduceToNat, List.reduceReplicate, ints_len, htk, hsn]
        repeat with_reducible refine cj ?_ ?_
        all_goals try first | omega | (simp [scP, scalar]; done) | exact scP_words _ | exact scP_ints _ | exact scP_bools _
        refine hK10 _ _ _ ?_; clear hK10
        -- region 10
        refine AW.regionK 0 (fun _ => none) [0, 1, 6, 7, 9, 10, 11, 28, 29] [6, 7, 200] ?_
        simp only [go_sem, reduceIte, reduceCtorEq, Nat.reduceAdd, Nat.reduceMul, Nat.reduceEqDiff, Nat.reduceLT, Nat.reduceLeDiff, Nat.reduceSub, Nat.reducePow, Nat.reduceBEq, Int.reduceToNat, List.reduceReplicate, ints_len]
        repeat with_reducible refine cj ?_ ?_
        all_goals try first | omega
        rw [← hQl1]
        change Exists _
        refine ⟨_, ?hm, j + 1, ?_, ?_, ?_, ?_, ?_, ?_, rfl, ?henv, ?hstore, ?hst⟩
        case henv =>
          repeat' (first | rfl | refine env_cons ?_ ?_ | refine st_cons ?_ ?_ ?_ ?_ | refine int_eq ?_ | refine bool_eq ?_ | refine rsl_eq ?_ | refine osl_eq ?_ | refine sl_eq ?_ ?_ ?_ | refine ptr_eq ?_ ?_ ?_ | refine agg_eq ?_ | refine es_cons ?_ ?_ | refine row_cons ?_ ?_)
          all_goals (rw [hsu]; try simp)
        case hstore =>
          repeat' (first | rfl | refine env_cons ?_ ?_ | refine st_cons ?_ ?_ ?_ ?_ | refine int_eq ?_ | refine bool_eq ?_ | refine rsl_eq ?_ | refine osl_eq ?_ | refine sl_eq ?_ ?_ ?_ | refine ptr_eq ?_ ?_ ?_ | refine agg_eq ?_ | refine es_cons ?_ ?_ | refine row_cons ?_ ?_)
          all_goals (rw [hsu])
        case hst =>
          first | trivial | omega | (simp; done) | (simp; omega)
        case hm => omega
      · intro hb
        try simp only [hB, decide_eq_true_eq, decide_eq_false_iff_not] at hb
        rw [if_pos (by simpa using hb)] at hsu
        refine AW.skip ?_
        refine hK10 _ _ _ ?_; clear hK10
        -- region 10
        refine AW.regionK 0 (fun _ => none) [0, 1, 6, 7, 9, 10, 11, 28, 29] [6, 7, 200] ?_
        simp only [go_sem, reduceIte, reduceCtorEq, Nat.reduceAdd, Nat.reduceMul, Nat.reduceEqDiff, Nat.reduceLT, Nat.reduceLeDiff, Nat.reduceSub, Nat.reducePow, Nat.reduceBEq, Int.reduceToNat, List.reduceReplicate, ints_len]
        repeat with_reducible refine cj ?_ ?_
        all_goals try first | omega
        rw [← hQl1]
        change Exists _
        refine ⟨_, ?hm, j + 1, ?_, ?_, ?_, ?_, ?_, ?_, rfl, ?henv, ?hstore, ?hst⟩
        case henv =>
          repeat' (first | rfl | refine env_cons ?_ ?_ | refine st_cons ?_ ?_ ?_ ?_ | refine int_eq ?_ | refine bool_eq ?_ | refine rsl_eq ?_ | refine osl_eq ?_ | refine sl_eq ?_ ?_ ?_ | refine ptr_eq ?_ ?_ ?_ | refine agg_eq ?_ | refine es_cons ?_ ?_ | refine row_cons ?_ ?_)
          all_goals (rw [hsu]; try simp)
        case hstore =>
          repeat' (first | rfl | refine env_cons ?_ ?_ | refine st_cons ?_ ?_ ?_ ?_ | refine int_eq ?_ | refine bool_eq ?_ | refine rsl_eq ?_ | refine osl_eq ?_ | refine sl_eq ?_ ?_ ?_ | refine ptr_eq ?_ ?_ ?_ | refine agg_eq ?_ | refine es_cons ?_ ?_ | refine row_cons ?_ ?_)
          all_goals (rw [hsu])
        case hst =>
          first | trivial | omega | (simp; done) | (simp; omega)
        case hm => omega
    · intro hb
      try simp only [hB, decide_eq_true_eq, decide_eq_false_iff_not] at hb
      have hj : n = j := by omega
      subst hj
      have htk := ints_all (restI T.l n)
      have hof := of_b (n := n) (restI T.l n) hn (by have := restI_le T.l n; omega) (fun i hi => by obtain ⟨k, rfl, hk, _⟩ := (restI_mem T.l n i).1 hi; omega)
      refine AW.exit ?_
      rw [← hQl1]
      refine hK6 _ _ _ ?_; clear hK6
      refine AW.seq fun K13 hK13 => ?_
      refine AW.seq fun K14 hK14 => ?_
      -- region 11
      refine AW.regionK 0 (fun ii => if ii = 2 then some (.upd [200] (fun _ => []) (fun _ => .tup [.agg [.int .i64 n, .rsl 1 (words (setW (rowL n (restI T.l n)) n))], .int .i64 0])) else none) [1, 6, 7, 8, 10] [6, 7] ?_
      simp only [go_sem, reduceIte, reduceCtorEq, Nat.reduceAdd, Nat.reduceMul, Nat.reduceEqDiff, Nat.reduceLT, Nat.reduceLeDiff, Nat.reduceSub, Nat.reducePow, Nat.reduceBEq, Int.reduceToNat, List.reduceReplicate, ints_len, htk]
      repeat with_reducible refine cj ?_ ?_
      all_goals try first | (exact hof.upd (by simp only [List.map_cons, List.map_nil, go_sem, reduceIte, Nat.reduceEqDiff, htk, vwc_ints])) | omega | exact ent (by kernel_rfl)
      refine hK14 _ _ _ ?_; clear hK14
      refine AW.seq fun K15 hK15 => ?_
      -- region 12
      refine AW.regionK 0 (fun _ => none) [1, 6, 7, 8, 10, 48] [6, 7] ?_
      simp only [go_sem, reduceIte, reduceCtorEq, Nat.reduceAdd, Nat.reduceMul, Nat.reduceEqDiff, Nat.reduceLT, Nat.reduceLeDiff, Nat.reduceSub, Nat.reducePow, Nat.reduceBEq, Int.reduceToNat, List.reduceReplicate, ints_len]
      repeat with_reducible refine cj ?_ ?_
      all_goals try first | omega
      refine hK15 _ _ _ ?_; clear hK15
      -- cond 4
      refine AW.cond rfl (by simp only [go_sem, reduceIte, reduceCtorEq, Nat.reduceAdd, Nat.reduceMul, Nat.reduceEqDiff, Nat.reduceLT, Nat.reduceLeDiff, Nat.reduceSub, Nat.reducePow, Nat.reduceBEq, Int.reduceToNat, List.reduceReplicate]) ?_ ?_
      · intro hb
        try simp only [hB, decide_eq_true_eq, decide_eq_false_iff_not] at hb
        exfalso; simp at hb
      · intro hb
        try simp only [hB, decide_eq_true_eq, decide_eq_false_iff_not] at hb
        refine AW.skip ?_
        refine hK13 _ _ _ ?_; clear hK13
        refine AW.seq fun K16 hK16 => ?_
        refine AW.seq fun K17 hK17 => ?_
        -- region 14
        refine AW.regionK 0 (fun ii => if ii = 2 then some (.reads true (.tup [.agg [.int .i64 m, .rsl 1 (words (setW (rowL m T.q) m))], .int .i64 0])) else none) [6, 7, 8] [6, 7] ?_
        simp only [go_sem, reduceIte, reduceCtorEq, Nat.reduceAdd, Nat.reduceMul, Nat.reduceEqDiff, Nat.reduceLT, Nat.reduceLeDiff, Nat.reduceSub, Nat.reducePow, Nat.reduceBEq, Int.reduceToNat, List.reduceReplicate, ints_len]
        repeat with_reducible refine cj ?_ ?_
        all_goals try first | (exact hoq) | omega | exact ent (by kernel_rfl)
        refine hK17 _ _ _ ?_; clear hK17
        refine AW.seq fun K18 hK18 => ?_
        -- region 15
        refine AW.regionK 0 (fun _ => none) [6, 7, 8, 59] [6, 7] ?_
        simp only [go_sem, reduceIte, reduceCtorEq, Nat.reduceAdd, Nat.reduceMul, Nat.reduceEqDiff, Nat.reduceLT, Nat.reduceLeDiff, Nat.reduceSub, Nat.reducePow, Nat.reduceBEq, Int.reduceToNat, List.reduceReplicate, ints_len]
        repeat with_reducible refine cj ?_ ?_
        all_goals try first | omega
        refine hK18 _ _ _ ?_; clear hK18
        -- cond 5
        refine AW.cond rfl (by simp only [go_sem, reduceIte, reduceCtorEq, Nat.reduceAdd, Nat.reduceMul, Nat.reduceEqDiff, Nat.reduceLT, Nat.reduceLeDiff, Nat.reduceSub, Nat.reducePow, Nat.reduceBEq, Int.reduceToNat, List.reduceReplicate]) ?_ ?_
        · intro hb
          try simp only [hB, decide_eq_true_eq, decide_eq_false_iff_not] at hb
          exfalso; simp at hb
        · intro hb
          try simp only [hB, decide_eq_true_eq, decide_eq_false_iff_not] at hb
          refine AW.skip ?_
          refine hK16 _ _ _ ?_; clear hK16
          refine AW.seq fun K19 hK19 => ?_
          -- region 17
          refine AW.regionD mixed 0 (fun _ => none) [6, 7, 8] [6, 7] ?_
          simp only [go_sem, reduceIte, reduceCtorEq, Nat.reduceAdd, Nat.reduceMul, Nat.reduceEqDiff, Nat.reduceLT, Nat.reduceLeDiff, Nat.reduceSub, Nat.reducePow, Nat.reduceBEq, Int.reduceToNat, List.reduceReplicate, ints_len]
          repeat with_reducible refine cj ?_ ?_
          all_goals try first | omega | exact chk (by kernel_rfl)
          refine hK19 _ _ _ ?_; clear hK19
          refine AW.ret ?_
          rw [← hQr]
          simp only [go_sem, reduceIte, reduceCtorEq, Nat.reduceAdd, Nat.reduceMul, Nat.reduceEqDiff, Nat.reduceLT, Nat.reduceLeDiff, Nat.reduceSub, Nat.reducePow, Nat.reduceBEq, Int.reduceToNat, List.reduceReplicate, ints_len]
          exact Wk.refl _
end Go.Proofs.M

/- A set is valid exactly if no bit behind its numbers is set. -/
namespace Go.AM
theorem validS_bits {N : Int} {W : List Int} (hW : okW W) (h0 : 0 ≤ N) (h1 : N ≤ 512) (hl : (W.length : Int) = wordsN N) (hb : ∀ i : Nat, N ≤ i → i < 64 * W.length → hasW W i = false) : validS N W = true := by
  have e : W = setW (setR N.toNat fun i => hasW W (i : Int)) (setR N.toNat fun i => hasW W (i : Int)).length := by
    have hn : ((setR N.toNat fun i => hasW W (i : Int)).length : Int) = N := by rw [setR_len]; omega
    have hlen : (setW (setR N.toNat fun i => hasW W (i : Int)) (setR N.toNat fun i => hasW W (i : Int)).length).length = W.length := by rw [setW_len', hn]; omega
    refine words_ext hW (setW_ok _) hlen.symm fun i hi => ?_
    rw [hasW_setW _ (by rw [hlen]; omega)]
    by_cases h : (i : Int) < N
    · rw [setR_get (by omega)]
    · rw [hb i (by omega) hi, Go.AM.getD_out (by rw [setR_len]; omega)]
  have hv := validS_setW (b := setR N.toNat fun i => hasW W (i : Int)) (by rw [setR_len]; omega)
  rw [← e] at hv
  rw [show N = ((setR N.toNat fun i => hasW W (i : Int)).length : Int) by rw [setR_len]; omega]
  exact hv
theorem validS_bit {N : Int} {W : List Int} (hW : okW W) (hv : validS N W = true) {i : Nat} (hi : N ≤ i) (hlt : i < 64 * W.length) : hasW W i = false := by
  obtain ⟨b, h1, h2⟩ := setW_of hW hv
  rw [h2, hasW_setW b (by rw [← h2]; omega)]
  rw [Go.AM.getD_out (by omega)]
end Go.AM

namespace Go.Proofs.M
open Go.AM Go
set_option maxRecDepth 100000
set_option maxHeartbeats 2000000
theorem wrap64 {i : Int} (h0 : 0 ≤ i) : IntKind.u64.wrap (i.tmod 64) = i.tmod 64 := by
  have : 0 ≤ i.tmod 64 ∧ i.tmod 64 < 64 := by rw [Int.tmod_eq_emod_of_nonneg h0]; omega
  simp [IntKind.wrap, IntKind.signed, IntKind.bits]; omega
theorem rhas_in (b : List Bool) (hb : b.length ≤ 512) (i : Int) (h0 : 0 ≤ i) (h1 : i < b.length) : Reads Try.prog 23 false [.agg (rowB b), .int .i64 i] (.bool (b.getD i.toNat false)) := by
  have hd := div64_rng (i := i) (n := b.length) h0 (by omega)
  have hwl := setW_len' b
  have hgw := words_getD (l := setW b b.length) (i := (i.tdiv 64).toNat) (by omega)
  have hwr := wrap64 h0
  have hm := setW_mem h0 h1
  have hbl := setB_len hb
  unfold rowB hasW at *
  generalize setW b b.length = W at *
  refine Reads.body (rs := [.tmp 4]) Try.func23 rfl Try.ntmps23 rfl (by simp) ?_
  generalize hQr : retQ _ _ _ = Qr
  refine AW.seq fun K1 hK1 => ?_
  -- region 0
  refine AW.regionK 0 (fun _ => none) [1, 2] [2] ?_
  simp only [go_sem, reduceIte, reduceCtorEq, Nat.reduceAdd, Nat.reduceMul, Nat.reduceEqDiff, Nat.reduceLT, Nat.reduceLeDiff, Nat.reduceSub, Nat.reducePow, Nat.reduceBEq, Int.reduceToNat, List.reduceReplicate]
  repeat with_reducible refine cj ?_ ?_
  all_goals try first | omega
  refine hK1 _ _ _ ?_; clear hK1
  refine AW.seq fun K2 hK2 => ?_
  -- region 1
  refine AW.regionK 0 (fun _ => none) [4] [] ?_
  simp only [go_sem, reduceIte, reduceCtorEq, Nat.reduceAdd, Nat.reduceMul, Nat.reduceEqDiff, Nat.reduceLT, Nat.reduceLeDiff, Nat.reduceSub, Nat.reducePow, Nat.reduceBEq, Int.reduceToNat, List.reduceReplicate, hgw]
  repeat with_reducible refine cj ?_ ?_
  all_goals try first | omega | (intros; (repeat' apply And.intro) <;> first | assumption | omega | decide) | (intro hgd; exact absurd hgd (by decide)) | rfl | (simp only [go_sem, reduceIte, reduceCtorEq, Nat.reduceAdd, Nat.reduceMul, Nat.reduceEqDiff, Nat.reduceLT, Nat.reduceLeDiff, Nat.reduceSub, Nat.reducePow, Nat.reduceBEq, Int.reduceToNat, List.reduceReplicate, hgw]; done) | (intro _hgd; simp_all [go_sem]; done)
  refine hK2 _ _ _ ?_; clear hK2
  refine AW.ret ?_
  rw [← hQr]
  simp only [go_sem, reduceIte, reduceCtorEq, Nat.reduceAdd, Nat.reduceMul, Nat.reduceEqDiff, Nat.reduceLT, Nat.reduceLeDiff, Nat.reduceSub, Nat.reducePow, Nat.reduceBEq, Int.reduceToNat, List.reduceReplicate]
  exact Wk.of_eq (by rw [hm, decide_eq_true h0, decide_eq_true h1]; rfl)
theorem isset_r (N n : Int) (W : List Int) (hW : okW W) (hl : W.length ≤ 1000000) : Reads Try.prog 21 false [.agg [.int .i64 N, .rsl 1 (words W)], .int .i64 n] (.bool (decide (N = n) && validS n W)) := by
  have hwe := wordsN_ref n
  have hnv : ¬ (0 ≤ n ∧ n ≤ 512 ∧ (W.length : Int) = wordsN n) → validS n W = false := fun h => by
    cases e : validS n W
    · rfl
    · exact absurd (validS_sz e) h
  refine Reads.body (rs := [.tmp 4]) Try.func21 rfl Try.ntmps21 rfl (by simp) ?_
  generalize hQr : retQ _ _ _ = Qr
  refine AW.seq fun K1 hK1 => ?_
  -- region 0
  refine AW.regionK 0 (fun _ => none) [1, 2] [2] ?_
  simp only [go_sem, reduceIte, reduceCtorEq, Nat.reduceAdd, Nat.reduceMul, Nat.reduceEqDiff, Nat.reduceLT, Nat.reduceLeDiff, Nat.reduceSub, Nat.reducePow, Nat.reduceBEq, Int.reduceToNat, List.reduceReplicate, hwe]
  repeat with_reducible refine cj ?_ ?_
  all_goals try first | omega
  refine hK1 _ _ _ ?_; clear hK1
  refine AW.seq fun K2 hK2 => ?_
  refine AW.seq fun K3 hK3 => ?_
  -- region 1
  refine AW.regionK 0 (fun _ => none) [1, 2, 26] [2] ?_
  simp only [go_sem, reduceIte, reduceCtorEq, Nat.reduceAdd, Nat.reduceMul, Nat.reduceEqDiff, Nat.reduceLT, Nat.reduceLeDiff, Nat.reduceSub, Nat.reducePow, Nat.reduceBEq, Int.reduceToNat, List.reduceReplicate, hwe]
  repeat with_reducible refine cj ?_ ?_
  all_goals try first | ((intro hh; have hc := hh; simp only [Bool.or_eq_false_iff, decide_eq_false_iff_not] at hc; have hwn2 := wordsN_rng (n := n) (by omega); (repeat' apply And.intro) <;> first | exact hh | omega | decide)) | (intros; (repeat' apply And.intro) <;> first | assumption | ((intro hh; have hc := hh; simp only [Bool.or_eq_false_iff, decide_eq_false_iff_not] at hc; have hwn2 := wordsN_rng (n := n) (by omega); (repeat' apply And.intro) <;> first | exact hh | omega | decide))) | omega | (intro hgd; exact absurd hgd (by decide)) | rfl | (simp only [go_sem, reduceIte, reduceCtorEq, Nat.reduceAdd, Nat.reduceMul, Nat.reduceEqDiff, Nat.reduceLT, Nat.reduceLeDiff, Nat.reduceSub, Nat.reducePow, Nat.reduceBEq, Int.reduceToNat, List.reduceReplicate, hwe]; done) | (intro _hgd; simp_all [go_sem]; done)
  refine hK3 _ _ _ ?_; clear hK3
  -- cond 1
  refine AW.cond rfl (by simp only [go_sem, reduceIte, reduceCtorEq, Nat.reduceAdd, Nat.reduceMul, Nat.reduceEqDiff, Nat.reduceLT, Nat.reduceLeDiff, Nat.reduceSub, Nat.reducePow, Nat.reduceBEq, Int.reduceToNat, List.reduceReplicate]) ?_ ?_
  · intro hb
    try simp only [hB, decide_eq_true_eq, decide_eq_false_iff_not] at hb
    refine AW.seq fun K4 hK4 => ?_
    -- region 2
    refine AW.regionK 0 (fun _ => none) [4] [] ?_
    simp only [go_sem, reduceIte, reduceCtorEq, Nat.reduceAdd, Nat.reduceMul, Nat.reduceEqDiff, Nat.reduceLT, Nat.reduceLeDiff, Nat.reduceSub, Nat.reducePow, Nat.reduceBEq, Int.reduceToNat, List.reduceReplicate, hwe]
    repeat with_reducible refine cj ?_ ?_
    all_goals try first | omega
    refine hK4 _ _ _ ?_; clear hK4
    refine AW.ret ?_
    rw [← hQr]
    simp only [go_sem, reduceIte, reduceCtorEq, Nat.reduceAdd, Nat.reduceMul, Nat.reduceEqDiff, Nat.reduceLT, Nat.reduceLeDiff, Nat.reduceSub, Nat.reducePow, Nat.reduceBEq, Int.reduceToNat, List.reduceReplicate, hwe]
    exact Wk.of_eq (by by_cases hNn : N = n; rw [hnv (by rintro ⟨a, b, c⟩; rcases hb with ((hb | hb) | hb) | hb; exact hb hNn; omega; omega; exact hb c)]; simp; simp [hNn])
  · intro hb
    try simp only [hB, decide_eq_true_eq, decide_eq_false_iff_not] at hb
    have hsz : N = n ∧ 0 ≤ n ∧ n ≤ 512 ∧ (W.length : Int) = wordsN n := by refine ⟨?_, ?_, ?_, ?_⟩ <;> (obtain ⟨⟨⟨a, b⟩, c⟩, d⟩ := hb; omega)
    have hwn := wordsN_rng hsz.2.1
    have hNn := hsz.1
    refine AW.skip ?_
    refine hK2 _ _ _ ?_; clear hK2
    refine AW.seq fun K5 hK5 => ?_
    refine AW.seq fun K6 hK6 => ?_
    -- region 3
    refine AW.regionK 0 (fun _ => none) [2, 5] [2] ?_
    simp only [go_sem, reduceIte, reduceCtorEq, Nat.reduceAdd, Nat.reduceMul, Nat.reduceEqDiff, Nat.reduceLT, Nat.reduceLeDiff, Nat.reduceSub, Nat.reducePow, Nat.reduceBEq, Int.reduceToNat, List.reduceReplicate, hwe]
    repeat with_reducible refine cj ?_ ?_
    all_goals try first | omega
    refine hK6 _ _ _ ?_; clear hK6
    refine AW.block ?_
    -- loop 1
    refine AW.loopE (fun mm ee ss kk => ∃ (i : Nat) (g1 v1 : Nat), 64 * W.length - i = mm ∧ ee = [(2, .ptr ⟨2, g1, none⟩ 0 0), (5, .int .i64 (i : Nat))] ∧ ss = [(2, some ⟨g1, v1, 2, [[.int .i64 N, .rsl 1 (words W)]]⟩)] ∧ (n ≤ i ∧ i ≤ 100000000 ∧ ∀ q : Nat, n ≤ q → q < i → q < 64 * W.length → hasW W q = false)) ?_ ?_
    · refine ⟨_, n.toNat, ?_, ?_, rfl, ?henv, ?hstore, ?hst⟩
      case henv =>
        repeat' (first | rfl | refine env_cons ?_ ?_ | refine st_cons ?_ ?_ ?_ ?_ | refine int_eq ?_ | refine bool_eq ?_ | refine rsl_eq ?_ | refine osl_eq ?_ | refine sl_eq ?_ ?_ ?_ | refine ptr_eq ?_ ?_ ?_ | refine agg_eq ?_ | refine es_cons ?_ ?_ | refine row_cons ?_ ?_)
        all_goals (first | (simp; done) | omega | (simp; omega))
      case hstore =>
        repeat' (first | rfl | refine env_cons ?_ ?_ | refine st_cons ?_ ?_ ?_ ?_ | refine int_eq ?_ | refine bool_eq ?_ | refine rsl_eq ?_ | refine osl_eq ?_ | refine sl_eq ?_ ?_ ?_ | refine ptr_eq ?_ ?_ ?_ | refine agg_eq ?_ | refine es_cons ?_ ?_ | refine row_cons ?_ ?_)
        all_goals (first | (simp; done) | omega | (simp; omega))
      case hst =>
        exact ⟨by omega, by omega, fun q h1 h2 => by omega⟩
    rintro mm ee ss kk ⟨i, g1, v1, rfl, rfl, rfl, hI⟩
    generalize hQl1 : thenQ _ _ = Ql1
    obtain ⟨hNi, hi6, hall⟩ := hI
    refine AW.seq fun K7 hK7 => ?_
    refine AW.seq fun K8 hK8 => ?_
    -- region 4
    refine AW.regionK 0 (fun _ => none) [2, 5, 33] [2] ?_
    simp only [go_sem, reduceIte, reduceCtorEq, Nat.reduceAdd, Nat.reduceMul, Nat.reduceEqDiff, Nat.reduceLT, Nat.reduceLeDiff, Nat.reduceSub, Nat.reducePow, Nat.reduceBEq, Int.reduceToNat, List.reduceReplicate, hwe]
    repeat with_reducible refine cj ?_ ?_
    all_goals try first | omega
    refine hK8 _ _ _ ?_; clear hK8
    -- cond 2
    refine AW.cond rfl (by simp only [go_sem, reduceIte, reduceCtorEq, Nat.reduceAdd, Nat.reduceMul, Nat.reduceEqDiff, Nat.reduceLT, Nat.reduceLeDiff, Nat.reduceSub, Nat.reducePow, Nat.reduceBEq, Int.reduceToNat, List.reduceReplicate]) ?_ ?_
    · intro hb
      try simp only [hB, decide_eq_true_eq, decide_eq_false_iff_not] at hb
      have hgw := words_getD (l := W) (i := (((i : Nat) : Int).tdiv 64).toNat) (by rw [Int.tdiv_eq_ediv_of_nonneg (by omega)]; omega)
      have hd := div64_rng (i := (i : Int)) (n := (i : Int) + 1) (by omega) (by omega)
      have hdl : (i : Int).tdiv 64 < W.length := by rw [Int.tdiv_eq_ediv_of_nonneg (by omega)]; omega
      have hdh : hasW W (i : Nat) = decide ((bShr .u64 (W.getD ((i : Int).tdiv 64).toNat 0) ((i : Int).tmod 64)).tmod 2 = 1) := rfl
      refine AW.skip ?_
      refine hK7 _ _ _ ?_; clear hK7
      refine AW.seq fun K9 hK9 => ?_
      refine AW.block ?_
      refine AW.seq fun K10 hK10 => ?_
      -- region 6
      refine AW.regionK 0 (fun _ => none) [2, 5, 46] [2] ?_
      simp only [go_sem, reduceIte, reduceCtorEq, Nat.reduceAdd, Nat.reduceMul, Nat.reduceEqDiff, Nat.reduceLT, Nat.reduceLeDiff, Nat.reduceSub, Nat.reducePow, Nat.reduceBEq, Int.reduceToNat, List.reduceReplicate, hwe, hgw, ← hdh]
      repeat with_reducible refine cj ?_ ?_
      all_goals try first | omega
      refine hK10 _ _ _ ?_; clear hK10
      -- cond 3
      refine AW.cond rfl (by simp only [go_sem, reduceIte, reduceCtorEq, Nat.reduceAdd, Nat.reduceMul, Nat.reduceEqDiff, Nat.reduceLT, Nat.reduceLeDiff, Nat.reduceSub, Nat.reducePow, Nat.reduceBEq, Int.reduceToNat, List.reduceReplicate]) ?_ ?_
      · intro hb
        try simp only [hB, decide_eq_true_eq, decide_eq_false_iff_not] at hb
        refine AW.seq fun K11 hK11 => ?_
        -- region 7
        refine AW.regionK 0 (fun _ => none) [4] [] ?_
        simp only [go_sem, reduceIte, reduceCtorEq, Nat.reduceAdd, Nat.reduceMul, Nat.reduceEqDiff, Nat.reduceLT, Nat.reduceLeDiff, Nat.reduceSub, Nat.reducePow, Nat.reduceBEq, Int.reduceToNat, List.reduceReplicate, hwe]
        repeat with_reducible refine cj ?_ ?_
        all_goals try first | omega
        refine hK11 _ _ _ ?_; clear hK11
        refine AW.ret ?_
        rw [← hQl1]
        rw [← hQr]
        simp only [go_sem, reduceIte, reduceCtorEq, Nat.reduceAdd, Nat.reduceMul, Nat.reduceEqDiff, Nat.reduceLT, Nat.reduceLeDiff, Nat.reduceSub, Nat.reducePow, Nat.reduceBEq, Int.reduceToNat, List.reduceReplicate, hwe]
        have hvf : validS n W = false := by
          cases e : validS n W
          · rfl
          · rw [validS_bit hW e hNi (by omega)] at hb; cases hb
        exact Wk.of_eq (by rw [hvf]; simp)
      · intro hb
        try simp only [hB, decide_eq_true_eq, decide_eq_false_iff_not] at hb
        have hb0 : hasW W (i : Nat) = false := by simpa using hb
        refine AW.skip ?_
        refine hK9 _ _ _ ?_; clear hK9
        -- region 5
        refine AW.regionK 0 (fun _ => none) [2, 5] [2] ?_
        simp only [go_sem, reduceIte, reduceCtorEq, Nat.reduceAdd, Nat.reduceMul, Nat.reduceEqDiff, Nat.reduceLT, Nat.reduceLeDiff, Nat.reduceSub, Nat.reducePow, Nat.reduceBEq, Int.reduceToNat, List.reduceReplicate, hwe]
        repeat with_reducible refine cj ?_ ?_
        all_goals try first | omega
        rw [← hQl1]
        change Exists _
        refine ⟨_, ?hm, i + 1, ?_, ?_, rfl, ?henv, ?hstore, ?hst⟩
        case henv =>
          repeat' (first | rfl | refine env_cons ?_ ?_ | refine st_cons ?_ ?_ ?_ ?_ | refine int_eq ?_ | refine bool_eq ?_ | refine rsl_eq ?_ | refine osl_eq ?_ | refine sl_eq ?_ ?_ ?_ | refine ptr_eq ?_ ?_ ?_ | refine agg_eq ?_ | refine es_cons ?_ ?_ | refine row_cons ?_ ?_)
          all_goals (first | (simp; done) | omega | (simp; omega))
        case hstore =>
          repeat' (first | rfl | refine env_cons ?_ ?_ | refine st_cons ?_ ?_ ?_ ?_ | refine int_eq ?_ | refine bool_eq ?_ | refine rsl_eq ?_ | refine osl_eq ?_ | refine sl_eq ?_ ?_ ?_ | refine ptr_eq ?_ ?_ ?_ | refine agg_eq ?_ | refine es_cons ?_ ?_ | refine row_cons ?_ ?_)
          all_goals (first | (simp; done) | omega | (simp; omega))
        case hst =>
          refine ⟨by omega, by omega, fun q h1 h2 h3 => ?_⟩
          by_cases e : q = i
          · rw [e]; exact hb0
          · exact hall q h1 (by omega) h3
        case hm => omega
    · intro hb
      try simp only [hB, decide_eq_true_eq, decide_eq_false_iff_not] at hb
      refine AW.keep [] [] ?_
      try simp only [go_sem, reduceIte, reduceCtorEq, Nat.reduceAdd, Nat.reduceMul, Nat.reduceEqDiff, Nat.reduceLT, Nat.reduceLeDiff, Nat.reduceSub, Nat.reducePow, Nat.reduceBEq, Int.reduceToNat, List.reduceReplicate]
      refine AW.exit ?_
      rw [← hQl1]
      refine hK5 _ _ _ ?_; clear hK5
      refine AW.seq fun K12 hK12 => ?_
      -- region 8
      refine AW.regionK 0 (fun _ => none) [4] [] ?_
      simp only [go_sem, reduceIte, reduceCtorEq, Nat.reduceAdd, Nat.reduceMul, Nat.reduceEqDiff, Nat.reduceLT, Nat.reduceLeDiff, Nat.reduceSub, Nat.reducePow, Nat.reduceBEq, Int.reduceToNat, List.reduceReplicate, hwe]
      repeat with_reducible refine cj ?_ ?_
      all_goals try first | omega
      refine hK12 _ _ _ ?_; clear hK12
      refine AW.ret ?_
      rw [← hQr]
      simp only [go_sem, reduceIte, reduceCtorEq, Nat.reduceAdd, Nat.reduceMul, Nat.reduceEqDiff, Nat.reduceLT, Nat.reduceLeDiff, Nat.reduceSub, Nat.reducePow, Nat.reduceBEq, Int.reduceToNat, List.reduceReplicate, hwe]
      exact Wk.of_eq (by rw [validS_bits hW hsz.2.1 hsz.2.2.1 hsz.2.2.2 fun q h1 h2 => hall q h1 (by omega) h2]; simp [hNn])
theorem fil_succ (p : Nat → Bool) (j : Nat) : ((List.range (j + 1)).filter p).length = ((List.range j).filter p).length + if p j = true then 1 else 0 := by
  rw [List.range_succ, List.filter_append, List.length_append]
  by_cases h : p j = true <;> simp [h]
theorem fil_le (p : Nat → Bool) (j : Nat) : ((List.range j).filter p).length ≤ j := by
  have := List.length_filter_le p (List.range j)
  simpa using this
theorem rcount_r (b : List Bool) (hb : b.length ≤ 512) : Reads Try.prog 27 false [.agg (rowB b)] (.int .i64 ((memB b).length : Nat)) := by
  have hhr := rhas_in b hb
  have hbl := setB_len hb
  have hmb : (memB b).length = ((List.range b.length).filter fun i => b.getD i false).length := rfl
  unfold rowB at *
  refine Reads.body (rs := [.tmp 2]) Try.func27 rfl Try.ntmps27 rfl (by simp) ?_
  generalize hQr : retQ _ _ _ = Qr
  refine AW.seq fun K1 hK1 => ?_
  -- region 0
  refine AW.regionK 0 (fun _ => none) [1] [1] ?_
  simp only [go_sem, reduceIte, reduceCtorEq, Nat.reduceAdd, Nat.reduceMul, Nat.reduceEqDiff, Nat.reduceLT, Nat.reduceLeDiff, Nat.reduceSub, Nat.reducePow, Nat.reduceBEq, Int.reduceToNat, List.reduceReplicate]
  repeat with_reducible refine cj ?_ ?_
  all_goals try first | omega
  refine hK1 _ _ _ ?_; clear hK1
  refine AW.seq fun K2 hK2 => ?_
  -- region 1
  refine AW.regionK 0 (fun _ => none) [1, 3] [1] ?_
  simp only [go_sem, reduceIte, reduceCtorEq, Nat.reduceAdd, Nat.reduceMul, Nat.reduceEqDiff, Nat.reduceLT, Nat.reduceLeDiff, Nat.reduceSub, Nat.reducePow, Nat.reduceBEq, Int.reduceToNat, List.reduceReplicate]
  repeat with_reducible refine cj ?_ ?_
  all_goals try first | omega
  refine hK2 _ _ _ ?_; clear hK2
  refine AW.seq fun K3 hK3 => ?_
  refine AW.seq fun K4 hK4 => ?_
  -- region 2
  refine AW.regionK 0 (fun _ => none) [1, 3, 4] [1] ?_
  simp only [go_sem, reduceIte, reduceCtorEq, Nat.reduceAdd, Nat.reduceMul, Nat.reduceEqDiff, Nat.reduceLT, Nat.reduceLeDiff, Nat.reduceSub, Nat.reducePow, Nat.reduceBEq, Int.reduceToNat, List.reduceReplicate]
  repeat with_reducible refine cj ?_ ?_
  all_goals try first | omega
  refine hK4 _ _ _ ?_; clear hK4
  refine AW.block ?_
  -- loop 1
  refine AW.loopE (fun mm ee ss kk => ∃ (j g1 v1 : Nat), b.length - j = mm ∧ ee = [(1, .ptr ⟨1, g1, none⟩ 0 0), (3, .int .i64 (((List.range j).filter fun i => b.getD i false).length : Nat)), (4, .int .i64 (j : Nat))] ∧ ss = [(1, some ⟨g1, v1, 2, [[.int .i64 b.length, .rsl 1 (words (setW b b.length))]]⟩)] ∧ (j ≤ b.length)) ?_ ?_
  · refine ⟨_, 0, ?_, ?_, rfl, ?henv, ?hstore, ?hst⟩
    case henv =>
      repeat' (first | rfl | refine env_cons ?_ ?_ | refine st_cons ?_ ?_ ?_ ?_ | refine int_eq ?_ | refine bool_eq ?_ | refine rsl_eq ?_ | refine osl_eq ?_ | refine sl_eq ?_ ?_ ?_ | refine ptr_eq ?_ ?_ ?_ | refine agg_eq ?_ | refine es_cons ?_ ?_ | refine row_cons ?_ ?_)
      all_goals (first | (simp; done) | omega | (simp; omega))
    case hstore =>
      repeat' (first | rfl | refine env_cons ?_ ?_ | refine st_cons ?_ ?_ ?_ ?_ | refine int_eq ?_ | refine bool_eq ?_ | refine rsl_eq ?_ | refine osl_eq ?_ | refine sl_eq ?_ ?_ ?_ | refine ptr_eq ?_ ?_ ?_ | refine agg_eq ?_ | refine es_cons ?_ ?_ | refine row_cons ?_ ?_)
      all_goals (first | (simp; done) | omega | (simp; omega))
    case hst =>
      first | trivial | omega | (simp; done) | (simp; omega)
  rintro mm ee ss kk ⟨j, g1, v1, rfl, rfl, rfl, hI⟩
  generalize hQl1 : thenQ _ _ = Ql1
  refine AW.seq fun K5 hK5 => ?_
  refine AW.seq fun K6 hK6 => ?_
  -- region 3
  refine AW.regionK 0 (fun _ => none) [1, 3, 4, 8] [1] ?_
  simp only [go_sem, reduceIte, reduceCtorEq, Nat.reduceAdd, Nat.reduceMul, Nat.reduceEqDiff, Nat.reduceLT, Nat.reduceLeDiff, Nat.reduceSub, Nat.reducePow, Nat.reduceBEq, Int.reduceToNat, List.reduceReplicate]
  repeat with_reducible refine cj ?_ ?_
  all_goals try first | omega
  refine hK6 _ _ _ ?_; clear hK6
  -- cond 1
  refine AW.cond rfl (by simp only [go_sem, reduceIte, reduceCtorEq, Nat.reduceAdd, Nat.reduceMul, Nat.reduceEqDiff, Nat.reduceLT, Nat.reduceLeDiff, Nat.reduceSub, Nat.reducePow, Nat.reduceBEq, Int.reduceToNat, List.reduceReplicate]) ?_ ?_
  · intro hb
    try simp only [hB, decide_eq_true_eq, decide_eq_false_iff_not] at hb
    have hh := hhr (j : Int) (by omega) (by omega)
    rw [Int.toNat_natCast] at hh
    have hsu := fil_succ (fun i => b.getD i false) j
    have hfl := fil_le (fun i => b.getD i false) j
    refine AW.skip ?_
    refine hK5 _ _ _ ?_; clear hK5
    refine AW.seq fun K7 hK7 => ?_
    refine AW.block ?_
    refine AW.seq fun K8 hK8 => ?_
    -- region 5
    refine AW.regionK 0 (fun ii => if ii = 2 then some (.reads false (.bool (b.getD j false))) else none) [1, 3, 4, 13] [1] ?_
    simp only [go_sem, reduceIte, reduceCtorEq, Nat.reduceAdd, Nat.reduceMul, Nat.reduceEqDiff, Nat.reduceLT, Nat.reduceLeDiff, Nat.reduceSub, Nat.reducePow, Nat.reduceBEq, Int.reduceToNat, List.reduceReplicate]
    repeat with_reducible refine cj ?_ ?_
    all_goals try first | (exact hh) | omega | exact ent (by kernel_rfl)
    refine hK8 _ _ _ ?_; clear hK8
    -- cond 2
    refine AW.cond rfl (by simp only [go_sem, reduceIte, reduceCtorEq, Nat.reduceAdd, Nat.reduceMul, Nat.reduceEqDiff, Nat.reduceLT, Nat.reduceLeDiff, Nat.reduceSub, Nat.reducePow, Nat.reduceBEq, Int.reduceToNat, List.reduceReplicate]) ?_ ?_
    · intro hb
      try simp only [hB, decide_eq_true_eq, decide_eq_false_iff_not] at hb
      rw [if_pos hb] at hsu
      -- region 6
      refine AW.regionK 0 (fun _ => none) [1, 3, 4] [1] ?_
      simp only [go_sem, reduceIte, reduceCtorEq, Nat.reduceAdd, Nat.reduceMul, Nat.reduceEqDiff, Nat.reduceLT, Nat.reduceLeDiff, Nat.reduceSub, Nat.reducePow, Nat.reduceBEq, Int.reduceToNat, List.reduceReplicate]
      repeat with_reducible refine cj ?_ ?_
      all_goals try first | omega
      refine hK7 _ _ _ ?_; clear hK7
      -- region 4
      refine AW.regionK 0 (fun _ => none) [1, 3, 4] [1] ?_
      simp only [go_sem, reduceIte, reduceCtorEq, Nat.reduceAdd, Nat.reduceMul, Nat.reduceEqDiff, Nat.reduceLT, Nat.reduceLeDiff, Nat.reduceSub, Nat.reducePow, Nat.reduceBEq, Int.reduceToNat, List.reduceReplicate]
      repeat with_reducible refine cj ?_ ?_
      all_goals try first | omega
      rw [← hQl1]
      change Exists _
      refine ⟨_, ?hm, j + 1, ?_, ?_, rfl, ?henv, ?hstore, ?hst⟩
      case henv =>
        repeat' (first | rfl | refine env_cons ?_ ?_ | refine st_cons ?_ ?_ ?_ ?_ | refine int_eq ?_ | refine bool_eq ?_ | refine rsl_eq ?_ | refine osl_eq ?_ | refine sl_eq ?_ ?_ ?_ | refine ptr_eq ?_ ?_ ?_ | refine agg_eq ?_ | refine es_cons ?_ ?_ | refine row_cons ?_ ?_)
        all_goals (first | (rw [hsu]; done) | (rw [hsu]; simp; done) | (simp; done) | omega)
      case hstore =>
        repeat' (first | rfl | refine env_cons ?_ ?_ | refine st_cons ?_ ?_ ?_ ?_ | refine int_eq ?_ | refine bool_eq ?_ | refine rsl_eq ?_ | refine osl_eq ?_ | refine sl_eq ?_ ?_ ?_ | refine ptr_eq ?_ ?_ ?_ | refine agg_eq ?_ | refine es_cons ?_ ?_ | refine row_cons ?_ ?_)
        all_goals (first | (simp; done) | omega | (simp; omega))
      case hst =>
        first | trivial | omega | (simp; done) | (simp; omega)
      case hm => omega
    · intro hb
      try simp only [hB, decide_eq_true_eq, decide_eq_false_iff_not] at hb
      rw [if_neg (by rw [hb]; simp)] at hsu
      refine AW.skip ?_
      refine hK7 _ _ _ ?_; clear hK7
      -- region 4
      refine AW.regionK 0 (fun _ => none) [1, 3, 4] [1] ?_
      simp only [go_sem, reduceIte, reduceCtorEq, Nat.reduceAdd, Nat.reduceMul, Nat.reduceEqDiff, Nat.reduceLT, Nat.reduceLeDiff, Nat.reduceSub, Nat.reducePow, Nat.reduceBEq, Int.reduceToNat, List.reduceReplicate]
      repeat with_reducible refine cj ?_ ?_
      all_goals try first | omega
      rw [← hQl1]
      change Exists _
      refine ⟨_, ?hm, j + 1, ?_, ?_, rfl, ?henv, ?hstore, ?hst⟩
      case henv =>
        repeat' (first | rfl | refine env_cons ?_ ?_ | refine st_cons ?_ ?_ ?_ ?_ | refine int_eq ?_ | refine bool_eq ?_ | refine rsl_eq ?_ | refine osl_eq ?_ | refine sl_eq ?_ ?_ ?_ | refine ptr_eq ?_ ?_ ?_ | refine agg_eq ?_ | refine es_cons ?_ ?_ | refine row_cons ?_ ?_)
        all_goals (first | (rw [hsu]; done) | (rw [hsu]; simp; done) | (simp; done) | omega)
      case hstore =>
        repeat' (first | rfl | refine env_cons ?_ ?_ | refine st_cons ?_ ?_ ?_ ?_ | refine int_eq ?_ | refine bool_eq ?_ | refine rsl_eq ?_ | refine osl_eq ?_ | refine sl_eq ?_ ?_ ?_ | refine ptr_eq ?_ ?_ ?_ | refine agg_eq ?_ | refine es_cons ?_ ?_ | refine row_cons ?_ ?_)
        all_goals (first | (simp; done) | omega | (simp; omega))
      case hst =>
        first | trivial | omega | (simp; done) | (simp; omega)
      case hm => omega
  · intro hb
    try simp only [hB, decide_eq_true_eq, decide_eq_false_iff_not] at hb
    refine AW.keep [3] [] ?_
    try simp only [go_sem, reduceIte, reduceCtorEq, Nat.reduceAdd, Nat.reduceMul, Nat.reduceEqDiff, Nat.reduceLT, Nat.reduceLeDiff, Nat.reduceSub, Nat.reducePow, Nat.reduceBEq, Int.reduceToNat, List.reduceReplicate]
    refine AW.exit ?_
    rw [← hQl1]
    refine hK3 _ _ _ ?_; clear hK3
    refine AW.seq fun K9 hK9 => ?_
    -- region 7
    refine AW.regionK 0 (fun _ => none) [2] [] ?_
    simp only [go_sem, reduceIte, reduceCtorEq, Nat.reduceAdd, Nat.reduceMul, Nat.reduceEqDiff, Nat.reduceLT, Nat.reduceLeDiff, Nat.reduceSub, Nat.reducePow, Nat.reduceBEq, Int.reduceToNat, List.reduceReplicate]
    repeat with_reducible refine cj ?_ ?_
    all_goals try first | omega
    refine hK9 _ _ _ ?_; clear hK9
    refine AW.ret ?_
    rw [← hQr]
    simp only [go_sem, reduceIte, reduceCtorEq, Nat.reduceAdd, Nat.reduceMul, Nat.reduceEqDiff, Nat.reduceLT, Nat.reduceLeDiff, Nat.reduceSub, Nat.reducePow, Nat.reduceBEq, Int.reduceToNat, List.reduceReplicate]
    have hj : j = b.length := by omega
    subst hj
    exact Wk.of_eq (by rw [hmb])
theorem hall_good {n m : Nat} {E : List (Int × Int)} (h : Gd n m E) : Reads Try.prog 20 false [.int .i64 n, .int .i64 m, .rsl 2 (E.map pairV)] (if (rchM n m E).l.length = 0 then .tup [.agg [.int .i64 0, .nilsl], .int .i64 7] else .tup [.agg [.int .i64 n, .rsl 1 (words (setW (rowL n (rchM n m E).l) n))], .int .i64 0]) := by
  have hn := h.hn
  have hm := h.hm
  have hvr := mvalid_r n m E (by have := h.hl; omega)
  rw [h.valid] at hvr
  have hmx := maximum_u hn hm h.hE h.hl
  have hre := reached_r hn hm (nbOf_len n E) h.rng h.row h.max.1
  have hrl := h.rngL
  have hlen := h.rch.hlen
  have hLn := h.max.1.hL
  have hRm := h.max.1.hR
  rw [show reachP (nbOf n E) (maxLR (nbOf n E) n m n).1 (maxLR (nbOf n E) n m n).2 n m = rchM n m E from rfl] at hre
  generalize rchM n m E = T at *
  generalize maxLR (nbOf n E) n m n = x at *
  obtain ⟨L, R⟩ := x
  unfold graphS at hmx
  simp only at hmx hre hLn hRm ⊢
  generalize nbR (nbOf n E) = X at *
  have htL : (ints L).take n = ints L := List.take_of_length_le (by rw [ints_len]; omega)
  have htR : (ints R).take m = ints R := List.take_of_length_le (by rw [ints_len]; omega)
  have hol := of_b T.l hn (by omega) hrl
  refine Reads.body (rs := [.cell 6 30, .tmp 7]) Try.func20 rfl Try.ntmps20 rfl (by simp) ?_
  generalize hQr : retQ _ _ _ = Qr
  refine AW.seq fun K1 hK1 => ?_
  -- region 0
  refine AW.regionK 0 (fun _ => none) [0, 1, 2, 6] [6] ?_
  simp only [go_sem, reduceIte, reduceCtorEq, Nat.reduceAdd, Nat.reduceMul, Nat.reduceEqDiff, Nat.reduceLT, Nat.reduceLeDiff, Nat.reduceSub, Nat.reducePow, Nat.reduceBEq, Int.reduceToNat, List.reduceReplicate, ints_len]
  repeat with_reducible refine cj ?_ ?_
  all_goals try first | omega
  refine hK1 _ _ _ ?_; clear hK1
  refine AW.seq fun K2 hK2 => ?_
  refine AW.seq fun K3 hK3 => ?_
  -- region 1
  refine AW.regionK 0 (fun ii => if ii = 3 then some (.reads false (.bool true)) else none) [0, 1, 2, 6, 14] [6] ?_
  simp only [go_sem, reduceIte, reduceCtorEq, Nat.reduceAdd, Nat.reduceMul, Nat.reduceEqDiff, Nat.reduceLT, Nat.reduceLeDiff, Nat.reduceSub, Nat.reducePow, Nat.reduceBEq, Int.reduceToNat, List.reduceReplicate, ints_len]
  repeat with_reducible refine cj ?_ ?_
  all_goals try first | (exact hvr) | omega | exact ent (by kernel_rfl)
  refine hK3 _ _ _ ?_; clear hK3
  -- cond 1
  refine AW.cond rfl (by simp only [go_sem, reduceIte, reduceCtorEq, Nat.reduceAdd, Nat.reduceMul, Nat.reduceEqDiff, Nat.reduceLT, Nat.reduceLeDiff, Nat.reduceSub, Nat.reducePow, Nat.reduceBEq, Int.reduceToNat, List.reduceReplicate]) ?_ ?_
  · intro hb
    try simp only [hB, decide_eq_true_eq, decide_eq_false_iff_not] at hb
    exact absurd hb (by simp)
  · intro hb
    try simp only [hB, decide_eq_true_eq, decide_eq_false_iff_not] at hb
    refine AW.skip ?_
    refine hK2 _ _ _ ?_; clear hK2
    refine AW.seq fun K4 hK4 => ?_
    -- region 3
    refine AW.regionK 0 (fun ii => if ii = 3 then some (.upd [] (fun k => [(0, some ⟨k, k, 3, [[.rsl 1 X, .sl ⟨1, k, none⟩ 0 n none, .sl ⟨2, k, none⟩ 0 m none]]⟩), (1, some ⟨k, k, 1, ints L⟩), (2, some ⟨k, k, 1, ints R⟩)]) (fun k => .ptr ⟨0, k, none⟩ 0 0)) else if ii = 4 then some (.upd [20, 1020, 2020] (fun _ => []) (fun _ => .tup [.rsl 1 (ints T.l), .rsl 1 (ints T.q)])) else none) [0, 6, 8] [6] ?_
    simp only [go_sem, reduceIte, reduceCtorEq, Nat.reduceAdd, Nat.reduceMul, Nat.reduceEqDiff, Nat.reduceLT, Nat.reduceLeDiff, Nat.reduceSub, Nat.reducePow, Nat.reduceBEq, Int.reduceToNat, List.reduceReplicate, ints_len]
    repeat with_reducible refine cj ?_ ?_
    all_goals try first | (first | exact hmx | exact hre.upd (by simp only [List.map_cons, List.map_nil, go_sem, reduceIte, Nat.reduceEqDiff, htL, htR, vwc_ints])) | omega | exact ent (by kernel_rfl)
    refine hK4 _ _ _ ?_; clear hK4
    refine AW.seq fun K5 hK5 => ?_
    refine AW.seq fun K6 hK6 => ?_
    -- region 4
    refine AW.regionK 0 (fun _ => none) [0, 6, 8, 26] [6] ?_
    simp only [go_sem, reduceIte, reduceCtorEq, Nat.reduceAdd, Nat.reduceMul, Nat.reduceEqDiff, Nat.reduceLT, Nat.reduceLeDiff, Nat.reduceSub, Nat.reducePow, Nat.reduceBEq, Int.reduceToNat, List.reduceReplicate, ints_len]
    repeat with_reducible refine cj ?_ ?_
    all_goals try first | omega
    refine hK6 _ _ _ ?_; clear hK6
    -- cond 2
    refine AW.cond rfl (by simp only [go_sem, reduceIte, reduceCtorEq, Nat.reduceAdd, Nat.reduceMul, Nat.reduceEqDiff, Nat.reduceLT, Nat.reduceLeDiff, Nat.reduceSub, Nat.reducePow, Nat.reduceBEq, Int.reduceToNat, List.reduceReplicate]) ?_ ?_
    · intro hb
      try simp only [hB, decide_eq_true_eq, decide_eq_false_iff_not] at hb
      refine AW.seq fun K7 hK7 => ?_
      -- region 5
      refine AW.regionK 0 (fun _ => none) [6, 7] [6] ?_
      simp only [go_sem, reduceIte, reduceCtorEq, Nat.reduceAdd, Nat.reduceMul, Nat.reduceEqDiff, Nat.reduceLT, Nat.reduceLeDiff, Nat.reduceSub, Nat.reducePow, Nat.reduceBEq, Int.reduceToNat, List.reduceReplicate, ints_len]
      repeat with_reducible refine cj ?_ ?_
      all_goals try first | omega
      refine hK7 _ _ _ ?_; clear hK7
      refine AW.ret ?_
      rw [← hQr]
      simp only [go_sem, reduceIte, reduceCtorEq, Nat.reduceAdd, Nat.reduceMul, Nat.reduceEqDiff, Nat.reduceLT, Nat.reduceLeDiff, Nat.reduceSub, Nat.reducePow, Nat.reduceBEq, Int.reduceToNat, List.reduceReplicate, ints_len]
      exact Wk.of_eq (by rw [if_pos (by omega)])
    · intro hb
      try simp only [hB, decide_eq_true_eq, decide_eq_false_iff_not] at hb
      refine AW.skip ?_
      refine hK5 _ _ _ ?_; clear hK5
      refine AW.seq fun K8 hK8 => ?_
      -- region 6
      refine AW.regionK 0 (fun ii => if ii = 2 then some (.reads true (.tup [.agg [.int .i64 n, .rsl 1 (words (setW (rowL n T.l) n))], .int .i64 0])) else none) [6, 7] [6] ?_
      simp only [go_sem, reduceIte, reduceCtorEq, Nat.reduceAdd, Nat.reduceMul, Nat.reduceEqDiff, Nat.reduceLT, Nat.reduceLeDiff, Nat.reduceSub, Nat.reducePow, Nat.reduceBEq, Int.reduceToNat, List.reduceReplicate, ints_len]
      repeat with_reducible refine cj ?_ ?_
      all_goals try first | (exact hol) | omega | exact ent (by kernel_rfl)
      refine hK8 _ _ _ ?_; clear hK8
      refine AW.ret ?_
      rw [← hQr]
      simp only [go_sem, reduceIte, reduceCtorEq, Nat.reduceAdd, Nat.reduceMul, Nat.reduceEqDiff, Nat.reduceLT, Nat.reduceLeDiff, Nat.reduceSub, Nat.reducePow, Nat.reduceBEq, Int.reduceToNat, List.reduceReplicate, ints_len]
      exact Wk.of_eq (by rw [if_neg (by omega)])
end Go.Proofs.M

namespace Go.Proofs.M
open Go.AM Go
set_option maxRecDepth 100000
set_option maxHeartbeats 2000000
/-- The reference's reached nodes. -/
def refM (n m : Nat) (E : List (Int × Int)) : FSt := reachF (maxLR (nbOf n E) n m n).2 E n m
theorem Gd.edg {n m : Nat} {E : List (Int × Int)} (h : Gd n m E) : ∀ e ∈ E, edgeIn n m e = true ∧ e.2 ∈ nbl (nbOf n E) e.1.toNat := fun e he => by
  have h1 := edgeIn_iff.1 (h.hE e he)
  refine ⟨h.hE e he, (nbOf_mem h.hE _ _).2 ?_⟩
  rw [Int.toNat_of_nonneg h1.1]; exact he
theorem Gd.ref {n m : Nat} {E : List (Int × Int)} (h : Gd n m E) : (refM n m E).1.length = n ∧ (refM n m E).2.length = m ∧ (∀ i, sg (refM n m E).1 i ↔ RL (nbOf n E) n (maxLR (nbOf n E) n m n).1 (maxLR (nbOf n E) n m n).2 i) ∧ ∀ r, sg (refM n m E).2 r ↔ RR (nbOf n E) n (maxLR (nbOf n E) n m n).1 (maxLR (nbOf n E) n m n).2 r :=
  reachF_spec h.max.1 h.edg fun l r hr => (nbOf_mem h.hE l r).1 hr
end Go.Proofs.M

namespace Go.Proofs.M
open Go.AM Go
set_option maxRecDepth 100000
set_option maxHeartbeats 2000000
end Go.Proofs.M

/- Matchings, covers, and deficiencies. -/
namespace Go.AM
theorem nodup_sub {α : Type} [DecidableEq α] : ∀ {l l' : List α}, l.Nodup → (∀ x ∈ l, x ∈ l') → l.length ≤ l'.length
  | [], _, _, _ => Nat.zero_le _
  | a :: l, l', h, hs => by
    have ha := hs a (by simp)
    obtain ⟨h1, h2⟩ := List.nodup_cons.1 h
    have := nodup_sub (l := l) (l' := l'.erase a) h2 fun x hx => by
      have hne : x ≠ a := fun e => h1 (by rw [← e]; exact hx)
      exact (List.mem_erase_of_ne hne).2 (hs x (by simp [hx]))
    rw [List.length_erase_of_mem ha] at this
    have := List.length_pos_of_mem ha
    simp only [List.length_cons]; omega
def cnt (p : Nat → Bool) (n : Nat) : Nat := ((List.range n).filter p).length
theorem cnt_le (p : Nat → Bool) (n : Nat) : cnt p n ≤ n := by
  have := List.length_filter_le p (List.range n)
  simpa [cnt] using this
theorem cnt_succ (p : Nat → Bool) (n : Nat) : cnt p (n + 1) = cnt p n + if p n = true then 1 else 0 := by
  unfold cnt
  rw [List.range_succ, List.filter_append, List.length_append]
  by_cases h : p n = true <;> simp [h]
theorem cnt_inj {p q : Nat → Bool} {n m : Nat} (f : Nat → Nat) (h1 : ∀ i, i < n → p i = true → f i < m ∧ q (f i) = true) (h2 : ∀ i j, i < n → j < n → p i = true → p j = true → f i = f j → i = j) : cnt p n ≤ cnt q m := by
  have := nodup_sub (l := ((List.range n).filter p).map f) (l' := (List.range m).filter q) ?_ ?_
  · rw [List.length_map] at this; exact this
  · refine List.pairwise_map.2 (List.Pairwise.imp_of_mem ?_ (List.Pairwise.sublist List.filter_sublist (List.nodup_range (n := n))))
    intro a b ha hb hab e
    simp only [List.mem_filter, List.mem_range] at ha hb
    exact hab (h2 a b ha.1 hb.1 ha.2 hb.2 e)
  · intro x hx
    obtain ⟨i, hi, rfl⟩ := List.mem_map.1 hx
    simp only [List.mem_filter, List.mem_range] at hi ⊢
    exact h1 i hi.1 hi.2
theorem cnt_mono {p q : Nat → Bool} {n : Nat} (h : ∀ i, i < n → p i = true → q i = true) : cnt p n ≤ cnt q n := cnt_inj (fun i => i) (fun i hi hp => ⟨hi, h i hi hp⟩) fun _ _ _ _ _ _ e => e
theorem cnt_congr {p q : Nat → Bool} {n : Nat} (h : ∀ i, i < n → p i = q i) : cnt p n = cnt q n := Nat.le_antisymm (cnt_mono fun i hi hp => by rw [← h i hi]; exact hp) (cnt_mono fun i hi hp => by rw [h i hi]; exact hp)
theorem cnt_split (p q : Nat → Bool) : ∀ n, cnt p n = cnt (fun i => p i && q i) n + cnt (fun i => p i && !q i) n
  | 0 => rfl
  | n + 1 => by
    rw [cnt_succ, cnt_succ, cnt_succ, cnt_split p q n]
    cases p n <;> cases q n <;> simp <;> omega
theorem cnt_not (p : Nat → Bool) : ∀ n, cnt p n + cnt (fun i => !p i) n = n
  | 0 => rfl
  | n + 1 => by
    have := cnt_not p n
    rw [cnt_succ, cnt_succ]
    cases p n <;> simp <;> omega
theorem cnt_all {p q : Nat → Bool} : ∀ {n : Nat}, (∀ i, i < n → p i = true → q i = true) → cnt q n ≤ cnt p n → ∀ i, i < n → q i = true → p i = true
  | 0, _, _, i, hi, _ => by omega
  | n + 1, h, hc, i, hi, hq => by
    have h1 := cnt_mono (n := n) fun i hi => h i (by omega)
    rw [cnt_succ, cnt_succ] at hc
    have hn := h n (by omega)
    by_cases e : i = n
    · subst e
      cases hp : p i with
      | true => rfl
      | false => rw [hp, hq] at hc; simp at hc; omega
    · refine cnt_all (n := n) (fun i hi => h i (by omega)) ?_ i (by omega) hq
      cases hp : p n <;> cases hqn : q n <;> simp [hp, hqn] at hc hn ⊢ <;> omega
section
variable {n m : Nat} {E : List (Int × Int)} {L R : List Int}
abbrev pL (L : List Int) (i : Nat) : Bool := decide (0 ≤ gi L i)
theorem prsL_mem (hL : L.length = n) (p : Int × Int) : p ∈ prsL L n ↔ ∃ i : Nat, i < n ∧ 0 ≤ gi L i ∧ p = ((i : Int), gi L i) := by
  simp only [prsL, List.mem_map, List.mem_filter, List.mem_range, decide_eq_true_eq]
  constructor
  · rintro ⟨i, ⟨h1, h2⟩, rfl⟩
    rw [gi_eq (by omega)] at h2 ⊢
    exact ⟨i, h1, h2, rfl⟩
  · rintro ⟨i, h1, h2, rfl⟩
    exact ⟨i, ⟨h1, by rw [gi_eq (by omega)]; exact h2⟩, by rw [gi_eq (by omega)]⟩
theorem prsL_len (hL : L.length = n) : (prsL L n).length = cnt (pL L) n := by
  unfold prsL
  rw [List.length_map]
  exact cnt_congr fun i hi => by rw [gi_eq (by omega)]
theorem isMat_iff {E P : List (Int × Int)} : isMat E P = true ↔ (∀ p ∈ P, p ∈ E) ∧ (P.map (·.1)).Nodup ∧ (P.map (·.2)).Nodup := by
  simp [isMat]
theorem mch_mat (hM : Mch n m (nbOf n E) L R) (hE : ∀ e ∈ E, edgeIn n m e = true) : isMat E (prsL L n) = true := by
  rw [isMat_iff]
  refine ⟨fun p hp => ?_, ?_, ?_⟩
  · obtain ⟨i, h1, h2, rfl⟩ := (prsL_mem hM.hL p).1 hp
    exact (nbOf_mem hE i _).1 (hM.hE i h2)
  · unfold prsL
    rw [List.map_map]
    refine List.pairwise_map.2 (List.Pairwise.imp_of_mem ?_ (List.Pairwise.sublist List.filter_sublist (List.nodup_range (n := n))))
    intro a b _ _ hab e
    simp only [Function.comp] at e
    omega
  · unfold prsL
    rw [List.map_map]
    refine List.pairwise_map.2 (List.Pairwise.imp_of_mem ?_ (List.Pairwise.sublist List.filter_sublist (List.nodup_range (n := n))))
    intro a b ha hb hab e
    have hLl := hM.hL
    simp only [List.mem_filter, List.mem_range, decide_eq_true_eq] at ha hb
    simp only [Function.comp] at e
    rw [gi_eq (by omega)] at e ha hb
    rw [gi_eq (by omega)] at e
    have h1 := (hM.hC a (gi L a).toNat).1 (by omega)
    have h2 := (hM.hC b (gi L a).toNat).1 (by omega)
    omega
theorem NoAug.sub {nb : List (List Int)} (h : NoAug nb n L R) : ∀ r, RR nb n L R r → 0 ≤ gi R r := by
  obtain ⟨T, hT, hf⟩ := h
  have hl : ∀ l, RL nb n L R l → ∀ r ∈ nbl nb l, T r.toNat := by
    intro l hl
    induction hl with
    | free a b => exact hf _ a b
    | step a b c ih =>
      have h1 := (hT _ (ih _ b)).2
      rw [c, Int.toNat_natCast] at h1
      exact h1
  rintro r ⟨l, h1, h2⟩
  have := hT _ (hl l h1 _ h2)
  rw [Int.toNat_natCast] at this
  exact this.1
structure Rch (n m : Nat) (E : List (Int × Int)) (L R : List Int) (S T : Nat → Bool) : Prop where
  hM : Mch n m (nbOf n E) L R
  hA : NoAug (nbOf n E) n L R
  hE : ∀ e ∈ E, edgeIn n m e = true
  hS : ∀ i, S i = true ↔ RL (nbOf n E) n L R i
  hT : ∀ r, T r = true ↔ RR (nbOf n E) n L R r
variable {S T : Nat → Bool}
theorem Rch.edge (h : Rch n m E L R S T) {e : Int × Int} (he : e ∈ E) (hs : S e.1.toNat = true) : T e.2.toNat = true := by
  have h1 := edgeIn_iff.1 (h.hE e he)
  refine (h.hT _).2 ⟨_, (h.hS _).1 hs, (nbOf_mem h.hE _ _).2 ?_⟩
  rw [Int.toNat_of_nonneg h1.1, Int.toNat_of_nonneg h1.2.2.1]; exact he
theorem Rch.mate (h : Rch n m E L R S T) {r : Nat} (hr : T r = true) : 0 ≤ gi R r ∧ S (gi R r).toNat = true := by
  have h1 := (h.hT r).1 hr
  have h2 := h.hA.sub r h1
  obtain ⟨l, a, b⟩ := h1
  exact ⟨h2, (h.hS _).2 (.step a b (by rw [Int.toNat_natCast]; omega))⟩
theorem Rch.free (h : Rch n m E L R S T) {i : Nat} (hi : i < n) (hs : gi L i < 0) : S i = true := (h.hS i).2 (.free hi hs)
theorem Rch.to (h : Rch n m E L R S T) {i : Nat} (hs : S i = true) (hp : 0 ≤ gi L i) : T (gi L i).toNat = true :=
  (h.hT _).2 ⟨i, (h.hS i).1 hs, by rw [Int.toNat_of_nonneg hp]; exact h.hM.hE i hp⟩
theorem Rch.cntT (h : Rch n m E L R S T) : cnt (fun i => pL L i && S i) n = cnt T m := by
  have hM := h.hM
  refine Nat.le_antisymm (cnt_inj (fun i => (gi L i).toNat) (fun i hi hp => ?_) fun i j hi hj hp hq e => ?_) (cnt_inj (fun r => (gi R r).toNat) (fun r hr hp => ?_) fun i j hi hj hp hq e => ?_)
  · simp only [pL, Bool.and_eq_true, decide_eq_true_eq] at hp
    have h1 := hM.hLm i
    exact ⟨by omega, h.to hp.2 hp.1⟩
  · simp only [pL, Bool.and_eq_true, decide_eq_true_eq] at hp hq
    have h1 := (hM.hC i (gi L i).toNat).1 (by omega)
    have h2 := (hM.hC j (gi L i).toNat).1 (by omega)
    omega
  · have h2 := h.mate hp
    have h1 := hM.hRn r
    have := (hM.hC (gi R r).toNat r).2 (by omega)
    simp only [pL, Bool.and_eq_true, decide_eq_true_eq]
    exact ⟨by omega, by omega, h2.2⟩
  · have h3 := h.mate hp
    have h4 := h.mate hq
    have h1 := (hM.hC (gi R i).toNat i).2 (by omega)
    have h2 := (hM.hC (gi R i).toNat j).2 (by omega)
    omega
theorem Rch.cntS (h : Rch n m E L R S T) : cnt (fun i => pL L i && !S i) n = cnt (fun i => !S i) n :=
  cnt_congr fun i hi => by
    cases hs : S i with
    | true => simp
    | false =>
      by_cases hp : 0 ≤ gi L i
      · simp [hp]
      · have := h.free hi (by omega); rw [hs] at this; cases this
theorem Rch.cover (h : Rch n m E L R S T) : cnt (fun i => !S i) n + cnt T m = cnt (pL L) n := by
  rw [cnt_split (pL L) S n, h.cntT, h.cntS]; omega
/-- A minimum cover has the right part of the nearest one. -/
theorem Rch.least (h : Rch n m E L R S T) {A B : Nat → Bool} (hc : ∀ e ∈ E, A e.1.toNat = true ∨ B e.2.toNat = true) (hk : cnt A n + cnt B m ≤ cnt (pL L) n) {r : Nat} (hr : T r = true) : B r = true := by
  have hM := h.hM
  have e1 := cnt_split (pL L) A n
  have e2 : cnt (fun i => pL L i && A i) n ≤ cnt A n := cnt_mono fun i _ hp => by simp at hp; exact hp.2
  have e3 : cnt (fun i => pL L i && !A i) n ≤ cnt (fun r => B r && (pL R r && !A (gi R r).toNat)) m := cnt_inj (fun i => (gi L i).toNat) (fun i hi hp => by
    simp only [pL, Bool.and_eq_true, decide_eq_true_eq] at hp
    have h1 := hM.hLm i
    have h2 := (hM.hC i (gi L i).toNat).1 (by omega)
    refine ⟨by omega, ?_⟩
    have he : (((i : Nat) : Int), gi L i) ∈ E := (nbOf_mem h.hE i _).1 (hM.hE i hp.1)
    simp only [pL, Bool.and_eq_true, decide_eq_true_eq, h2, Int.toNat_natCast]
    refine ⟨?_, by omega, hp.2⟩
    rcases hc _ he with h3 | h3
    · simp only [Int.toNat_natCast] at h3
      rw [h3] at hp; simp at hp
    · exact h3) fun i j hi hj hp hq e => by
    simp only [pL, Bool.and_eq_true, decide_eq_true_eq] at hp hq
    have h1 := (hM.hC i (gi L i).toNat).1 (by omega)
    have h2 := (hM.hC j (gi L i).toNat).1 (by omega)
    omega
  have e4 : cnt (fun r => B r && (pL R r && !A (gi R r).toNat)) m ≤ cnt B m := cnt_mono fun i _ hp => by
    simp only [Bool.and_eq_true] at hp; exact hp.1
  have f1 := cnt_all (p := fun i => pL L i && A i) (q := A) (n := n) (fun i _ hp => by simp at hp; exact hp.2) (by omega)
  have f2 := cnt_all (p := fun r => B r && (pL R r && !A (gi R r).toNat)) (q := B) (n := m) (fun i _ hp => by simp only [Bool.and_eq_true] at hp; exact hp.1) (by omega)
  have hl : ∀ l, RL (nbOf n E) n L R l → A l = false := by
    intro l hl
    induction hl with
    | @free l a b =>
      cases hA : A l with
      | false => rfl
      | true => have := f1 l a hA; simp [pL] at this; omega
    | @step l r l2 a b c ih =>
      have he := (nbOf_mem h.hE l r).1 b
      have hr := edgeIn_iff.1 (h.hE _ he)
      simp only at hr
      rcases hc _ he with h3 | h3
      · simp only [Int.toNat_natCast] at h3
        rw [h3] at ih; cases ih
      · have := f2 r.toNat (by omega) h3
        simp only [Bool.and_eq_true, Bool.not_eq_true', c, Int.toNat_natCast] at this
        exact this.2.2
  obtain ⟨l, a, b⟩ := (h.hT r).1 hr
  have he := (nbOf_mem h.hE l r).1 b
  rcases hc _ he with h3 | h3
  · simp only [Int.toNat_natCast] at h3
    rw [hl l a] at h3; cases h3
  · simpa using h3
/-- The neighbors of a set. -/
def nbX (E : List (Int × Int)) (X : Nat → Bool) (r : Nat) : Bool := E.any fun e => X e.1.toNat && decide (e.2 = (r : Int))
theorem nbX_iff {X : Nat → Bool} {r : Nat} : nbX E X r = true ↔ ∃ e ∈ E, X e.1.toNat = true ∧ e.2 = (r : Int) := by
  simp [nbX]
theorem Rch.hall (h : Rch n m E L R S T) (X : Nat → Bool) : cnt X n ≤ cnt (nbX E X) m + cnt (fun i => !pL L i) n ∧
    (cnt (nbX E X) m + cnt (fun i => !pL L i) n ≤ cnt X n → ∀ i, S i = true → X i = true) := by
  have hM := h.hM
  have e1 := cnt_split X (pL L) n
  have e2 : cnt (fun i => X i && !pL L i) n ≤ cnt (fun i => !pL L i) n := cnt_mono fun i _ hp => by
    simp only [Bool.and_eq_true] at hp; exact hp.2
  have e3 : cnt (fun i => X i && pL L i) n ≤ cnt (fun r => nbX E X r && (pL R r && X (gi R r).toNat)) m := cnt_inj (fun i => (gi L i).toNat) (fun i hi hp => by
    simp only [pL, Bool.and_eq_true, decide_eq_true_eq] at hp
    have h1 := hM.hLm i
    have h2 := (hM.hC i (gi L i).toNat).1 (by omega)
    have he : (((i : Nat) : Int), gi L i) ∈ E := (nbOf_mem h.hE i _).1 (hM.hE i hp.2)
    refine ⟨by omega, ?_⟩
    simp only [pL, Bool.and_eq_true, decide_eq_true_eq, h2, Int.toNat_natCast]
    exact ⟨nbX_iff.2 ⟨_, he, by simpa using hp.1, by simp only; omega⟩, by omega, hp.1⟩) fun i j hi hj hp hq e => by
    simp only [pL, Bool.and_eq_true, decide_eq_true_eq] at hp hq
    have h1 := (hM.hC i (gi L i).toNat).1 (by omega)
    have h2 := (hM.hC j (gi L i).toNat).1 (by omega)
    omega
  have e4 : cnt (fun r => nbX E X r && (pL R r && X (gi R r).toNat)) m ≤ cnt (nbX E X) m := cnt_mono fun i _ hp => by
    simp only [Bool.and_eq_true] at hp; exact hp.1
  refine ⟨by omega, fun hq => ?_⟩
  have f1 := cnt_all (p := fun i => X i && !pL L i) (q := fun i => !pL L i) (n := n) (fun i _ hp => by simp only [Bool.and_eq_true] at hp; exact hp.2) (by omega)
  have f2 := cnt_all (p := fun r => nbX E X r && (pL R r && X (gi R r).toNat)) (q := nbX E X) (n := m) (fun i _ hp => by simp only [Bool.and_eq_true] at hp; exact hp.1) (by omega)
  intro i hi
  have hl := (h.hS i).1 hi
  clear hi
  induction hl with
  | @free l a b =>
    have := f1 l a (by simp [pL]; omega)
    simp only [Bool.and_eq_true] at this
    exact this.1
  | @step l r l2 a b c ih =>
    have he := (nbOf_mem h.hE l r).1 b
    have hr := edgeIn_iff.1 (h.hE _ he)
    simp only at hr
    have := f2 r.toNat (by omega) (nbX_iff.2 ⟨_, he, by simpa using ih, by simp only; omega⟩)
    simp only [Bool.and_eq_true, c, Int.toNat_natCast] at this
    exact this.2.2
theorem Rch.nbS (h : Rch n m E L R S T) (r : Nat) : nbX E S r = T r := by
  have : nbX E S r = true ↔ T r = true := by
    rw [nbX_iff]
    constructor
    · rintro ⟨e, he, hs, h2⟩
      have := h.edge he hs
      rw [h2, Int.toNat_natCast] at this; exact this
    · intro hr
      obtain ⟨l, a, b⟩ := (h.hT r).1 hr
      exact ⟨_, (nbOf_mem h.hE l r).1 b, by simpa using (h.hS l).2 a, rfl⟩
  cases h1 : nbX E S r <;> cases h2 : T r <;> simp_all
theorem Rch.hallS (h : Rch n m E L R S T) : cnt S n = cnt (nbX E S) m + cnt (fun i => !pL L i) n := by
  have e1 := cnt_split S (pL L) n
  have e2 : cnt (fun i => S i && pL L i) n = cnt T m := by rw [← h.cntT]; exact cnt_congr fun i _ => Bool.and_comm _ _
  have e3 : cnt (fun i => S i && !pL L i) n = cnt (fun i => !pL L i) n := cnt_congr fun i hi => by
    by_cases hp : 0 ≤ gi L i
    · simp [pL, hp]
    · rw [h.free hi (by omega)]; simp
  have e4 : cnt (nbX E S) m = cnt T m := cnt_congr fun r _ => h.nbS r
  omega
end
end Go.AM

namespace Go.Proofs.M
open Go.AM Go
set_option maxRecDepth 100000
set_option maxHeartbeats 2000000
def exE : List (Int × Int) := [(0, 0), (1, 0)]
theorem ex_gd : Gd 2 2 exE := ⟨by decide, by decide, by decide, by decide, by decide⟩
theorem isset_b (b : List Bool) (hb : b.length ≤ 512) : Reads Try.prog 21 false [.agg [.int .i64 b.length, .rsl 1 (words (setW b b.length))], .int .i64 b.length] (.bool true) := by
  have := isset_r b.length b.length (setW b b.length) (setW_ok b) (by have := setB_len hb; omega)
  rw [validS_setW hb] at this
  simpa using this
theorem awake_r : Reads Try.prog 9 false [] (.bool true) := by
  have h1 := max_good ex_gd.valid
  have h2 := cover_good ex_gd
  have h3 := hall_good ex_gd
  have v1 : maxP 2 2 exE = [(0, 0)] := by decide +kernel
  have v2 : cvL 2 2 exE = [false, false] := by decide +kernel
  have v3 : cvR 2 2 exE = [true, false] := by decide +kernel
  have v4 : (rchM 2 2 exE).l = [1, 0] := by decide +kernel
  have v5 : rowL 2 [1, 0] = [true, true] := by decide +kernel
  rw [v1] at h1
  rw [v2, v3] at h2
  rw [v4, if_neg (by decide), v5] at h3
  have s1 := isset_b [false, false] (by decide)
  have s2 := isset_b [true, false] (by decide)
  have s3 := isset_b [true, true] (by decide)
  have c1 := rcount_r [false, false] (by decide)
  have c3 := rcount_r [true, true] (by decide)
  have g1 := rhas_in [true, false] (by decide) 0 (by decide) (by decide)
  have g2 := rhas_in [true, false] (by decide) 1 (by decide) (by decide)
  have e1 : (memB [false, false]).length = 0 := by decide
  have e3 : (memB [true, true]).length = 2 := by decide
  rw [e1] at c1
  rw [e3] at c3
  unfold rowB at c1 c3 g1 g2
  simp only [List.length_cons, List.length_nil, Nat.reduceAdd] at s1 s2 s3 c1 c3 g1 g2
  simp only [exE, pairV, List.map_cons, List.map_nil] at h1 h2 h3
  generalize setW [false, false] 2 = A at *
  generalize setW [true, false] 2 = B at *
  generalize setW [true, true] 2 = C at *
  refine Reads.body (rs := [.tmp 0]) Try.func9 rfl Try.ntmps9 rfl (by simp) ?_
  generalize hQr : retQ _ _ _ = Qr
  refine AW.seq fun K1 hK1 => ?_
  -- region 0
  refine AW.regionK 0 (fun _ => none) [] [] ?_
  simp only [go_sem, reduceIte, reduceCtorEq, Nat.reduceAdd, Nat.reduceMul, Nat.reduceEqDiff, Nat.reduceLT, Nat.reduceLeDiff, Nat.reduceSub, Nat.reducePow, Nat.reduceBEq, Int.reduceToNat, List.reduceReplicate, decide_true, eq_self]
  repeat with_reducible refine cj ?_ ?_
  all_goals try first | omega
  refine hK1 _ _ _ ?_; clear hK1
  refine AW.seq fun K2 hK2 => ?_
  -- region 1
  refine AW.regionK 0 (fun _ => none) [1] [11] ?_
  simp only [go_sem, reduceIte, reduceCtorEq, Nat.reduceAdd, Nat.reduceMul, Nat.reduceEqDiff, Nat.reduceLT, Nat.reduceLeDiff, Nat.reduceSub, Nat.reducePow, Nat.reduceBEq, Int.reduceToNat, List.reduceReplicate, decide_true, eq_self]
  repeat with_reducible refine cj ?_ ?_
  all_goals try first | omega
  refine hK2 _ _ _ ?_; clear hK2
  refine AW.seq fun K3 hK3 => ?_
  refine AW.freezeK [11] [1] [] [] ?_
  simp only [go_sem, reduceIte, Nat.reduceEqDiff]
  -- region 2
  refine AW.regionK 0 (fun ii => if ii = 1 then some (.reads false (.tup [.rsl 2 [[.int .i64 0, .int .i64 0]], .int .i64 0])) else none) [1, 2, 3] [11] ?_
  simp only [go_sem, reduceIte, reduceCtorEq, Nat.reduceAdd, Nat.reduceMul, Nat.reduceEqDiff, Nat.reduceLT, Nat.reduceLeDiff, Nat.reduceSub, Nat.reducePow, Nat.reduceBEq, Int.reduceToNat, List.reduceReplicate, decide_true, eq_self]
  repeat with_reducible refine cj ?_ ?_
  all_goals try first | (exact h1) | omega | exact ent (by kernel_rfl)
  refine hK3 _ _ _ ?_; clear hK3
  refine AW.seq fun K4 hK4 => ?_
  -- region 3
  refine AW.regionK 0 (fun ii => if ii = 1 then some (.reads false (.tup [.agg [.int .i64 2, .rsl 1 (words A)], .agg [.int .i64 2, .rsl 1 (words B)], .int .i64 0])) else none) [1, 2, 3, 4, 5, 6] [4, 5, 11] ?_
  simp only [go_sem, reduceIte, reduceCtorEq, Nat.reduceAdd, Nat.reduceMul, Nat.reduceEqDiff, Nat.reduceLT, Nat.reduceLeDiff, Nat.reduceSub, Nat.reducePow, Nat.reduceBEq, Int.reduceToNat, List.reduceReplicate, decide_true, eq_self]
  repeat with_reducible refine cj ?_ ?_
  all_goals try first | (exact h2) | omega | exact ent (by kernel_rfl)
  refine hK4 _ _ _ ?_; clear hK4
  refine AW.seq fun K5 hK5 => ?_
  -- region 4
  refine AW.regionK 0 (fun ii => if ii = 1 then some (.reads false (.tup [.agg [.int .i64 2, .rsl 1 (words C)], .int .i64 0])) else none) [2, 3, 4, 5, 6, 7, 8] [4, 5, 7] ?_
  simp only [go_sem, reduceIte, reduceCtorEq, Nat.reduceAdd, Nat.reduceMul, Nat.reduceEqDiff, Nat.reduceLT, Nat.reduceLeDiff, Nat.reduceSub, Nat.reducePow, Nat.reduceBEq, Int.reduceToNat, List.reduceReplicate, decide_true, eq_self]
  repeat with_reducible refine cj ?_ ?_
  all_goals try first | (exact h3) | omega | exact ent (by kernel_rfl)
  refine hK5 _ _ _ ?_; clear hK5
  refine AW.seq fun K6 hK6 => ?_
  -- region 5
  refine AW.regionK 0 (fun ii => if ii = 13 then some (.reads false (.bool true)) else if ii = 17 then some (.reads false (.int .i64 0)) else if ii = 22 then some (.reads false (.bool true)) else if ii = 26 then some (.reads false (.bool true)) else if ii = 30 then some (.reads false (.bool false)) else if ii = 39 then some (.reads false (.bool true)) else if ii = 43 then some (.reads false (.int .i64 2)) else none) [0] [] ?_
  simp (maxSteps := 2000000) only [go_sem, reduceIte, reduceCtorEq, Nat.reduceAdd, Nat.reduceMul, Nat.reduceEqDiff, Nat.reduceLT, Nat.reduceLeDiff, Nat.reduceSub, Nat.reducePow, Nat.reduceBEq, Int.reduceToNat, List.reduceReplicate, decide_true, eq_self]
  repeat with_reducible refine cj ?_ ?_
  all_goals try first | (first | exact s1 | exact s2 | exact s3 | exact c1 | exact c3 | exact g1 | exact g2) | (intros; (repeat' apply And.intro) <;> first | assumption | (first | exact s1 | exact s2 | exact s3 | exact c1 | exact c3 | exact g1 | exact g2)) | omega | exact ent (by kernel_rfl) | (intro hgd; exact absurd hgd (by decide)) | rfl | (simp only [go_sem, reduceIte, reduceCtorEq, Nat.reduceAdd, Nat.reduceMul, Nat.reduceEqDiff, Nat.reduceLT, Nat.reduceLeDiff, Nat.reduceSub, Nat.reducePow, Nat.reduceBEq, Int.reduceToNat, List.reduceReplicate, decide_true, eq_self]; done) | (intro _hgd; simp_all [go_sem]; done)
  refine hK6 _ _ _ ?_; clear hK6
  refine AW.ret ?_
  rw [← hQr]
  simp only [go_sem, reduceIte, reduceCtorEq, Nat.reduceAdd, Nat.reduceMul, Nat.reduceEqDiff, Nat.reduceLT, Nat.reduceLeDiff, Nat.reduceSub, Nat.reducePow, Nat.reduceBEq, Int.reduceToNat, List.reduceReplicate, decide_true, eq_self]
  exact Wk.refl _
end Go.Proofs.M

namespace Go.Proofs.M
open Go.AM Go
set_option maxRecDepth 100000
set_option maxHeartbeats 2000000
theorem sg_dec {b : List Bool} {i : Nat} {p : Prop} [Decidable p] (h : sg b i ↔ p) : b.getD i false = decide p := by
  unfold sg at h
  cases hb : b.getD i false with
  | true => exact (decide_eq_true (h.1 hb)).symm
  | false => exact (decide_eq_false (fun hp => by rw [h.2 hp] at hb; cases hb)).symm
theorem Gd.inL {n m : Nat} {E : List (Int × Int)} (h : Gd n m E) (i : Nat) : sg (refM n m E).1 i ↔ (i : Int) ∈ (rchM n m E).l := by
  rw [h.ref.2.2.1 i]; exact ((reachP_spec (nbOf_len n E) h.rng h.max.1).2.1 i).symm
theorem hlL_eq {n m : Nat} {E : List (Int × Int)} (h : Gd n m E) : rowL n (rchM n m E).l = (refM n m E).1 := by
  refine getD_extB (by rw [rowL_len, h.ref.1]) fun i hi => ?_
  rw [rowL_len] at hi
  rw [rowL_get hi, sg_dec (h.inL i)]
theorem maxP_le (n m : Nat) (E : List (Int × Int)) : (maxP n m E).length ≤ n := prsL_le _ _
end Go.Proofs.M

/- A given list of pairs, laid as a matching. -/
namespace Go.AM
theorem Mch.join {n m : Nat} {nb : List (List Int)} {L R : List Int} (h : Mch n m nb L R) {a b : Nat} (ha : a < n) (hb : b < m) (hab : (b : Int) ∈ nbl nb a) (h1 : gi L a < 0) (h2 : gi R b < 0) : Mch n m nb (L.set a b) (R.set b a) := by
  have hLl := h.hL
  have hRl := h.hR
  refine ⟨by simp [hLl], by simp [hRl], fun r => ?_, fun l => ?_, fun l r => ?_, fun l hl => ?_⟩
  · rw [gi_set]; split
    · omega
    · exact h.hRn r
  · rw [gi_set]; split
    · omega
    · exact h.hLm l
  · rw [gi_set, gi_set]
    have h3 := h.hC l r
    by_cases e1 : a = l
    · subst e1
      rw [if_pos (by omega)]
      by_cases e2 : b = r
      · subst e2; rw [if_pos (by omega)]; simp
      · rw [if_neg (by omega)]
        constructor
        · intro h4; omega
        · intro h4; have := h3.2 h4; omega
    · rw [if_neg (by omega)]
      by_cases e2 : b = r
      · subst e2; rw [if_pos (by omega)]
        constructor
        · intro h4; have := h3.1 h4; omega
        · intro h4; omega
      · rw [if_neg (by omega)]; exact h3
  · rw [gi_set] at hl ⊢
    split
    · rename_i e; rw [← e.1]; exact hab
    · rename_i e; rw [if_neg e] at hl; exact h.hE l hl
structure PlI (n m : Nat) (E P : List (Int × Int)) (x : List Int × List Int) : Prop where
  hM : Mch n m (nbOf n E) x.1 x.2
  hL : ∀ i : Nat, 0 ≤ gi x.1 i ↔ (P.any fun q => decide (q.1 = (i : Int))) = true
  hR : ∀ i : Nat, 0 ≤ gi x.2 i ↔ (P.any fun q => decide (q.2 = (i : Int))) = true
  hp : ∀ p ∈ P, gi x.1 p.1.toNat = p.2
  hE : ∀ p ∈ P, p ∈ E
  h1 : (P.map (·.1)).Nodup
  h2 : (P.map (·.2)).Nodup
theorem nodup_of_map {α β : Type} {f : α → β} {l : List α} (h : (l.map f).Nodup) : l.Nodup :=
  List.Pairwise.imp (fun h e => h (by rw [e])) (List.pairwise_map.1 h)
theorem PlI.len {n m : Nat} {E P : List (Int × Int)} {x : List Int × List Int} (hE : ∀ e ∈ E, edgeIn n m e = true) (h : PlI n m E P x) : P.length = cnt (pL x.1) n := by
  rw [← prsL_len h.hM.hL]
  refine Nat.le_antisymm (nodup_sub (nodup_of_map h.h1) fun p hp => ?_) (nodup_sub (nodup_of_map (isMat_iff.1 (mch_mat h.hM hE)).2.1) fun p hp => ?_)
  · have h1 := h.hp p hp
    have hr := edgeIn_iff.1 (hE p (h.hE p hp))
    exact (prsL_mem h.hM.hL p).2 ⟨p.1.toNat, by omega, by omega, by rw [h1, Int.toNat_of_nonneg hr.1]⟩
  · obtain ⟨i, h1, h2, rfl⟩ := (prsL_mem h.hM.hL p).1 hp
    have h3 := (h.hL i).1 h2
    rw [List.any_eq_true] at h3
    obtain ⟨q, hq, e⟩ := h3
    rw [decide_eq_true_eq] at e
    have h4 := h.hp q hq
    rw [e, Int.toNat_natCast] at h4
    have : ((i : Int), gi x.1 i) = q := by
      obtain ⟨q1, q2⟩ := q
      simp only at e h4
      rw [e, h4]
    rw [this]; exact hq
end Go.AM

namespace Go.Proofs.M
open Go.AM Go
set_option maxRecDepth 100000
set_option maxHeartbeats 2000000
end Go.Proofs.M

namespace Go.Proofs.M
open Go.AM Go
set_option maxRecDepth 100000
set_option maxHeartbeats 2000000
end Go.Proofs.M

namespace Go.Proofs.M
open Go.AM Go
set_option maxRecDepth 100000
set_option maxHeartbeats 2000000
end Go.Proofs.M

namespace Go.Proofs.M
open Go.AM Go
set_option maxRecDepth 100000
set_option maxHeartbeats 2000000
end Go.Proofs.M

namespace Go.Proofs.M
open Go.AM Go
set_option maxRecDepth 100000
set_option maxHeartbeats 2000000
theorem Gd.rchS {n m : Nat} {E : List (Int × Int)} (h : Gd n m E) : Rch n m E (maxLR (nbOf n E) n m n).1 (maxLR (nbOf n E) n m n).2 (fun i => (refM n m E).1.getD i false) (fun i => (refM n m E).2.getD i false) :=
  ⟨h.max.1, h.max.2, h.hE, h.ref.2.2.1, h.ref.2.2.2⟩
theorem maxP_cnt {n m : Nat} {E : List (Int × Int)} (h : Gd n m E) : (maxP n m E).length = cnt (pL (maxLR (nbOf n E) n m n).1) n := prsL_len h.max.1.hL
end Go.Proofs.M

/- Masks of left nodes, and their deficiencies. -/
namespace Go.AM
theorem shr64 {w k : Nat} (hk : k < 64) : bShr .i64 (w : Int) (k : Int) = ((w >>> k : Nat) : Int) := by
  unfold bShr
  have : min (k : Int).toNat IntKind.i64.bits = k := by simp [IntKind.bits]; omega
  rw [this, Nat.shiftRight_eq_div_pow, Int.fdiv_eq_ediv_of_nonneg _ (by exact_mod_cast Nat.zero_le _)]
  norm_cast
theorem and64 {a b : Nat} (ha : a < 9223372036854775808) (hb : b < 9223372036854775808) : bAnd .i64 (a : Int) (b : Int) = ((a &&& b : Nat) : Int) := by
  unfold bAnd
  have e : (BitVec.ofInt IntKind.i64.bits (a : Int) &&& BitVec.ofInt IntKind.i64.bits (b : Int)).toNat = a &&& b := by
    show (BitVec.ofInt 64 (a : Int) &&& BitVec.ofInt 64 (b : Int) : BitVec 64).toNat = _
    rw [BitVec.toNat_and, BitVec.ofInt_natCast, BitVec.ofInt_natCast, BitVec.toNat_ofNat, BitVec.toNat_ofNat, Nat.mod_eq_of_lt (by omega), Nat.mod_eq_of_lt (by omega)]
  rw [e]
  have : a &&& b < 2 ^ 63 := Nat.and_lt_two_pow _ (by omega)
  simp [IntKind.wrap, IntKind.signed, IntKind.bits]
  omega
theorem shl64 {k : Nat} (hk : k < 62) : bShl .i64 1 (k : Int) = ((2 ^ k : Nat) : Int) := by
  unfold bShl
  have : min (k : Int).toNat IntKind.i64.bits = k := by simp [IntKind.bits]; omega
  rw [this]
  have h : (2 : Nat) ^ k < 2 ^ 62 := Nat.pow_lt_pow_right (by decide) hk
  have h2 : (1 : Int) * 2 ^ k = ((2 ^ k : Nat) : Int) := by rw [Int.one_mul]; norm_cast
  rw [h2]
  generalize 2 ^ k = p at h ⊢
  have h3 : p < 4611686018427387904 := by simpa using h
  simp [IntKind.wrap, IntKind.signed, IntKind.bits]
  omega
theorem bit64 {k i : Nat} (hk : k < 9223372036854775808) (hi : i < 64) : decide (bAnd .i64 (bShr .i64 (k : Int) (i : Int)) 1 = 1) = k.testBit i := by
  have hs : k >>> i ≤ k := by rw [Nat.shiftRight_eq_div_pow]; exact Nat.div_le_self _ _
  rw [shr64 hi, show (1 : Int) = ((1 : Nat) : Int) from rfl, and64 (by omega) (by decide), Nat.and_one_is_mod, Nat.testBit_eq_decide_div_mod_eq, Nat.shiftRight_eq_div_pow]
  exact decide_eq_decide.2 (by omega)
def maskF (n k : Nat) : List Bool := (List.range n).map fun i => k.testBit i
theorem maskF_len (n k : Nat) : (maskF n k).length = n := by simp [maskF]
theorem maskF_get {n k i : Nat} (h : i < n) : (maskF n k).getD i false = k.testBit i := by
  unfold maskF
  rw [List.getD_eq_getElem?_getD, List.getElem?_map, List.getElem?_range h]; rfl
theorem cnt_add {p : Nat → Bool} {a : Nat} (ha : p a = false) : ∀ {m : Nat}, a < m → cnt (fun r => p r || decide (r = a)) m = cnt p m + 1
  | 0, h => by omega
  | m + 1, h => by
    rw [cnt_succ, cnt_succ]
    by_cases e : a = m
    · subst e
      have : cnt (fun r => p r || decide (r = a)) a = cnt p a := cnt_congr fun i hi => by simp [show ¬ i = a by omega]
      rw [this, ha]; simp
    · rw [cnt_add ha (m := m) (by omega)]
      have : ¬ m = a := by omega
      simp only [this, decide_false, Bool.or_false]
      split <;> omega
def nearF (m : Nat) (E : List (Int × Int)) (X : Nat → Bool) : List Bool := (List.range m).map (nbX E X)
theorem nearF_len (m : Nat) (E : List (Int × Int)) (X : Nat → Bool) : (nearF m E X).length = m := by simp [nearF]
theorem nearF_get {m : Nat} {E : List (Int × Int)} {X : Nat → Bool} {r : Nat} (h : r < m) : (nearF m E X).getD r false = nbX E X r := by
  unfold nearF
  rw [List.getD_eq_getElem?_getD, List.getElem?_map, List.getElem?_range h]; rfl
theorem nbX_snoc (E : List (Int × Int)) (e : Int × Int) (X : Nat → Bool) (r : Nat) : nbX (E ++ [e]) X r = (nbX E X r || (X e.1.toNat && decide (e.2 = (r : Int)))) := by simp [nbX]
theorem near_same {m : Nat} {E : List (Int × Int)} {e : Int × Int} {X : Nat → Bool} (h0 : 0 ≤ e.2) (h : (X e.1.toNat && !nbX E X e.2.toNat) = false) : nearF m (E ++ [e]) X = nearF m E X ∧ cnt (nbX (E ++ [e]) X) m = cnt (nbX E X) m := by
  have hx : ∀ r, nbX (E ++ [e]) X r = nbX E X r := fun r => by
    rw [nbX_snoc]
    cases hX : X e.1.toNat with
    | false => simp
    | true =>
      rw [hX] at h
      by_cases e2 : e.2 = (r : Int)
      · rw [e2, Int.toNat_natCast] at h
        have : nbX E X r = true := by simpa using h
        rw [this]; rfl
      · simp [e2]
  exact ⟨by unfold nearF; exact List.map_congr_left fun r _ => hx r, cnt_congr fun r _ => hx r⟩
theorem near_new {m : Nat} {E : List (Int × Int)} {e : Int × Int} {X : Nat → Bool} (h0 : 0 ≤ e.2) (h1 : e.2 < (m : Int)) (hX : X e.1.toNat = true) (hn : nbX E X e.2.toNat = false) : (nearF m E X).set e.2.toNat true = nearF m (E ++ [e]) X ∧ cnt (nbX (E ++ [e]) X) m = cnt (nbX E X) m + 1 := by
  have hx : ∀ r, nbX (E ++ [e]) X r = (nbX E X r || decide (r = e.2.toNat)) := fun r => by
    rw [nbX_snoc, hX, Bool.true_and]
    congr 1
    exact decide_eq_decide.2 (by omega)
  refine ⟨getD_extB (by simp [nearF]) fun r hr => ?_, ?_⟩
  · simp only [List.length_set, nearF_len] at hr
    rw [getD_setB, nearF_get hr, nearF_get hr, hx r, nearF_len]
    by_cases e2 : e.2.toNat = r
    · rw [if_pos (by omega)]; simp [e2]
    · rw [if_neg (by omega)]
      have : ¬ r = e.2.toNat := fun h => e2 h.symm
      simp [this]
  · rw [show nbX (E ++ [e]) X = fun r => nbX E X r || decide (r = e.2.toNat) from funext hx]
    exact cnt_add hn (by omega)

/-- The loop over all masks. -/
def lstep (d : Nat → Int) (k : Nat) (x : Int × Nat) : Int × Nat := if x.1 < d k then (d k, k) else if d k = x.1 then (x.1, x.2 &&& k) else x
def lrun (d : Nat → Int) (n : Nat) : Nat → Int × Nat
  | 0 => (0, 2 ^ n - 1)
  | k + 1 => lstep d k (lrun d n k)
structure LIv (d : Nat → Int) (n K : Nat) (x : Int × Nat) : Prop where
  h0 : 0 ≤ x.1
  h1 : ∀ k, k < K → d k ≤ x.1
  h2 : x.1 = 0 ∨ ∃ k, k < K ∧ d k = x.1
  h3 : x.2 < 2 ^ n
  h4 : 0 < x.1 → ∀ i, x.2.testBit i = true ↔ ∀ k, k < K → d k = x.1 → k.testBit i = true
theorem lrun_iv (d : Nat → Int) (n : Nat) : ∀ K, K ≤ 2 ^ n → LIv d n K (lrun d n K)
  | 0, _ => ⟨Int.le_refl _, fun k hk => by omega, .inl rfl, by show 2 ^ n - 1 < 2 ^ n; have := Nat.two_pow_pos n; omega, fun h => by simp [lrun] at h⟩
  | K + 1, hK => by
    have ih := lrun_iv d n K (by omega)
    show LIv d n (K + 1) (lstep d K (lrun d n K))
    generalize lrun d n K = x at *
    unfold lstep
    have hp := ih.h0
    have hk := ih.h1
    by_cases c1 : x.1 < d K
    · rw [if_pos c1]
      refine ⟨by simp only; omega, fun k h => ?_, .inr ⟨K, by omega, rfl⟩, by simp only; omega, fun _ i => ⟨fun h k hk2 e => ?_, fun h => h K (by omega) rfl⟩⟩
      · simp only
        by_cases e : k = K
        · subst e; exact Int.le_refl _
        · have := hk k (by omega); omega
      · simp only at e h
        by_cases e2 : k = K
        · subst e2; exact h
        · have := hk k (by omega); omega
    · rw [if_neg c1]
      by_cases c2 : d K = x.1
      · rw [if_pos c2]
        refine ⟨hp, fun k h => ?_, ?_, ?_, fun h i => ?_⟩
        · by_cases e : k = K
          · subst e; simp only; omega
          · exact hk k (by omega)
        · exact .inr ⟨K, by omega, c2⟩
        · exact Nat.lt_of_le_of_lt Nat.and_le_left ih.h3
        · simp only at h ⊢
          rw [Nat.testBit_and, Bool.and_eq_true, ih.h4 h i]
          constructor
          · rintro ⟨h1, h2⟩ k hk2 e
            by_cases e2 : k = K
            · subst e2; exact h2
            · exact h1 k (by omega) e
          · intro h1
            exact ⟨fun k hk2 e => h1 k (by omega) e, h1 K (by omega) c2⟩
      · rw [if_neg c2]
        refine ⟨hp, fun k h => ?_, ?_, ih.h3, fun h i => ?_⟩
        · by_cases e : k = K
          · subst e; omega
          · exact hk k (by omega)
        · rcases ih.h2 with h | ⟨k, h1, h2⟩
          · exact .inl h
          · exact .inr ⟨k, by omega, h2⟩
        · rw [ih.h4 h i]
          constructor
          · intro h1 k hk2 e
            by_cases e2 : k = K
            · subst e2; exact absurd e c2
            · exact h1 k (by omega) e
          · intro h1 k hk2 e
            exact h1 k (by omega) e
def defM (n m : Nat) (E : List (Int × Int)) (k : Nat) : Int := (cnt (fun i => k.testBit i) n : Int) - (cnt (nbX E fun i => k.testBit i) m : Int)
theorem nbX_congr {n : Nat} {m : Int} {E : List (Int × Int)} (hE : ∀ e ∈ E, edgeIn n m e = true) {X Y : Nat → Bool} (h : ∀ i, i < n → X i = Y i) (r : Nat) : nbX E X r = nbX E Y r := by
  have : nbX E X r = true ↔ nbX E Y r = true := by
    rw [nbX_iff, nbX_iff]
    constructor <;> rintro ⟨e, he, h1, h2⟩ <;> refine ⟨e, he, ?_, h2⟩ <;> have hr := edgeIn_iff.1 (hE e he)
    · rw [← h _ (by omega)]; exact h1
    · rw [h _ (by omega)]; exact h1
  cases h1 : nbX E X r <;> cases h2 : nbX E Y r <;> simp_all
/-- What the masks say of a maximum matching. -/
theorem Rch.masks {n m : Nat} {E : List (Int × Int)} {L R : List Int} {b : List Bool} {T : Nat → Bool} (h : Rch n m E L R (fun i => b.getD i false) T) (hb : b.length = n) (hn : n ≤ 60) :
    (lrun (defM n m E) n (2 ^ n)).1 = (n : Int) - (cnt (pL L) n : Int) ∧ (0 < (lrun (defM n m E) n (2 ^ n)).1 → ∀ i, i < n → (lrun (defM n m E) n (2 ^ n)).2.testBit i = b.getD i false) := by
  have hI := lrun_iv (defM n m E) n (2 ^ n) (Nat.le_refl _)
  generalize lrun (defM n m E) n (2 ^ n) = x at *
  have hnt := cnt_not (pL L) n
  have hle : ∀ k, defM n m E k ≤ (n : Int) - (cnt (pL L) n : Int) := fun k => by
    have := (h.hall fun i => k.testBit i).1
    unfold defM; omega
  by_cases h0 : n = 0
  · subst h0
    have hz : cnt (pL L) 0 = 0 := rfl
    refine ⟨?_, fun _ i hi => by omega⟩
    have h0 := hI.h0
    rcases hI.h2 with h2 | ⟨k, _, h2⟩
    · omega
    · have := hle k; omega
  · obtain ⟨z, _, hz2, hz3⟩ := setW_mask (b := b) (by omega) (by omega)
    rw [hb] at hz2 hz3
    have hdz : defM n m E z = (n : Int) - (cnt (pL L) n : Int) := by
      have h1 := h.hallS
      have e1 : cnt (fun i => z.testBit i) n = cnt (fun i => b.getD i false) n := cnt_congr fun i hi => hz3 i hi
      have e2 : cnt (nbX E fun i => z.testBit i) m = cnt (nbX E fun i => b.getD i false) m := cnt_congr fun r _ => nbX_congr h.hE (fun i hi => hz3 i hi) r
      unfold defM
      rw [e1, e2]; omega
    have hx : x.1 = (n : Int) - (cnt (pL L) n : Int) := by
      have h1 := hI.h1 z hz2
      have h0 := hI.h0
      rcases hI.h2 with h2 | ⟨k, _, h2⟩
      · omega
      · have := hle k; omega
    refine ⟨hx, fun hp i hi => ?_⟩
    have h4 := hI.h4 hp i
    cases hbi : b.getD i false with
    | true =>
      rw [h4]
      intro k hk e
      have := (h.hall fun i => k.testBit i).2 (by unfold defM at e; omega) i hbi
      exact this
    | false =>
      cases hxi : x.2.testBit i with
      | false => rfl
      | true =>
        have := h4.1 hxi z hz2 (by rw [hdz, hx])
        rw [hz3 i hi, hbi] at this; cases this
end Go.AM

namespace Go.Proofs.M
open Go.AM Go
set_option maxRecDepth 100000
set_option maxHeartbeats 2000000
theorem defic_r {n m : Nat} {E : List (Int × Int)} (hE : ∀ e ∈ E, edgeIn n m e = true) (hl : E.length ≤ 2000) (hn : n ≤ 512) (hm : m ≤ 512) (X : List Bool) (hX : X.length = n) :
    Reads Try.prog 22 false [.int .i64 m, .rsl 2 (E.map pairV), .rsl 1 (bools X)] (.int .i64 ((cnt (fun i => X.getD i false) n : Int) - (cnt (nbX E fun i => X.getD i false) m : Int))) := by
  have hz : List.replicate m [AV.bool false] = bools (nearF m [] fun i => X.getD i false) := by
    unfold nearF nbX bools
    rw [List.map_map]
    exact List.ext_getElem (by simp) fun i h1 h2 => by simp
  generalize hXf : (fun i => X.getD i false) = Xf at *
  have hXg : ∀ i, X.getD i false = Xf i := fun i => by rw [← hXf]
  clear hXf
  refine Reads.body (rs := [.tmp 6]) Try.func22 rfl Try.ntmps22 rfl (by simp) ?_
  generalize hQr : retQ _ _ _ = Qr
  refine AW.seq fun K1 hK1 => ?_
  -- region 0
  refine AW.regionK 0 (fun _ => none) [0, 1, 2] [] ?_
  simp only [go_sem, reduceIte, reduceCtorEq, Nat.reduceAdd, Nat.reduceMul, Nat.reduceEqDiff, Nat.reduceLT, Nat.reduceLeDiff, Nat.reduceSub, Nat.reducePow, Nat.reduceBEq, Int.reduceToNat, List.reduceReplicate, bools_len, hX, hz]
  repeat with_reducible refine cj ?_ ?_
  all_goals try first | omega
  refine hK1 _ _ _ ?_; clear hK1
  refine AW.seq fun K2 hK2 => ?_
  -- region 1
  refine AW.regionK 0 (fun _ => none) [1, 2, 7] [12] ?_
  simp only [go_sem, reduceIte, reduceCtorEq, Nat.reduceAdd, Nat.reduceMul, Nat.reduceEqDiff, Nat.reduceLT, Nat.reduceLeDiff, Nat.reduceSub, Nat.reducePow, Nat.reduceBEq, Int.reduceToNat, List.reduceReplicate, bools_len, hX, hz]
  repeat with_reducible refine cj ?_ ?_
  all_goals try first | omega
  refine hK2 _ _ _ ?_; clear hK2
  refine AW.seq fun K3 hK3 => ?_
  -- region 2
  refine AW.regionK 0 (fun _ => none) [1, 2, 7, 8] [12] ?_
  simp only [go_sem, reduceIte, reduceCtorEq, Nat.reduceAdd, Nat.reduceMul, Nat.reduceEqDiff, Nat.reduceLT, Nat.reduceLeDiff, Nat.reduceSub, Nat.reducePow, Nat.reduceBEq, Int.reduceToNat, List.reduceReplicate, bools_len, hX, hz]
  repeat with_reducible refine cj ?_ ?_
  all_goals try first | omega
  refine hK3 _ _ _ ?_; clear hK3
  refine AW.seq fun K4 hK4 => ?_
  refine AW.seq fun K5 hK5 => ?_
  -- region 3
  refine AW.regionK 0 (fun _ => none) [1, 2, 7, 8, 9] [12] ?_
  simp only [go_sem, reduceIte, reduceCtorEq, Nat.reduceAdd, Nat.reduceMul, Nat.reduceEqDiff, Nat.reduceLT, Nat.reduceLeDiff, Nat.reduceSub, Nat.reducePow, Nat.reduceBEq, Int.reduceToNat, List.reduceReplicate, bools_len, hX, hz]
  repeat with_reducible refine cj ?_ ?_
  all_goals try first | omega
  refine hK5 _ _ _ ?_; clear hK5
  refine AW.block ?_
  -- loop 1
  refine AW.loopE (fun mm ee ss kk => ∃ (j g v : Nat), n - j = mm ∧ ee = [(1, .rsl 2 (E.map pairV)), (2, .rsl 1 (bools X)), (7, .sl ⟨12, g, none⟩ 0 m none), (8, .int .i64 (cnt Xf j : Nat)), (9, .int .i64 (j : Nat))] ∧ ss = [(12, some ⟨g, v, 1, bools (nearF m [] Xf)⟩)] ∧ (j ≤ n)) ?_ ?_
  · refine ⟨_, 0, ?_, ?_, rfl, ?henv, ?hstore, ?hst⟩
    case henv =>
      repeat' (first | rfl | refine env_cons ?_ ?_ | refine st_cons ?_ ?_ ?_ ?_ | refine int_eq ?_ | refine bool_eq ?_ | refine rsl_eq ?_ | refine osl_eq ?_ | refine sl_eq ?_ ?_ ?_ | refine ptr_eq ?_ ?_ ?_ | refine agg_eq ?_ | refine es_cons ?_ ?_ | refine row_cons ?_ ?_)
      all_goals (first | (simp; done) | omega | (simp; omega))
    case hstore =>
      repeat' (first | rfl | refine env_cons ?_ ?_ | refine st_cons ?_ ?_ ?_ ?_ | refine int_eq ?_ | refine bool_eq ?_ | refine rsl_eq ?_ | refine osl_eq ?_ | refine sl_eq ?_ ?_ ?_ | refine ptr_eq ?_ ?_ ?_ | refine agg_eq ?_ | refine es_cons ?_ ?_ | refine row_cons ?_ ?_)
      all_goals (first | (simp; done) | omega | (simp; omega))
    case hst =>
      first | trivial | omega | (simp; done) | (simp; omega)
  rintro mm ee ss kk ⟨j, g, v, rfl, rfl, rfl, hI⟩
  generalize hQl1 : thenQ _ _ = Ql1
  refine AW.seq fun K6 hK6 => ?_
  refine AW.seq fun K7 hK7 => ?_
  -- region 4
  refine AW.regionK 0 (fun _ => none) [1, 2, 7, 8, 9, 16] [12] ?_
  simp only [go_sem, reduceIte, reduceCtorEq, Nat.reduceAdd, Nat.reduceMul, Nat.reduceEqDiff, Nat.reduceLT, Nat.reduceLeDiff, Nat.reduceSub, Nat.reducePow, Nat.reduceBEq, Int.reduceToNat, List.reduceReplicate, bools_len, hX, hz]
  repeat with_reducible refine cj ?_ ?_
  all_goals try first | omega
  refine hK7 _ _ _ ?_; clear hK7
  -- cond 1
  refine AW.cond rfl (by simp only [go_sem, reduceIte, reduceCtorEq, Nat.reduceAdd, Nat.reduceMul, Nat.reduceEqDiff, Nat.reduceLT, Nat.reduceLeDiff, Nat.reduceSub, Nat.reducePow, Nat.reduceBEq, Int.reduceToNat, List.reduceReplicate]) ?_ ?_
  · intro hb
    try simp only [hB, decide_eq_true_eq, decide_eq_false_iff_not] at hb
    have hgx := bools_getD (l := X) (i := j) (by omega)
    rw [hXg] at hgx
    have hcs := cnt_succ Xf j
    have hcl := cnt_le Xf j
    refine AW.skip ?_
    refine hK6 _ _ _ ?_; clear hK6
    refine AW.seq fun K8 hK8 => ?_
    refine AW.block ?_
    refine AW.seq fun K9 hK9 => ?_
    -- region 6
    refine AW.regionK 0 (fun _ => none) [1, 2, 7, 8, 9, 22] [12] ?_
    simp only [go_sem, reduceIte, reduceCtorEq, Nat.reduceAdd, Nat.reduceMul, Nat.reduceEqDiff, Nat.reduceLT, Nat.reduceLeDiff, Nat.reduceSub, Nat.reducePow, Nat.reduceBEq, Int.reduceToNat, List.reduceReplicate, bools_len, hX, hz, hgx]
    repeat with_reducible refine cj ?_ ?_
    all_goals try first | omega
    refine hK9 _ _ _ ?_; clear hK9
    -- cond 2
    refine AW.cond rfl (by simp only [go_sem, reduceIte, reduceCtorEq, Nat.reduceAdd, Nat.reduceMul, Nat.reduceEqDiff, Nat.reduceLT, Nat.reduceLeDiff, Nat.reduceSub, Nat.reducePow, Nat.reduceBEq, Int.reduceToNat, List.reduceReplicate]) ?_ ?_
    · intro hb
      try simp only [hB, decide_eq_true_eq, decide_eq_false_iff_not] at hb
      rw [if_pos hb] at hcs
      -- region 7
      refine AW.regionK 0 (fun _ => none) [1, 2, 7, 8, 9] [12] ?_
      simp only [go_sem, reduceIte, reduceCtorEq, Nat.reduceAdd, Nat.reduceMul, Nat.reduceEqDiff, Nat.reduceLT, Nat.reduceLeDiff, Nat.reduceSub, Nat.reducePow, Nat.reduceBEq, Int.reduceToNat, List.reduceReplicate, bools_len, hX, hz]
      repeat with_reducible refine cj ?_ ?_
      all_goals try first | omega
      refine hK8 _ _ _ ?_; clear hK8
      -- region 5
      refine AW.regionK 0 (fun _ => none) [1, 2, 7, 8, 9] [12] ?_
      simp only [go_sem, reduceIte, reduceCtorEq, Nat.reduceAdd, Nat.reduceMul, Nat.reduceEqDiff, Nat.reduceLT, Nat.reduceLeDiff, Nat.reduceSub, Nat.reducePow, Nat.reduceBEq, Int.reduceToNat, List.reduceReplicate, bools_len, hX, hz]
      repeat with_reducible refine cj ?_ ?_
      all_goals try first | omega
      rw [← hQl1]
      change Exists _
      refine ⟨_, ?hm, j + 1, ?_, ?_, rfl, ?henv, ?hstore, ?hst⟩
      case henv =>
        repeat' (first | rfl | refine env_cons ?_ ?_ | refine st_cons ?_ ?_ ?_ ?_ | refine int_eq ?_ | refine bool_eq ?_ | refine rsl_eq ?_ | refine osl_eq ?_ | refine sl_eq ?_ ?_ ?_ | refine ptr_eq ?_ ?_ ?_ | refine agg_eq ?_ | refine es_cons ?_ ?_ | refine row_cons ?_ ?_)
        all_goals (first | (rw [hcs]; done) | (rw [hcs]; simp; done) | (simp; done) | omega)
      case hstore =>
        repeat' (first | rfl | refine env_cons ?_ ?_ | refine st_cons ?_ ?_ ?_ ?_ | refine int_eq ?_ | refine bool_eq ?_ | refine rsl_eq ?_ | refine osl_eq ?_ | refine sl_eq ?_ ?_ ?_ | refine ptr_eq ?_ ?_ ?_ | refine agg_eq ?_ | refine es_cons ?_ ?_ | refine row_cons ?_ ?_)
        all_goals (first | (simp; done) | omega | (simp; omega))
      case hst =>
        first | trivial | omega | (simp; done) | (simp; omega)
      case hm => omega
    · intro hb
      try simp only [hB, decide_eq_true_eq, decide_eq_false_iff_not] at hb
      rw [if_neg (by rw [hb]; simp)] at hcs
      refine AW.skip ?_
      refine hK8 _ _ _ ?_; clear hK8
      -- region 5
      refine AW.regionK 0 (fun _ => none) [1, 2, 7, 8, 9] [12] ?_
      simp only [go_sem, reduceIte, reduceCtorEq, Nat.reduceAdd, Nat.reduceMul, Nat.reduceEqDiff, Nat.reduceLT, Nat.reduceLeDiff, Nat.reduceSub, Nat.reducePow, Nat.reduceBEq, Int.reduceToNat, List.reduceReplicate, bools_len, hX, hz]
      repeat with_reducible refine cj ?_ ?_
      all_goals try first | omega
      rw [← hQl1]
      change Exists _
      refine ⟨_, ?hm, j + 1, ?_, ?_, rfl, ?henv, ?hstore, ?hst⟩
      case henv =>
        repeat' (first | rfl | refine env_cons ?_ ?_ | refine st_cons ?_ ?_ ?_ ?_ | refine int_eq ?_ | refine bool_eq ?_ | refine rsl_eq ?_ | refine osl_eq ?_ | refine sl_eq ?_ ?_ ?_ | refine ptr_eq ?_ ?_ ?_ | refine agg_eq ?_ | refine es_cons ?_ ?_ | refine row_cons ?_ ?_)
        all_goals (first | (rw [hcs]; done) | (rw [hcs]; simp; done) | (simp; done) | omega)
      case hstore =>
        repeat' (first | rfl | refine env_cons ?_ ?_ | refine st_cons ?_ ?_ ?_ ?_ | refine int_eq ?_ | refine bool_eq ?_ | refine rsl_eq ?_ | refine osl_eq ?_ | refine sl_eq ?_ ?_ ?_ | refine ptr_eq ?_ ?_ ?_ | refine agg_eq ?_ | refine es_cons ?_ ?_ | refine row_cons ?_ ?_)
        all_goals (first | (simp; done) | omega | (simp; omega))
      case hst =>
        first | trivial | omega | (simp; done) | (simp; omega)
      case hm => omega
  · intro hb
    try simp only [hB, decide_eq_true_eq, decide_eq_false_iff_not] at hb
    have hj : n = j := by omega
    subst hj
    have e0 : cnt (nbX (List.take 0 E) Xf) m = 0 := by
      unfold cnt
      rw [List.length_eq_zero_iff, List.filter_eq_nil_iff]
      intro a _
      simp [nbX]
    refine AW.keep [1, 2, 7, 8] [12] ?_
    try simp only [go_sem, reduceIte, reduceCtorEq, Nat.reduceAdd, Nat.reduceMul, Nat.reduceEqDiff, Nat.reduceLT, Nat.reduceLeDiff, Nat.reduceSub, Nat.reducePow, Nat.reduceBEq, Int.reduceToNat, List.reduceReplicate]
    refine AW.exit ?_
    rw [← hQl1]
    refine hK4 _ _ _ ?_; clear hK4
    refine AW.seq fun K10 hK10 => ?_
    refine AW.seq fun K11 hK11 => ?_
    -- region 8
    refine AW.regionK 0 (fun _ => none) [1, 2, 7, 8, 10] [12] ?_
    simp only [go_sem, reduceIte, reduceCtorEq, Nat.reduceAdd, Nat.reduceMul, Nat.reduceEqDiff, Nat.reduceLT, Nat.reduceLeDiff, Nat.reduceSub, Nat.reducePow, Nat.reduceBEq, Int.reduceToNat, List.reduceReplicate, bools_len, hX, hz]
    repeat with_reducible refine cj ?_ ?_
    all_goals try first | omega
    refine hK11 _ _ _ ?_; clear hK11
    refine AW.block ?_
    -- loop 2
    refine AW.loopE (fun mm ee ss kk => ∃ (j g v : Nat), E.length - j = mm ∧ ee = [(1, .rsl 2 (E.map pairV)), (2, .rsl 1 (bools X)), (7, .sl ⟨12, g, none⟩ 0 m none), (8, .int .i64 ((cnt Xf n : Int) - (cnt (nbX (E.take j) Xf) m : Int))), (10, .int .i64 (j : Nat))] ∧ ss = [(12, some ⟨g, v, 1, bools (nearF m (E.take j) Xf)⟩)] ∧ (j ≤ E.length)) ?_ ?_
    · refine ⟨_, 0, ?_, ?_, rfl, ?henv, ?hstore, ?hst⟩
      case henv =>
        repeat' (first | rfl | refine env_cons ?_ ?_ | refine st_cons ?_ ?_ ?_ ?_ | refine int_eq ?_ | refine bool_eq ?_ | refine rsl_eq ?_ | refine osl_eq ?_ | refine sl_eq ?_ ?_ ?_ | refine ptr_eq ?_ ?_ ?_ | refine agg_eq ?_ | refine es_cons ?_ ?_ | refine row_cons ?_ ?_)
        all_goals (first | omega | (simp; done))
      case hstore =>
        repeat' (first | rfl | refine env_cons ?_ ?_ | refine st_cons ?_ ?_ ?_ ?_ | refine int_eq ?_ | refine bool_eq ?_ | refine rsl_eq ?_ | refine osl_eq ?_ | refine sl_eq ?_ ?_ ?_ | refine ptr_eq ?_ ?_ ?_ | refine agg_eq ?_ | refine es_cons ?_ ?_ | refine row_cons ?_ ?_)
        all_goals (first | (simp; done) | omega | (simp; omega))
      case hst =>
        first | trivial | omega | (simp; done) | (simp; omega)
    rintro mm ee ss kk ⟨j, g, v, rfl, rfl, rfl, hI⟩
    generalize hQl2 : thenQ _ _ = Ql2
    have hcn := cnt_le Xf n
    have hcm := cnt_le (nbX (E.take j) Xf) m
    refine AW.seq fun K12 hK12 => ?_
    refine AW.seq fun K13 hK13 => ?_
    -- region 9
    refine AW.regionK 0 (fun _ => none) [1, 2, 7, 8, 10, 28] [12] ?_
    simp only [go_sem, reduceIte, reduceCtorEq, Nat.reduceAdd, Nat.reduceMul, Nat.reduceEqDiff, Nat.reduceLT, Nat.reduceLeDiff, Nat.reduceSub, Nat.reducePow, Nat.reduceBEq, Int.reduceToNat, List.reduceReplicate, bools_len, hX, hz]
    repeat with_reducible refine cj ?_ ?_
    all_goals try first | omega
    refine hK13 _ _ _ ?_; clear hK13
    -- cond 3
    refine AW.cond rfl (by simp only [go_sem, reduceIte, reduceCtorEq, Nat.reduceAdd, Nat.reduceMul, Nat.reduceEqDiff, Nat.reduceLT, Nat.reduceLeDiff, Nat.reduceSub, Nat.reducePow, Nat.reduceBEq, Int.reduceToNat, List.reduceReplicate]) ?_ ?_
    · intro hb
      try simp only [hB, decide_eq_true_eq, decide_eq_false_iff_not] at hb
      obtain ⟨e, he⟩ := getI (l := E) (j := j) (by omega)
      have hge := getV (f := pairV) he
      have hr := edgeIn_iff.1 (hE e (List.mem_of_getElem? he))
      have hts : E.take (j + 1) = E.take j ++ [e] := by rw [List.take_add_one, he]; rfl
      have hg1 := bools_getD (l := X) (i := e.1.toNat) (by omega)
      rw [hXg] at hg1
      have hnl := nearF_len m (E.take j) Xf
      have hg2 := bools_getD (l := nearF m (E.take j) Xf) (i := e.2.toNat) (by omega)
      rw [nearF_get (by omega)] at hg2
      have hus := bools_upd (nearF m (E.take j) Xf) e.2.toNat true
      refine AW.skip ?_
      refine hK12 _ _ _ ?_; clear hK12
      refine AW.seq fun K14 hK14 => ?_
      refine AW.block ?_
      refine AW.seq fun K15 hK15 => ?_
      -- region 11
      refine AW.regionK 0 (fun _ => none) [1, 2, 7, 8, 10, 49] [12] ?_
      simp only [go_sem, reduceIte, reduceCtorEq, Nat.reduceAdd, Nat.reduceMul, Nat.reduceEqDiff, Nat.reduceLT, Nat.reduceLeDiff, Nat.reduceSub, Nat.reducePow, Nat.reduceBEq, Int.reduceToNat, List.reduceReplicate, bools_len, hX, hz, hge, pairV, hg1, hg2, hnl]
      repeat with_reducible refine cj ?_ ?_
      all_goals try first | omega | (intros; (repeat' apply And.intro) <;> first | assumption | omega | decide) | (intro hgd; exact absurd hgd (by decide)) | rfl | (simp only [go_sem, reduceIte, reduceCtorEq, Nat.reduceAdd, Nat.reduceMul, Nat.reduceEqDiff, Nat.reduceLT, Nat.reduceLeDiff, Nat.reduceSub, Nat.reducePow, Nat.reduceBEq, Int.reduceToNat, List.reduceReplicate, bools_len, hX, hz, hge, pairV, hg1, hg2, hnl]; done) | (intro _hgd; simp_all [go_sem]; done)
      refine hK15 _ _ _ ?_; clear hK15
      -- cond 4
      refine AW.cond rfl (by simp only [go_sem, reduceIte, reduceCtorEq, Nat.reduceAdd, Nat.reduceMul, Nat.reduceEqDiff, Nat.reduceLT, Nat.reduceLeDiff, Nat.reduceSub, Nat.reducePow, Nat.reduceBEq, Int.reduceToNat, List.reduceReplicate]) ?_ ?_
      · intro hb
        try simp only [hB, decide_eq_true_eq, decide_eq_false_iff_not] at hb
        obtain ⟨hs1, hs2⟩ := near_new (m := m) (E := E.take j) (e := e) (X := Xf) hr.2.2.1 hr.2.2.2 hb.1 (by simpa using hb.2)
        rw [← hts] at hs1 hs2
        refine AW.seq fun K16 hK16 => ?_
        -- region 12
        refine AW.regionK 0 (fun _ => none) [1, 2, 7, 8, 10] [12] ?_
        simp only [go_sem, reduceIte, reduceCtorEq, Nat.reduceAdd, Nat.reduceMul, Nat.reduceEqDiff, Nat.reduceLT, Nat.reduceLeDiff, Nat.reduceSub, Nat.reducePow, Nat.reduceBEq, Int.reduceToNat, List.reduceReplicate, bools_len, hX, hz, hge, pairV, hnl, hus]
        repeat with_reducible refine cj ?_ ?_
        all_goals try first | omega
        refine hK16 _ _ _ ?_; clear hK16
        -- region 13
        refine AW.regionK 0 (fun _ => none) [1, 2, 7, 8, 10] [12] ?_
        simp only [go_sem, reduceIte, reduceCtorEq, Nat.reduceAdd, Nat.reduceMul, Nat.reduceEqDiff, Nat.reduceLT, Nat.reduceLeDiff, Nat.reduceSub, Nat.reducePow, Nat.reduceBEq, Int.reduceToNat, List.reduceReplicate, bools_len, hX, hz]
        repeat with_reducible refine cj ?_ ?_
        all_goals try first | omega
        refine hK14 _ _ _ ?_; clear hK14
        -- region 10
        refine AW.regionK 0 (fun _ => none) [1, 2, 7, 8, 10] [12] ?_
        simp only [go_sem, reduceIte, reduceCtorEq, Nat.reduceAdd, Nat.reduceMul, Nat.reduceEqDiff, Nat.reduceLT, Nat.reduceLeDiff, Nat.reduceSub, Nat.reducePow, Nat.reduceBEq, Int.reduceToNat, List.reduceReplicate, bools_len, hX, hz]
        repeat with_reducible refine cj ?_ ?_
        all_goals try first | omega
        rw [← hQl2]
        change Exists _
        refine ⟨_, ?hm, j + 1, ?_, ?_, rfl, ?henv, ?hstore, ?hst⟩
        case henv =>
          repeat' (first | rfl | refine env_cons ?_ ?_ | refine st_cons ?_ ?_ ?_ ?_ | refine int_eq ?_ | refine bool_eq ?_ | refine rsl_eq ?_ | refine osl_eq ?_ | refine sl_eq ?_ ?_ ?_ | refine ptr_eq ?_ ?_ ?_ | refine agg_eq ?_ | refine es_cons ?_ ?_ | refine row_cons ?_ ?_)
          all_goals (first | omega | (rw [hs2]; done) | (rw [hs2]; simp; omega) | (simp; done))
        case hstore =>
          repeat' (first | rfl | refine env_cons ?_ ?_ | refine st_cons ?_ ?_ ?_ ?_ | refine int_eq ?_ | refine bool_eq ?_ | refine rsl_eq ?_ | refine osl_eq ?_ | refine sl_eq ?_ ?_ ?_ | refine ptr_eq ?_ ?_ ?_ | refine agg_eq ?_ | refine es_cons ?_ ?_ | refine row_cons ?_ ?_)
          all_goals (first | rw [hs1] | rw [← hs1])
        case hst =>
          first | trivial | omega | (simp; done) | (simp; omega)
        case hm => omega
      · intro hb
        try simp only [hB, decide_eq_true_eq, decide_eq_false_iff_not] at hb
        obtain ⟨hs1, hs2⟩ := near_same (m := m) (E := E.take j) (e := e) (X := Xf) hr.2.2.1 (by revert hb; cases Xf e.1.toNat <;> cases nbX (E.take j) Xf e.2.toNat <;> simp)
        rw [← hts] at hs1 hs2
        refine AW.skip ?_
        refine hK14 _ _ _ ?_; clear hK14
        -- region 10
        refine AW.regionK 0 (fun _ => none) [1, 2, 7, 8, 10] [12] ?_
        simp only [go_sem, reduceIte, reduceCtorEq, Nat.reduceAdd, Nat.reduceMul, Nat.reduceEqDiff, Nat.reduceLT, Nat.reduceLeDiff, Nat.reduceSub, Nat.reducePow, Nat.reduceBEq, Int.reduceToNat, List.reduceReplicate, bools_len, hX, hz]
        repeat with_reducible refine cj ?_ ?_
        all_goals try first | omega
        rw [← hQl2]
        change Exists _
        refine ⟨_, ?hm, j + 1, ?_, ?_, rfl, ?henv, ?hstore, ?hst⟩
        case henv =>
          repeat' (first | rfl | refine env_cons ?_ ?_ | refine st_cons ?_ ?_ ?_ ?_ | refine int_eq ?_ | refine bool_eq ?_ | refine rsl_eq ?_ | refine osl_eq ?_ | refine sl_eq ?_ ?_ ?_ | refine ptr_eq ?_ ?_ ?_ | refine agg_eq ?_ | refine es_cons ?_ ?_ | refine row_cons ?_ ?_)
          all_goals (first | omega | (rw [hs2]; done) | (rw [hs2]; simp; omega) | (simp; done))
        case hstore =>
          repeat' (first | rfl | refine env_cons ?_ ?_ | refine st_cons ?_ ?_ ?_ ?_ | refine int_eq ?_ | refine bool_eq ?_ | refine rsl_eq ?_ | refine osl_eq ?_ | refine sl_eq ?_ ?_ ?_ | refine ptr_eq ?_ ?_ ?_ | refine agg_eq ?_ | refine es_cons ?_ ?_ | refine row_cons ?_ ?_)
          all_goals (first | rw [hs1] | rw [← hs1])
        case hst =>
          first | trivial | omega | (simp; done) | (simp; omega)
        case hm => omega
    · intro hb
      try simp only [hB, decide_eq_true_eq, decide_eq_false_iff_not] at hb
      have hj2 : j = E.length := by omega
      rw [hj2, List.take_length]
      refine AW.keep [8] [] ?_
      try simp only [go_sem, reduceIte, reduceCtorEq, Nat.reduceAdd, Nat.reduceMul, Nat.reduceEqDiff, Nat.reduceLT, Nat.reduceLeDiff, Nat.reduceSub, Nat.reducePow, Nat.reduceBEq, Int.reduceToNat, List.reduceReplicate]
      refine AW.exit ?_
      rw [← hQl2]
      refine hK10 _ _ _ ?_; clear hK10
      refine AW.seq fun K17 hK17 => ?_
      -- region 14
      refine AW.regionK 0 (fun _ => none) [6] [] ?_
      simp only [go_sem, reduceIte, reduceCtorEq, Nat.reduceAdd, Nat.reduceMul, Nat.reduceEqDiff, Nat.reduceLT, Nat.reduceLeDiff, Nat.reduceSub, Nat.reducePow, Nat.reduceBEq, Int.reduceToNat, List.reduceReplicate, bools_len, hX, hz]
      repeat with_reducible refine cj ?_ ?_
      all_goals try first | omega
      refine hK17 _ _ _ ?_; clear hK17
      refine AW.ret ?_
      rw [← hQr]
      simp only [go_sem, reduceIte, reduceCtorEq, Nat.reduceAdd, Nat.reduceMul, Nat.reduceEqDiff, Nat.reduceLT, Nat.reduceLeDiff, Nat.reduceSub, Nat.reducePow, Nat.reduceBEq, Int.reduceToNat, List.reduceReplicate, bools_len, hX, hz]
      exact Wk.refl _
theorem defic_m {n m : Nat} {E : List (Int × Int)} (h : Gd n m E) (k : Nat) : Reads Try.prog 22 false [.int .i64 m, .rsl 2 (E.map pairV), .rsl 1 (bools (maskF n k))] (.int .i64 (defM n m E k)) := by
  have h1 := defic_r h.hE h.hl h.hn h.hm (maskF n k) (maskF_len n k)
  have e1 : cnt (fun i => (maskF n k).getD i false) n = cnt (fun i => k.testBit i) n := cnt_congr fun i hi => maskF_get hi
  have e2 : cnt (nbX E fun i => (maskF n k).getD i false) m = cnt (nbX E fun i => k.testBit i) m := cnt_congr fun r _ => nbX_congr h.hE (fun i hi => maskF_get hi) r
  rw [e1, e2] at h1
  exact h1
def mixF (n k : Nat) (fl : List Bool) (j : Nat) : List Bool := (maskF n k).take j ++ fl.drop j
theorem mixF_len {n k j : Nat} {fl : List Bool} (h : fl.length = n) (hj : j ≤ n) : (mixF n k fl j).length = n := by simp [mixF, maskF_len, h]; omega
theorem mixF_succ {n k j : Nat} {fl : List Bool} (h : fl.length = n) (hj : j < n) : (mixF n k fl j).set j (k.testBit j) = mixF n k fl (j + 1) := by
  have hml := maskF_len n k
  unfold mixF
  rw [List.set_append_right _ _ (by rw [List.length_take]; omega)]
  have e0 : j - (List.take j (maskF n k)).length = 0 := by rw [List.length_take]; omega
  have e1 : (maskF n k)[j]'(by omega) = k.testBit j := by simp [maskF]
  rw [e0, List.drop_eq_getElem_cons (by omega), List.set_cons_zero, List.take_add_one, List.getElem?_eq_getElem (by omega), Option.toList_some, List.append_assoc, e1]
  rfl
theorem mixF_all {n k : Nat} {fl : List Bool} (h : fl.length = n) : mixF n k fl n = maskF n k := by
  unfold mixF
  rw [List.take_of_length_le (by rw [maskF_len]; exact Nat.le_refl _), List.drop_of_length_le (by omega), List.append_nil]
theorem Gd.noFree {n m : Nat} {E : List (Int × Int)} (h : Gd n m E) : (rchM n m E).l.length = 0 ↔ cnt (pL (maxLR (nbOf n E) n m n).1) n = n := by
  have hin := fun i => (reachP_spec (nbOf_len n E) h.rng h.max.1).2.1 i
  constructor
  · intro hz
    have hnil := List.length_eq_zero_iff.1 hz
    have hc := cnt_not (pL (maxLR (nbOf n E) n m n).1) n
    have : cnt (fun i => !pL (maxLR (nbOf n E) n m n).1 i) n = 0 := by
      unfold cnt
      rw [List.length_eq_zero_iff, List.filter_eq_nil_iff]
      intro i hi hp
      have hi := List.mem_range.1 hi
      have h1 := (hin i).2 (.free hi (by simpa [pL] using hp))
      rw [show reachP (nbOf n E) (maxLR (nbOf n E) n m n).1 (maxLR (nbOf n E) n m n).2 n m = rchM n m E from rfl, hnil] at h1
      cases h1
    omega
  · intro hc
    have hc2 := cnt_not (pL (maxLR (nbOf n E) n m n).1) n
    have hno : ∀ i, i < n → ¬ gi (maxLR (nbOf n E) n m n).1 i < 0 := fun i hi hp => by
      have hz : cnt (fun i => !pL (maxLR (nbOf n E) n m n).1 i) n = 0 := by omega
      unfold cnt at hz
      rw [List.length_eq_zero_iff, List.filter_eq_nil_iff] at hz
      exact hz i (List.mem_range.2 hi) (by simp [pL]; omega)
    have hnR : ∀ i, ¬ RL (nbOf n E) n (maxLR (nbOf n E) n m n).1 (maxLR (nbOf n E) n m n).2 i := fun i hi => by
      induction hi with
      | free a b => exact hno _ a b
      | step _ _ _ ih => exact ih
    rw [List.length_eq_zero_iff, List.eq_nil_iff_forall_not_mem]
    intro x hx
    obtain ⟨i, e, _, hr⟩ := h.rch.hl x hx
    exact hnR i hr
theorem hall_bad_law (n m : Int) (E : List (Int × Int)) (hl : E.length ≤ 9223372036854775807) (hv : validM n m E = false) : Reads Try.prog 4 false [.int .i64 n, .int .i64 m, .rsl 2 (E.map pairV)] (.bool true) := by
  have h4 := rvalid_r n m E hl
  rw [hv] at h4
  have haw := awake_r
  refine Reads.body (rs := [.tmp 6]) Try.func4 rfl Try.ntmps4 rfl (by simp) ?_
  generalize hQr : retQ _ _ _ = Qr
  refine AW.seq fun K1 hK1 => ?_
  -- region 0
  refine AW.regionK 0 (fun _ => none) [0, 1, 2] [] ?_
  simp only [go_sem, reduceIte, reduceCtorEq, Nat.reduceAdd, Nat.reduceMul, Nat.reduceEqDiff, Nat.reduceLT, Nat.reduceLeDiff, Nat.reduceSub, Nat.reducePow, Nat.reduceBEq, Int.reduceToNat, List.reduceReplicate]
  repeat with_reducible refine cj ?_ ?_
  all_goals try first | omega
  refine hK1 _ _ _ ?_; clear hK1
  refine AW.seq fun K2 hK2 => ?_
  refine AW.seq fun K3 hK3 => ?_
  -- region 1
  refine AW.regionK 0 (fun ii => if ii = 0 then some (.reads false (.bool true)) else none) [0, 1, 2, 19] [] ?_
  simp only [go_sem, reduceIte, reduceCtorEq, Nat.reduceAdd, Nat.reduceMul, Nat.reduceEqDiff, Nat.reduceLT, Nat.reduceLeDiff, Nat.reduceSub, Nat.reducePow, Nat.reduceBEq, Int.reduceToNat, List.reduceReplicate]
  repeat with_reducible refine cj ?_ ?_
  all_goals try first | (exact haw) | omega | exact ent (by kernel_rfl)
  refine hK3 _ _ _ ?_; clear hK3
  -- cond 1
  refine AW.cond rfl (by simp only [go_sem, reduceIte, reduceCtorEq, Nat.reduceAdd, Nat.reduceMul, Nat.reduceEqDiff, Nat.reduceLT, Nat.reduceLeDiff, Nat.reduceSub, Nat.reducePow, Nat.reduceBEq, Int.reduceToNat, List.reduceReplicate]) ?_ ?_
  · intro hb
    try simp only [hB, decide_eq_true_eq, decide_eq_false_iff_not] at hb
    simp at hb
  · intro hb
    try simp only [hB, decide_eq_true_eq, decide_eq_false_iff_not] at hb
    refine AW.skip ?_
    refine hK2 _ _ _ ?_; clear hK2
    refine AW.seq fun K4 hK4 => ?_
    refine AW.seq fun K5 hK5 => ?_
    -- region 3
    refine AW.regionK 0 (fun ii => if ii = 15 then some (.reads false (.bool false)) else none) [0, 1, 2, 37] [] ?_
    simp only [go_sem, reduceIte, reduceCtorEq, Nat.reduceAdd, Nat.reduceMul, Nat.reduceEqDiff, Nat.reduceLT, Nat.reduceLeDiff, Nat.reduceSub, Nat.reducePow, Nat.reduceBEq, Int.reduceToNat, List.reduceReplicate]
    repeat with_reducible refine cj ?_ ?_
    all_goals try first | (exact h4) | (intros; (repeat' apply And.intro) <;> first | assumption | (exact h4)) | omega | exact ent (by kernel_rfl) | (intro hgd; exact absurd hgd (by decide)) | rfl | (simp only [go_sem, reduceIte, reduceCtorEq, Nat.reduceAdd, Nat.reduceMul, Nat.reduceEqDiff, Nat.reduceLT, Nat.reduceLeDiff, Nat.reduceSub, Nat.reducePow, Nat.reduceBEq, Int.reduceToNat, List.reduceReplicate]; done) | (intro _hgd; simp_all [go_sem]; done)
    refine hK5 _ _ _ ?_; clear hK5
    -- cond 2
    refine AW.cond rfl (by simp only [go_sem, reduceIte, reduceCtorEq, Nat.reduceAdd, Nat.reduceMul, Nat.reduceEqDiff, Nat.reduceLT, Nat.reduceLeDiff, Nat.reduceSub, Nat.reducePow, Nat.reduceBEq, Int.reduceToNat, List.reduceReplicate]) ?_ ?_
    · intro hb
      try simp only [hB, decide_eq_true_eq, decide_eq_false_iff_not] at hb
      refine AW.seq fun K6 hK6 => ?_
      -- region 4
      refine AW.regionK 0 (fun _ => none) [6] [] ?_
      simp only [go_sem, reduceIte, reduceCtorEq, Nat.reduceAdd, Nat.reduceMul, Nat.reduceEqDiff, Nat.reduceLT, Nat.reduceLeDiff, Nat.reduceSub, Nat.reducePow, Nat.reduceBEq, Int.reduceToNat, List.reduceReplicate]
      repeat with_reducible refine cj ?_ ?_
      all_goals try first | omega
      refine hK6 _ _ _ ?_; clear hK6
      refine AW.ret ?_
      rw [← hQr]
      simp only [go_sem, reduceIte, reduceCtorEq, Nat.reduceAdd, Nat.reduceMul, Nat.reduceEqDiff, Nat.reduceLT, Nat.reduceLeDiff, Nat.reduceSub, Nat.reducePow, Nat.reduceBEq, Int.reduceToNat, List.reduceReplicate]
      exact Wk.refl _
    · intro hb
      try simp only [hB, decide_eq_true_eq, decide_eq_false_iff_not] at hb
      exfalso; simp at hb
theorem hall_z {n m : Nat} {E : List (Int × Int)} (h : Gd n m E) (hz : (rchM n m E).l.length = 0) : Reads Try.prog 4 false [.int .i64 n, .int .i64 m, .rsl 2 (E.map pairV)] (.bool true) := by
  have hl : E.length ≤ 9223372036854775807 := by have := h.hl; omega
  have haw := awake_r
  have h1 := max_good h.valid
  have h2 := hall_good h
  have h4 := rvalid_r n m E hl
  rw [h.valid] at h4
  have hdm := fun k => defic_m h k
  have hnf := h.noFree
  have hmc := maxP_cnt h
  have hle := maxP_le n m E
  have hms := fun hh => h.rchS.masks h.ref.1 hh
  have hdb : ∀ k, -512 ≤ defM n m E k ∧ defM n m E k ≤ 512 := fun k => by
    have e1 := cnt_le (fun i => k.testBit i) n
    have e2 := cnt_le (nbX E fun i => k.testBit i) m
    have e3 := h.hn
    have e4 := h.hm
    unfold defM; omega
  rw [if_pos hz] at h2
  have hcz := hnf.1 hz
  clear hnf hz
  generalize cnt (pL (maxLR (nbOf n E) n m n).1) n = c at *
  generalize (refM n m E).1 = S at *
  generalize maxP n m E = Q at *
  refine Reads.body (rs := [.tmp 6]) Try.func4 rfl Try.ntmps4 rfl (by simp) ?_
  generalize hQr : retQ _ _ _ = Qr
  refine AW.seq fun K1 hK1 => ?_
  -- region 0
  refine AW.regionK 0 (fun _ => none) [0, 1, 2] [] ?_
  simp only [go_sem, reduceIte, reduceCtorEq, Nat.reduceAdd, Nat.reduceMul, Nat.reduceEqDiff, Nat.reduceLT, Nat.reduceLeDiff, Nat.reduceSub, Nat.reducePow, Nat.reduceBEq, Int.reduceToNat, List.reduceReplicate, bools_len]
  repeat with_reducible refine cj ?_ ?_
  all_goals try first | omega
  refine hK1 _ _ _ ?_; clear hK1
  refine AW.seq fun K2 hK2 => ?_
  refine AW.seq fun K3 hK3 => ?_
  -- region 1
  refine AW.regionK 0 (fun ii => if ii = 0 then some (.reads false (.bool true)) else none) [0, 1, 2, 19] [] ?_
  simp only [go_sem, reduceIte, reduceCtorEq, Nat.reduceAdd, Nat.reduceMul, Nat.reduceEqDiff, Nat.reduceLT, Nat.reduceLeDiff, Nat.reduceSub, Nat.reducePow, Nat.reduceBEq, Int.reduceToNat, List.reduceReplicate, bools_len]
  repeat with_reducible refine cj ?_ ?_
  all_goals try first | (exact haw) | omega | exact ent (by kernel_rfl)
  refine hK3 _ _ _ ?_; clear hK3
  -- cond 1
  refine AW.cond rfl (by simp only [go_sem, reduceIte, reduceCtorEq, Nat.reduceAdd, Nat.reduceMul, Nat.reduceEqDiff, Nat.reduceLT, Nat.reduceLeDiff, Nat.reduceSub, Nat.reducePow, Nat.reduceBEq, Int.reduceToNat, List.reduceReplicate]) ?_ ?_
  · intro hb
    try simp only [hB, decide_eq_true_eq, decide_eq_false_iff_not] at hb
    simp at hb
  · intro hb
    try simp only [hB, decide_eq_true_eq, decide_eq_false_iff_not] at hb
    refine AW.skip ?_
    refine hK2 _ _ _ ?_; clear hK2
    refine AW.seq fun K4 hK4 => ?_
    refine AW.seq fun K5 hK5 => ?_
    -- region 3
    refine AW.regionK 0 (fun ii => if ii = 15 then some (.reads false (.bool true)) else none) [0, 1, 2, 37] [] ?_
    simp only [go_sem, reduceIte, reduceCtorEq, Nat.reduceAdd, Nat.reduceMul, Nat.reduceEqDiff, Nat.reduceLT, Nat.reduceLeDiff, Nat.reduceSub, Nat.reducePow, Nat.reduceBEq, Int.reduceToNat, List.reduceReplicate, bools_len]
    repeat with_reducible refine cj ?_ ?_
    all_goals try first | (exact h4) | (intros; (repeat' apply And.intro) <;> first | assumption | (exact h4)) | omega | exact ent (by kernel_rfl) | (intro hgd; exact absurd hgd (by decide)) | rfl | (simp only [go_sem, reduceIte, reduceCtorEq, Nat.reduceAdd, Nat.reduceMul, Nat.reduceEqDiff, Nat.reduceLT, Nat.reduceLeDiff, Nat.reduceSub, Nat.reducePow, Nat.reduceBEq, Int.reduceToNat, List.reduceReplicate, bools_len]; done) | (intro _hgd; simp_all [go_sem]; done)
    refine hK5 _ _ _ ?_; clear hK5
    -- cond 2
    refine AW.cond rfl (by simp only [go_sem, reduceIte, reduceCtorEq, Nat.reduceAdd, Nat.reduceMul, Nat.reduceEqDiff, Nat.reduceLT, Nat.reduceLeDiff, Nat.reduceSub, Nat.reducePow, Nat.reduceBEq, Int.reduceToNat, List.reduceReplicate]) ?_ ?_
    · intro hb
      try simp only [hB, decide_eq_true_eq, decide_eq_false_iff_not] at hb
      refine AW.seq fun K6 hK6 => ?_
      -- region 4
      refine AW.regionK 0 (fun _ => none) [6] [] ?_
      simp only [go_sem, reduceIte, reduceCtorEq, Nat.reduceAdd, Nat.reduceMul, Nat.reduceEqDiff, Nat.reduceLT, Nat.reduceLeDiff, Nat.reduceSub, Nat.reducePow, Nat.reduceBEq, Int.reduceToNat, List.reduceReplicate, bools_len]
      repeat with_reducible refine cj ?_ ?_
      all_goals try first | omega
      refine hK6 _ _ _ ?_; clear hK6
      refine AW.ret ?_
      rw [← hQr]
      simp only [go_sem, reduceIte, reduceCtorEq, Nat.reduceAdd, Nat.reduceMul, Nat.reduceEqDiff, Nat.reduceLT, Nat.reduceLeDiff, Nat.reduceSub, Nat.reducePow, Nat.reduceBEq, Int.reduceToNat, List.reduceReplicate, bools_len]
      exact Wk.refl _
    · intro hb
      try simp only [hB, decide_eq_true_eq, decide_eq_false_iff_not] at hb
      have hn10 : n ≤ 10 := by omega
      have hm60 : m ≤ 60 := by omega
      clear hb
      have hp12 : 2 ^ n ≤ 1024 := by have : (2 : Nat) ^ n ≤ 2 ^ 10 := Nat.pow_le_pow_right (by decide) (by omega); simpa using this
      have hp0 := Nat.two_pow_pos n
      have hsh := shl64 (k := n) (by omega)
      obtain ⟨hms1, hms2⟩ := hms (by omega)
      have hlI := fun k hk => lrun_iv (defM n m E) n k hk
      have hl0 : (lrun (defM n m E) n 0) = (0, 2 ^ n - 1) := rfl
      have hls : ∀ k, lrun (defM n m E) n (k + 1) = lstep (defM n m E) k (lrun (defM n m E) n k) := fun _ => rfl
      generalize hT : 2 ^ n = T at *
      refine AW.skip ?_
      refine hK4 _ _ _ ?_; clear hK4
      refine AW.seq fun K7 hK7 => ?_
      -- region 5
      refine AW.regionK 0 (fun ii => if ii = 3 then some (.reads false (.tup [.rsl 2 (Q.map pairV), .int .i64 0])) else none) [0, 1, 2, 7, 8] [] ?_
      simp only [go_sem, reduceIte, reduceCtorEq, Nat.reduceAdd, Nat.reduceMul, Nat.reduceEqDiff, Nat.reduceLT, Nat.reduceLeDiff, Nat.reduceSub, Nat.reducePow, Nat.reduceBEq, Int.reduceToNat, List.reduceReplicate, bools_len]
      repeat with_reducible refine cj ?_ ?_
      all_goals try first | (exact h1) | omega | exact ent (by kernel_rfl)
      refine hK7 _ _ _ ?_; clear hK7
      refine AW.seq fun K8 hK8 => ?_
      -- region 6
      refine AW.regionK 0 (fun ii => if ii = 3 then some (.reads false (.tup [.agg [.int .i64 0, .nilsl], .int .i64 7])) else none) [0, 1, 2, 7, 8, 9, 10] [9] ?_
      simp only [go_sem, reduceIte, reduceCtorEq, Nat.reduceAdd, Nat.reduceMul, Nat.reduceEqDiff, Nat.reduceLT, Nat.reduceLeDiff, Nat.reduceSub, Nat.reducePow, Nat.reduceBEq, Int.reduceToNat, List.reduceReplicate, bools_len]
      repeat with_reducible refine cj ?_ ?_
      all_goals try first | (exact h2) | omega | exact ent (by kernel_rfl)
      refine hK8 _ _ _ ?_; clear hK8
      refine AW.seq fun K9 hK9 => ?_
      refine AW.seq fun K10 hK10 => ?_
      -- region 7
      refine AW.regionS 0 (fun ii => if ii = 16 then some (.skip) else none) [0, 1, 2, 7, 9, 10, 71] [9] ?_
      simp only [go_sem, reduceIte, reduceCtorEq, Nat.reduceAdd, Nat.reduceMul, Nat.reduceEqDiff, Nat.reduceLT, Nat.reduceLeDiff, Nat.reduceSub, Nat.reducePow, Nat.reduceBEq, Int.reduceToNat, List.reduceReplicate, bools_len]
      repeat with_reducible refine cj ?_ ?_
      all_goals try first | omega | exact ent (by kernel_rfl) | (intros; (repeat' apply And.intro) <;> first | assumption | omega | decide) | (intro hgd; exact absurd hgd (by decide)) | rfl | (simp only [go_sem, reduceIte, reduceCtorEq, Nat.reduceAdd, Nat.reduceMul, Nat.reduceEqDiff, Nat.reduceLT, Nat.reduceLeDiff, Nat.reduceSub, Nat.reducePow, Nat.reduceBEq, Int.reduceToNat, List.reduceReplicate, bools_len]; done) | (intro _hgd; simp_all [go_sem]; done)
      refine hK10 _ _ _ ?_; clear hK10
      -- cond 3
      refine AW.cond rfl (by simp only [go_sem, reduceIte, reduceCtorEq, Nat.reduceAdd, Nat.reduceMul, Nat.reduceEqDiff, Nat.reduceLT, Nat.reduceLeDiff, Nat.reduceSub, Nat.reducePow, Nat.reduceBEq, Int.reduceToNat, List.reduceReplicate]) ?_ ?_
      · intro hb
        try simp only [hB, decide_eq_true_eq, decide_eq_false_iff_not] at hb
        exfalso; simp at hb
      · intro hb
        try simp only [hB, decide_eq_true_eq, decide_eq_false_iff_not] at hb
        refine AW.skip ?_
        refine hK9 _ _ _ ?_; clear hK9
        refine AW.seq fun K11 hK11 => ?_
        -- region 9
        refine AW.regionK 0 (fun _ => none) [0, 1, 2, 7, 9, 10, 11] [9] ?_
        simp only [go_sem, reduceIte, reduceCtorEq, Nat.reduceAdd, Nat.reduceMul, Nat.reduceEqDiff, Nat.reduceLT, Nat.reduceLeDiff, Nat.reduceSub, Nat.reducePow, Nat.reduceBEq, Int.reduceToNat, List.reduceReplicate, bools_len, hsh]
        repeat with_reducible refine cj ?_ ?_
        all_goals try first | omega
        refine hK11 _ _ _ ?_; clear hK11
        refine AW.seq fun K12 hK12 => ?_
        -- region 10
        refine AW.regionK 0 (fun _ => none) [0, 1, 2, 7, 9, 10, 11, 12] [9] ?_
        simp only [go_sem, reduceIte, reduceCtorEq, Nat.reduceAdd, Nat.reduceMul, Nat.reduceEqDiff, Nat.reduceLT, Nat.reduceLeDiff, Nat.reduceSub, Nat.reducePow, Nat.reduceBEq, Int.reduceToNat, List.reduceReplicate, bools_len]
        repeat with_reducible refine cj ?_ ?_
        all_goals try first | omega
        refine hK12 _ _ _ ?_; clear hK12
        refine AW.seq fun K13 hK13 => ?_
        -- region 11
        refine AW.regionK 0 (fun _ => none) [0, 1, 2, 7, 9, 10, 11, 12, 13] [9, 76] ?_
        simp only [go_sem, reduceIte, reduceCtorEq, Nat.reduceAdd, Nat.reduceMul, Nat.reduceEqDiff, Nat.reduceLT, Nat.reduceLeDiff, Nat.reduceSub, Nat.reducePow, Nat.reduceBEq, Int.reduceToNat, List.reduceReplicate, bools_len]
        repeat with_reducible refine cj ?_ ?_
        all_goals try first | omega
        refine hK13 _ _ _ ?_; clear hK13
        refine AW.seq fun K14 hK14 => ?_
        refine AW.seq fun K15 hK15 => ?_
        -- region 12
        refine AW.regionK 0 (fun _ => none) [0, 1, 2, 7, 9, 10, 11, 12, 13, 78, 79] [9, 76] ?_
        simp only [go_sem, reduceIte, reduceCtorEq, Nat.reduceAdd, Nat.reduceMul, Nat.reduceEqDiff, Nat.reduceLT, Nat.reduceLeDiff, Nat.reduceSub, Nat.reducePow, Nat.reduceBEq, Int.reduceToNat, List.reduceReplicate, bools_len, hsh]
        repeat with_reducible refine cj ?_ ?_
        all_goals try first | omega
        refine hK15 _ _ _ ?_; clear hK15
        refine AW.block ?_
        -- loop 1
        refine AW.loopE (fun mm ee ss kk => ∃ (k g9 v9 g v : Nat) (fl : List Bool), T - k = mm ∧ ee = [(0, .int .i64 n), (1, .int .i64 m), (2, .rsl 2 (E.map pairV)), (7, .rsl 2 (Q.map pairV)), (9, .ptr ⟨9, g9, none⟩ 0 0), (10, .int .i64 7), (11, .int .i64 ((lrun (defM n m E) n k).2 : Nat)), (12, .int .i64 (lrun (defM n m E) n k).1), (13, .sl ⟨76, g, none⟩ 0 n none), (78, .int .i64 (T : Nat)), (79, .int .i64 (k : Nat))] ∧ ss = [(9, some ⟨g9, v9, 2, [[.int .i64 0, .nilsl]]⟩), (76, some ⟨g, v, 1, bools fl⟩)] ∧ (k ≤ T ∧ fl.length = n)) ?_ ?_
        · refine ⟨_, 0, ?_, ?_, ?_, ?_, List.replicate n false, rfl, ?henv, ?hstore, ?hst⟩
          case henv =>
            repeat' (first | rfl | refine env_cons ?_ ?_ | refine st_cons ?_ ?_ ?_ ?_ | refine int_eq ?_ | refine bool_eq ?_ | refine rsl_eq ?_ | refine osl_eq ?_ | refine sl_eq ?_ ?_ ?_ | refine ptr_eq ?_ ?_ ?_ | refine agg_eq ?_ | refine es_cons ?_ ?_ | refine row_cons ?_ ?_)
            all_goals (first | omega | (rw [hl0]; simp; omega) | (rw [hl0]; rfl) | (rw [hl0]; simp; done) | (simp; done))
          case hstore =>
            repeat' (first | rfl | refine env_cons ?_ ?_ | refine st_cons ?_ ?_ ?_ ?_ | refine int_eq ?_ | refine bool_eq ?_ | refine rsl_eq ?_ | refine osl_eq ?_ | refine sl_eq ?_ ?_ ?_ | refine ptr_eq ?_ ?_ ?_ | refine agg_eq ?_ | refine es_cons ?_ ?_ | refine row_cons ?_ ?_)
            all_goals simp [bools]
          case hst =>
            exact ⟨by omega, by simp⟩
        rintro mm ee ss kk ⟨k, g9, v9, g, v, fl, rfl, rfl, rfl, hI⟩
        generalize hQl1 : thenQ _ _ = Ql1
        obtain ⟨hk, hfl⟩ := hI
        refine AW.seq fun K16 hK16 => ?_
        -- region 13
        refine AW.regionK 0 (fun _ => none) [0, 1, 2, 7, 9, 10, 11, 12, 13, 78, 79, 80] [9, 76] ?_
        simp only [go_sem, reduceIte, reduceCtorEq, Nat.reduceAdd, Nat.reduceMul, Nat.reduceEqDiff, Nat.reduceLT, Nat.reduceLeDiff, Nat.reduceSub, Nat.reducePow, Nat.reduceBEq, Int.reduceToNat, List.reduceReplicate, bools_len]
        repeat with_reducible refine cj ?_ ?_
        all_goals try first | omega
        refine hK16 _ _ _ ?_; clear hK16
        refine AW.seq fun K17 hK17 => ?_
        -- cond 4
        refine AW.cond rfl (by simp only [go_sem, reduceIte, reduceCtorEq, Nat.reduceAdd, Nat.reduceMul, Nat.reduceEqDiff, Nat.reduceLT, Nat.reduceLeDiff, Nat.reduceSub, Nat.reducePow, Nat.reduceBEq, Int.reduceToNat, List.reduceReplicate]) ?_ ?_
        · intro hb
          try simp only [hB, decide_eq_true_eq, decide_eq_false_iff_not] at hb
          have hki := hlI k hk
          have hls1 := hls k
          unfold lstep at hls1
          have hd := hdb k
          have hdk := hdm k
          generalize lrun (defM n m E) n k = x at *
          have hx3 := hki.h3
          rw [hT] at hx3
          have hx0 := hki.h0
          have hx60 : x.1 ≤ 512 := by rcases hki.h2 with h2 | ⟨k2, _, h2⟩; omega; have := hdb k2; omega
          clear hki
          generalize defM n m E k = dk at *
          refine AW.skip ?_
          refine hK17 _ _ _ ?_; clear hK17
          refine AW.seq fun K18 hK18 => ?_
          refine AW.block ?_
          refine AW.seq fun K19 hK19 => ?_
          -- region 14
          refine AW.regionK 0 (fun _ => none) [0, 1, 2, 7, 9, 10, 11, 12, 13, 14, 78, 79] [9, 76] ?_
          simp only [go_sem, reduceIte, reduceCtorEq, Nat.reduceAdd, Nat.reduceMul, Nat.reduceEqDiff, Nat.reduceLT, Nat.reduceLeDiff, Nat.reduceSub, Nat.reducePow, Nat.reduceBEq, Int.reduceToNat, List.reduceReplicate, bools_len]
          repeat with_reducible refine cj ?_ ?_
          all_goals try first | omega
          refine hK19 _ _ _ ?_; clear hK19
          refine AW.seq fun K20 hK20 => ?_
          refine AW.seq fun K21 hK21 => ?_
          -- region 15
          refine AW.regionK 0 (fun _ => none) [0, 1, 2, 7, 9, 10, 11, 12, 13, 14, 78, 79, 82, 83] [9, 76] ?_
          simp only [go_sem, reduceIte, reduceCtorEq, Nat.reduceAdd, Nat.reduceMul, Nat.reduceEqDiff, Nat.reduceLT, Nat.reduceLeDiff, Nat.reduceSub, Nat.reducePow, Nat.reduceBEq, Int.reduceToNat, List.reduceReplicate, bools_len]
          repeat with_reducible refine cj ?_ ?_
          all_goals try first | omega
          refine hK21 _ _ _ ?_; clear hK21
          refine AW.block ?_
          -- loop 2
          refine AW.loopE (fun mm ee ss kk => ∃ (j g9 v9 g v : Nat), n - j = mm ∧ ee = [(0, .int .i64 n), (1, .int .i64 m), (2, .rsl 2 (E.map pairV)), (7, .rsl 2 (Q.map pairV)), (9, .ptr ⟨9, g9, none⟩ 0 0), (10, .int .i64 7), (11, .int .i64 (x.2 : Nat)), (12, .int .i64 x.1), (13, .sl ⟨76, g, none⟩ 0 n none), (14, .int .i64 (k : Nat)), (78, .int .i64 (T : Nat)), (79, .int .i64 (k : Nat)), (82, .int .i64 n), (83, .int .i64 (j : Nat))] ∧ ss = [(9, some ⟨g9, v9, 2, [[.int .i64 0, .nilsl]]⟩), (76, some ⟨g, v, 1, bools (mixF n k fl j)⟩)] ∧ (j ≤ n)) ?_ ?_
          · refine ⟨_, 0, ?_, ?_, ?_, ?_, rfl, ?henv, ?hstore, ?hst⟩
            case henv =>
              repeat' (first | rfl | refine env_cons ?_ ?_ | refine st_cons ?_ ?_ ?_ ?_ | refine int_eq ?_ | refine bool_eq ?_ | refine rsl_eq ?_ | refine osl_eq ?_ | refine sl_eq ?_ ?_ ?_ | refine ptr_eq ?_ ?_ ?_ | refine agg_eq ?_ | refine es_cons ?_ ?_ | refine row_cons ?_ ?_)
              all_goals (first | (simp; done) | omega | (simp; omega))
            case hstore =>
              repeat' (first | rfl | refine env_cons ?_ ?_ | refine st_cons ?_ ?_ ?_ ?_ | refine int_eq ?_ | refine bool_eq ?_ | refine rsl_eq ?_ | refine osl_eq ?_ | refine sl_eq ?_ ?_ ?_ | refine ptr_eq ?_ ?_ ?_ | refine agg_eq ?_ | refine es_cons ?_ ?_ | refine row_cons ?_ ?_)
              all_goals simp [mixF]
            case hst =>
              first | trivial | omega | (simp; done) | (simp; omega)
          rintro mm ee ss kk ⟨j, g9, v9, g, v, rfl, rfl, rfl, hI⟩
          generalize hQl2 : thenQ _ _ = Ql2
          refine AW.seq fun K22 hK22 => ?_
          -- region 16
          refine AW.regionK 0 (fun _ => none) [0, 1, 2, 7, 9, 10, 11, 12, 13, 14, 78, 79, 82, 83, 84] [9, 76] ?_
          simp only [go_sem, reduceIte, reduceCtorEq, Nat.reduceAdd, Nat.reduceMul, Nat.reduceEqDiff, Nat.reduceLT, Nat.reduceLeDiff, Nat.reduceSub, Nat.reducePow, Nat.reduceBEq, Int.reduceToNat, List.reduceReplicate, bools_len]
          repeat with_reducible refine cj ?_ ?_
          all_goals try first | omega
          refine hK22 _ _ _ ?_; clear hK22
          refine AW.seq fun K23 hK23 => ?_
          -- cond 5
          refine AW.cond rfl (by simp only [go_sem, reduceIte, reduceCtorEq, Nat.reduceAdd, Nat.reduceMul, Nat.reduceEqDiff, Nat.reduceLT, Nat.reduceLeDiff, Nat.reduceSub, Nat.reducePow, Nat.reduceBEq, Int.reduceToNat, List.reduceReplicate]) ?_ ?_
          · intro hb
            try simp only [hB, decide_eq_true_eq, decide_eq_false_iff_not] at hb
            have hb64 := bit64 (k := k) (i := j) (by omega) (by omega)
            have hml := mixF_len (k := k) hfl (j := j) (by omega)
            have hsu := mixF_succ (k := k) hfl (j := j) (by omega)
            have hus := bools_upd (mixF n k fl j) j (k.testBit j)
            rw [hsu] at hus
            refine AW.skip ?_
            refine hK23 _ _ _ ?_; clear hK23
            refine AW.seq fun K24 hK24 => ?_
            refine AW.block ?_
            refine AW.seq fun K25 hK25 => ?_
            -- region 17
            refine AW.regionK 0 (fun _ => none) [0, 1, 2, 7, 9, 10, 11, 12, 13, 14, 15, 78, 79, 82, 83] [9, 76] ?_
            simp only [go_sem, reduceIte, reduceCtorEq, Nat.reduceAdd, Nat.reduceMul, Nat.reduceEqDiff, Nat.reduceLT, Nat.reduceLeDiff, Nat.reduceSub, Nat.reducePow, Nat.reduceBEq, Int.reduceToNat, List.reduceReplicate, bools_len]
            repeat with_reducible refine cj ?_ ?_
            all_goals try first | omega
            refine hK25 _ _ _ ?_; clear hK25
            -- region 18
            refine AW.regionK 0 (fun _ => none) [0, 1, 2, 7, 9, 10, 11, 12, 13, 14, 78, 79, 82, 83] [9, 76] ?_
            simp only [go_sem, reduceIte, reduceCtorEq, Nat.reduceAdd, Nat.reduceMul, Nat.reduceEqDiff, Nat.reduceLT, Nat.reduceLeDiff, Nat.reduceSub, Nat.reducePow, Nat.reduceBEq, Int.reduceToNat, List.reduceReplicate, bools_len, hb64, hml, hus]
            repeat with_reducible refine cj ?_ ?_
            all_goals try first | omega
            refine hK24 _ _ _ ?_; clear hK24
            -- region 19
            refine AW.regionK 0 (fun _ => none) [0, 1, 2, 7, 9, 10, 11, 12, 13, 14, 78, 79, 82, 83] [9, 76] ?_
            simp only [go_sem, reduceIte, reduceCtorEq, Nat.reduceAdd, Nat.reduceMul, Nat.reduceEqDiff, Nat.reduceLT, Nat.reduceLeDiff, Nat.reduceSub, Nat.reducePow, Nat.reduceBEq, Int.reduceToNat, List.reduceReplicate, bools_len]
            repeat with_reducible refine cj ?_ ?_
            all_goals try first | omega
            rw [← hQl2]
            change Exists _
            refine ⟨_, ?hm, j + 1, ?_, ?_, ?_, ?_, rfl, ?henv, ?hstore, ?hst⟩
            case henv =>
              repeat' (first | rfl | refine env_cons ?_ ?_ | refine st_cons ?_ ?_ ?_ ?_ | refine int_eq ?_ | refine bool_eq ?_ | refine rsl_eq ?_ | refine osl_eq ?_ | refine sl_eq ?_ ?_ ?_ | refine ptr_eq ?_ ?_ ?_ | refine agg_eq ?_ | refine es_cons ?_ ?_ | refine row_cons ?_ ?_)
              all_goals (first | (simp; done) | omega | (simp; omega))
            case hstore =>
              repeat' (first | rfl | refine env_cons ?_ ?_ | refine st_cons ?_ ?_ ?_ ?_ | refine int_eq ?_ | refine bool_eq ?_ | refine rsl_eq ?_ | refine osl_eq ?_ | refine sl_eq ?_ ?_ ?_ | refine ptr_eq ?_ ?_ ?_ | refine agg_eq ?_ | refine es_cons ?_ ?_ | refine row_cons ?_ ?_)
              all_goals (first | (simp; done) | omega | (simp; omega))
            case hst =>
              first | trivial | omega | (simp; done) | (simp; omega)
            case hm => omega
          · intro hb
            try simp only [hB, decide_eq_true_eq, decide_eq_false_iff_not] at hb
            have hj : n = j := by omega
            subst hj
            rw [mixF_all hfl]
            have hmt : (bools (maskF n k)).take n = bools (maskF n k) := List.take_of_length_le (by rw [bools_len, maskF_len]; exact Nat.le_refl _)
            refine AW.keep [0, 1, 2, 7, 9, 10, 11, 12, 13, 14, 78, 79] [9, 76] ?_
            try simp only [go_sem, reduceIte, reduceCtorEq, Nat.reduceAdd, Nat.reduceMul, Nat.reduceEqDiff, Nat.reduceLT, Nat.reduceLeDiff, Nat.reduceSub, Nat.reducePow, Nat.reduceBEq, Int.reduceToNat, List.reduceReplicate]
            refine AW.exit ?_
            rw [← hQl2]
            refine hK20 _ _ _ ?_; clear hK20
            refine AW.seq fun K26 hK26 => ?_
            -- region 20
            refine AW.regionK 0 (fun ii => if ii = 3 then some (.reads true (.int .i64 dk)) else none) [0, 1, 2, 7, 9, 10, 11, 12, 13, 14, 16, 78, 79] [9, 76] ?_
            simp only [go_sem, reduceIte, reduceCtorEq, Nat.reduceAdd, Nat.reduceMul, Nat.reduceEqDiff, Nat.reduceLT, Nat.reduceLeDiff, Nat.reduceSub, Nat.reducePow, Nat.reduceBEq, Int.reduceToNat, List.reduceReplicate, bools_len, hmt, vwc_bools]
            repeat with_reducible refine cj ?_ ?_
            all_goals try first | (exact Reads.flat hdk rfl) | omega | exact ent (by kernel_rfl)
            refine hK26 _ _ _ ?_; clear hK26
            refine AW.seq fun K27 hK27 => ?_
            -- region 21
            refine AW.regionK 0 (fun _ => none) [0, 1, 2, 7, 9, 10, 11, 12, 13, 14, 16, 78, 79, 101] [9, 76] ?_
            simp only [go_sem, reduceIte, reduceCtorEq, Nat.reduceAdd, Nat.reduceMul, Nat.reduceEqDiff, Nat.reduceLT, Nat.reduceLeDiff, Nat.reduceSub, Nat.reducePow, Nat.reduceBEq, Int.reduceToNat, List.reduceReplicate, bools_len]
            repeat with_reducible refine cj ?_ ?_
            all_goals try first | omega
            refine hK27 _ _ _ ?_; clear hK27
            -- cond 6
            refine AW.cond rfl (by simp only [go_sem, reduceIte, reduceCtorEq, Nat.reduceAdd, Nat.reduceMul, Nat.reduceEqDiff, Nat.reduceLT, Nat.reduceLeDiff, Nat.reduceSub, Nat.reducePow, Nat.reduceBEq, Int.reduceToNat, List.reduceReplicate]) ?_ ?_
            · intro hb
              try simp only [hB, decide_eq_true_eq, decide_eq_false_iff_not] at hb
              obtain ⟨w, hw⟩ : ∃ w, w = (dk, k) := ⟨_, rfl⟩
              have hst : lrun (defM n m E) n (k + 1) = w := by rw [hls1, hw, if_pos hb]
              -- region 22
              refine AW.regionK 0 (fun _ => none) [0, 1, 2, 7, 9, 10, 11, 12, 13, 78, 79] [9, 76] ?_
              simp only [go_sem, reduceIte, reduceCtorEq, Nat.reduceAdd, Nat.reduceMul, Nat.reduceEqDiff, Nat.reduceLT, Nat.reduceLeDiff, Nat.reduceSub, Nat.reducePow, Nat.reduceBEq, Int.reduceToNat, List.reduceReplicate, bools_len]
              repeat with_reducible refine cj ?_ ?_
              all_goals try first | omega
              refine hK18 _ _ _ ?_; clear hK18
              -- region 25
              refine AW.regionK 0 (fun _ => none) [0, 1, 2, 7, 9, 10, 11, 12, 13, 78, 79] [9, 76] ?_
              simp only [go_sem, reduceIte, reduceCtorEq, Nat.reduceAdd, Nat.reduceMul, Nat.reduceEqDiff, Nat.reduceLT, Nat.reduceLeDiff, Nat.reduceSub, Nat.reducePow, Nat.reduceBEq, Int.reduceToNat, List.reduceReplicate, bools_len]
              repeat with_reducible refine cj ?_ ?_
              all_goals try first | omega
              rw [← hQl1]
              change Exists _
              refine ⟨_, ?hm, k + 1, ?_, ?_, ?_, ?_, maskF n k, rfl, ?henv, ?hstore, ?hst⟩
              case henv =>
                repeat' (first | rfl | refine env_cons ?_ ?_ | refine st_cons ?_ ?_ ?_ ?_ | refine int_eq ?_ | refine bool_eq ?_ | refine rsl_eq ?_ | refine osl_eq ?_ | refine sl_eq ?_ ?_ ?_ | refine ptr_eq ?_ ?_ ?_ | refine agg_eq ?_ | refine es_cons ?_ ?_ | refine row_cons ?_ ?_)
                all_goals (first | (rw [hst, hw]; done) | omega | (simp; done))
              case hstore =>
                repeat' (first | rfl | refine env_cons ?_ ?_ | refine st_cons ?_ ?_ ?_ ?_ | refine int_eq ?_ | refine bool_eq ?_ | refine rsl_eq ?_ | refine osl_eq ?_ | refine sl_eq ?_ ?_ ?_ | refine ptr_eq ?_ ?_ ?_ | refine agg_eq ?_ | refine es_cons ?_ ?_ | refine row_cons ?_ ?_)
                all_goals (first | (simp; done) | omega | (simp; omega))
              case hst =>
                exact ⟨by omega, maskF_len n k⟩
              case hm => omega
            · intro hb
              try simp only [hB, decide_eq_true_eq, decide_eq_false_iff_not] at hb
              refine AW.seq fun K28 hK28 => ?_
              -- region 23
              refine AW.regionK 0 (fun _ => none) [0, 1, 2, 7, 9, 10, 11, 12, 13, 14, 78, 79, 106] [9, 76] ?_
              simp only [go_sem, reduceIte, reduceCtorEq, Nat.reduceAdd, Nat.reduceMul, Nat.reduceEqDiff, Nat.reduceLT, Nat.reduceLeDiff, Nat.reduceSub, Nat.reducePow, Nat.reduceBEq, Int.reduceToNat, List.reduceReplicate, bools_len]
              repeat with_reducible refine cj ?_ ?_
              all_goals try first | omega
              refine hK28 _ _ _ ?_; clear hK28
              -- cond 7
              refine AW.cond rfl (by simp only [go_sem, reduceIte, reduceCtorEq, Nat.reduceAdd, Nat.reduceMul, Nat.reduceEqDiff, Nat.reduceLT, Nat.reduceLeDiff, Nat.reduceSub, Nat.reducePow, Nat.reduceBEq, Int.reduceToNat, List.reduceReplicate]) ?_ ?_
              · intro hb
                try simp only [hB, decide_eq_true_eq, decide_eq_false_iff_not] at hb
                obtain ⟨w, hw⟩ : ∃ w, w = (x.1, x.2 &&& k) := ⟨_, rfl⟩
                have hst : lrun (defM n m E) n (k + 1) = w := by rw [hls1, hw, if_neg (by omega), if_pos hb]
                have han := and64 (a := x.2) (b := k) (by omega) (by omega)
                -- region 24
                refine AW.regionK 0 (fun _ => none) [0, 1, 2, 7, 9, 10, 11, 12, 13, 78, 79] [9, 76] ?_
                simp only [go_sem, reduceIte, reduceCtorEq, Nat.reduceAdd, Nat.reduceMul, Nat.reduceEqDiff, Nat.reduceLT, Nat.reduceLeDiff, Nat.reduceSub, Nat.reducePow, Nat.reduceBEq, Int.reduceToNat, List.reduceReplicate, bools_len, han]
                repeat with_reducible refine cj ?_ ?_
                all_goals try first | omega
                refine hK18 _ _ _ ?_; clear hK18
                -- region 25
                refine AW.regionK 0 (fun _ => none) [0, 1, 2, 7, 9, 10, 11, 12, 13, 78, 79] [9, 76] ?_
                simp only [go_sem, reduceIte, reduceCtorEq, Nat.reduceAdd, Nat.reduceMul, Nat.reduceEqDiff, Nat.reduceLT, Nat.reduceLeDiff, Nat.reduceSub, Nat.reducePow, Nat.reduceBEq, Int.reduceToNat, List.reduceReplicate, bools_len]
                repeat with_reducible refine cj ?_ ?_
                all_goals try first | omega
                rw [← hQl1]
                change Exists _
                refine ⟨_, ?hm, k + 1, ?_, ?_, ?_, ?_, maskF n k, rfl, ?henv, ?hstore, ?hst⟩
                case henv =>
                  repeat' (first | rfl | refine env_cons ?_ ?_ | refine st_cons ?_ ?_ ?_ ?_ | refine int_eq ?_ | refine bool_eq ?_ | refine rsl_eq ?_ | refine osl_eq ?_ | refine sl_eq ?_ ?_ ?_ | refine ptr_eq ?_ ?_ ?_ | refine agg_eq ?_ | refine es_cons ?_ ?_ | refine row_cons ?_ ?_)
                  all_goals (first | (rw [hst, hw]; done) | omega | (simp; done))
                case hstore =>
                  repeat' (first | rfl | refine env_cons ?_ ?_ | refine st_cons ?_ ?_ ?_ ?_ | refine int_eq ?_ | refine bool_eq ?_ | refine rsl_eq ?_ | refine osl_eq ?_ | refine sl_eq ?_ ?_ ?_ | refine ptr_eq ?_ ?_ ?_ | refine agg_eq ?_ | refine es_cons ?_ ?_ | refine row_cons ?_ ?_)
                  all_goals (first | (simp; done) | omega | (simp; omega))
                case hst =>
                  exact ⟨by omega, maskF_len n k⟩
                case hm => omega
              · intro hb
                try simp only [hB, decide_eq_true_eq, decide_eq_false_iff_not] at hb
                obtain ⟨w, hw⟩ : ∃ w, w = x := ⟨_, rfl⟩
                have hst : lrun (defM n m E) n (k + 1) = w := by rw [hls1, hw, if_neg (by omega), if_neg hb]
                refine AW.skip ?_
                refine hK18 _ _ _ ?_; clear hK18
                -- region 25
                refine AW.regionK 0 (fun _ => none) [0, 1, 2, 7, 9, 10, 11, 12, 13, 78, 79] [9, 76] ?_
                simp only [go_sem, reduceIte, reduceCtorEq, Nat.reduceAdd, Nat.reduceMul, Nat.reduceEqDiff, Nat.reduceLT, Nat.reduceLeDiff, Nat.reduceSub, Nat.reducePow, Nat.reduceBEq, Int.reduceToNat, List.reduceReplicate, bools_len]
                repeat with_reducible refine cj ?_ ?_
                all_goals try first | omega
                rw [← hQl1]
                change Exists _
                refine ⟨_, ?hm, k + 1, ?_, ?_, ?_, ?_, maskF n k, rfl, ?henv, ?hstore, ?hst⟩
                case henv =>
                  repeat' (first | rfl | refine env_cons ?_ ?_ | refine st_cons ?_ ?_ ?_ ?_ | refine int_eq ?_ | refine bool_eq ?_ | refine rsl_eq ?_ | refine osl_eq ?_ | refine sl_eq ?_ ?_ ?_ | refine ptr_eq ?_ ?_ ?_ | refine agg_eq ?_ | refine es_cons ?_ ?_ | refine row_cons ?_ ?_)
                  all_goals (first | (rw [hst, hw]; done) | omega | (simp; done))
                case hstore =>
                  repeat' (first | rfl | refine env_cons ?_ ?_ | refine st_cons ?_ ?_ ?_ ?_ | refine int_eq ?_ | refine bool_eq ?_ | refine rsl_eq ?_ | refine osl_eq ?_ | refine sl_eq ?_ ?_ ?_ | refine ptr_eq ?_ ?_ ?_ | refine agg_eq ?_ | refine es_cons ?_ ?_ | refine row_cons ?_ ?_)
                  all_goals (first | (simp; done) | omega | (simp; omega))
                case hst =>
                  exact ⟨by omega, maskF_len n k⟩
                case hm => omega
        · intro hb
          try simp only [hB, decide_eq_true_eq, decide_eq_false_iff_not] at hb
          have hkT : T = k := by omega
          subst hkT
          generalize lrun (defM n m E) n T = x at *
          have hcn : c ≤ n := by omega
          refine AW.keep [0, 7, 9, 10, 11, 12] [9] ?_
          try simp only [go_sem, reduceIte, reduceCtorEq, Nat.reduceAdd, Nat.reduceMul, Nat.reduceEqDiff, Nat.reduceLT, Nat.reduceLeDiff, Nat.reduceSub, Nat.reducePow, Nat.reduceBEq, Int.reduceToNat, List.reduceReplicate]
          refine AW.exit ?_
          rw [← hQl1]
          refine hK14 _ _ _ ?_; clear hK14
          refine AW.seq fun K29 hK29 => ?_
          refine AW.seq fun K30 hK30 => ?_
          -- region 26
          refine AW.regionK 0 (fun _ => none) [0, 7, 9, 10, 11, 12, 112] [9] ?_
          simp only [go_sem, reduceIte, reduceCtorEq, Nat.reduceAdd, Nat.reduceMul, Nat.reduceEqDiff, Nat.reduceLT, Nat.reduceLeDiff, Nat.reduceSub, Nat.reducePow, Nat.reduceBEq, Int.reduceToNat, List.reduceReplicate, bools_len]
          repeat with_reducible refine cj ?_ ?_
          all_goals try first | omega
          refine hK30 _ _ _ ?_; clear hK30
          -- cond 8
          refine AW.cond rfl (by simp only [go_sem, reduceIte, reduceCtorEq, Nat.reduceAdd, Nat.reduceMul, Nat.reduceEqDiff, Nat.reduceLT, Nat.reduceLeDiff, Nat.reduceSub, Nat.reducePow, Nat.reduceBEq, Int.reduceToNat, List.reduceReplicate]) ?_ ?_
          · intro hb
            try simp only [hB, decide_eq_true_eq, decide_eq_false_iff_not] at hb
            refine AW.seq fun K31 hK31 => ?_
            -- region 27
            refine AW.regionK 0 (fun _ => none) [6] [] ?_
            simp only [go_sem, reduceIte, reduceCtorEq, Nat.reduceAdd, Nat.reduceMul, Nat.reduceEqDiff, Nat.reduceLT, Nat.reduceLeDiff, Nat.reduceSub, Nat.reducePow, Nat.reduceBEq, Int.reduceToNat, List.reduceReplicate, bools_len]
            repeat with_reducible refine cj ?_ ?_
            all_goals try first | omega | (intros; (repeat' apply And.intro) <;> first | assumption | omega | decide) | (intro hgd; exact absurd hgd (by decide)) | rfl | (simp only [go_sem, reduceIte, reduceCtorEq, Nat.reduceAdd, Nat.reduceMul, Nat.reduceEqDiff, Nat.reduceLT, Nat.reduceLeDiff, Nat.reduceSub, Nat.reducePow, Nat.reduceBEq, Int.reduceToNat, List.reduceReplicate, bools_len]; done) | (intro _hgd; simp_all [go_sem]; done)
            refine hK31 _ _ _ ?_; clear hK31
            refine AW.ret ?_
            rw [← hQr]
            simp only [go_sem, reduceIte, reduceCtorEq, Nat.reduceAdd, Nat.reduceMul, Nat.reduceEqDiff, Nat.reduceLT, Nat.reduceLeDiff, Nat.reduceSub, Nat.reducePow, Nat.reduceBEq, Int.reduceToNat, List.reduceReplicate, bools_len]
            exact Wk.of_eq (by simp; omega)
          · intro hb
            try simp only [hB, decide_eq_true_eq, decide_eq_false_iff_not] at hb
            exfalso; omega
theorem hall_nz {n m : Nat} {E : List (Int × Int)} (h : Gd n m E) (hz : ¬ (rchM n m E).l.length = 0) : Reads Try.prog 4 false [.int .i64 n, .int .i64 m, .rsl 2 (E.map pairV)] (.bool true) := by
  have hl : E.length ≤ 9223372036854775807 := by have := h.hl; omega
  have haw := awake_r
  have h1 := max_good h.valid
  have h2 := hall_good h
  have h4 := rvalid_r n m E hl
  rw [h.valid] at h4
  have hdm := fun k => defic_m h k
  have hnf := h.noFree
  have hmc := maxP_cnt h
  have hle := maxP_le n m E
  have hms := fun hh => h.rchS.masks h.ref.1 hh
  have hdb : ∀ k, -512 ≤ defM n m E k ∧ defM n m E k ≤ 512 := fun k => by
    have e1 := cnt_le (fun i => k.testBit i) n
    have e2 := cnt_le (nbX E fun i => k.testBit i) m
    have e3 := h.hn
    have e4 := h.hm
    unfold defM; omega
  rw [if_neg hz, hlL_eq h] at h2
  have hcz : cnt (pL (maxLR (nbOf n E) n m n).1) n ≠ n := fun e => hz (hnf.2 e)
  have his := isset_b (refM n m E).1 (by rw [h.ref.1]; exact h.hn)
  have hhs := rhas_in (refM n m E).1 (by rw [h.ref.1]; exact h.hn)
  unfold rowB at hhs
  rw [h.ref.1] at his hhs
  generalize setW (refM n m E).1 n = W at *
  clear hnf hz
  generalize cnt (pL (maxLR (nbOf n E) n m n).1) n = c at *
  generalize (refM n m E).1 = S at *
  generalize maxP n m E = Q at *
  refine Reads.body (rs := [.tmp 6]) Try.func4 rfl Try.ntmps4 rfl (by simp) ?_
  generalize hQr : retQ _ _ _ = Qr
  refine AW.seq fun K1 hK1 => ?_
  -- region 0
  refine AW.regionK 0 (fun _ => none) [0, 1, 2] [] ?_
  simp only [go_sem, reduceIte, reduceCtorEq, Nat.reduceAdd, Nat.reduceMul, Nat.reduceEqDiff, Nat.reduceLT, Nat.reduceLeDiff, Nat.reduceSub, Nat.reducePow, Nat.reduceBEq, Int.reduceToNat, List.reduceReplicate, bools_len]
  repeat with_reducible refine cj ?_ ?_
  all_goals try first | omega
  refine hK1 _ _ _ ?_; clear hK1
  refine AW.seq fun K2 hK2 => ?_
  refine AW.seq fun K3 hK3 => ?_
  -- region 1
  refine AW.regionK 0 (fun ii => if ii = 0 then some (.reads false (.bool true)) else none) [0, 1, 2, 19] [] ?_
  simp only [go_sem, reduceIte, reduceCtorEq, Nat.reduceAdd, Nat.reduceMul, Nat.reduceEqDiff, Nat.reduceLT, Nat.reduceLeDiff, Nat.reduceSub, Nat.reducePow, Nat.reduceBEq, Int.reduceToNat, List.reduceReplicate, bools_len]
  repeat with_reducible refine cj ?_ ?_
  all_goals try first | (exact haw) | omega | exact ent (by kernel_rfl)
  refine hK3 _ _ _ ?_; clear hK3
  -- cond 1
  refine AW.cond rfl (by simp only [go_sem, reduceIte, reduceCtorEq, Nat.reduceAdd, Nat.reduceMul, Nat.reduceEqDiff, Nat.reduceLT, Nat.reduceLeDiff, Nat.reduceSub, Nat.reducePow, Nat.reduceBEq, Int.reduceToNat, List.reduceReplicate]) ?_ ?_
  · intro hb
    try simp only [hB, decide_eq_true_eq, decide_eq_false_iff_not] at hb
    simp at hb
  · intro hb
    try simp only [hB, decide_eq_true_eq, decide_eq_false_iff_not] at hb
    refine AW.skip ?_
    refine hK2 _ _ _ ?_; clear hK2
    refine AW.seq fun K4 hK4 => ?_
    refine AW.seq fun K5 hK5 => ?_
    -- region 3
    refine AW.regionK 0 (fun ii => if ii = 15 then some (.reads false (.bool true)) else none) [0, 1, 2, 37] [] ?_
    simp only [go_sem, reduceIte, reduceCtorEq, Nat.reduceAdd, Nat.reduceMul, Nat.reduceEqDiff, Nat.reduceLT, Nat.reduceLeDiff, Nat.reduceSub, Nat.reducePow, Nat.reduceBEq, Int.reduceToNat, List.reduceReplicate, bools_len]
    repeat with_reducible refine cj ?_ ?_
    all_goals try first | (exact h4) | (intros; (repeat' apply And.intro) <;> first | assumption | (exact h4)) | omega | exact ent (by kernel_rfl) | (intro hgd; exact absurd hgd (by decide)) | rfl | (simp only [go_sem, reduceIte, reduceCtorEq, Nat.reduceAdd, Nat.reduceMul, Nat.reduceEqDiff, Nat.reduceLT, Nat.reduceLeDiff, Nat.reduceSub, Nat.reducePow, Nat.reduceBEq, Int.reduceToNat, List.reduceReplicate, bools_len]; done) | (intro _hgd; simp_all [go_sem]; done)
    refine hK5 _ _ _ ?_; clear hK5
    -- cond 2
    refine AW.cond rfl (by simp only [go_sem, reduceIte, reduceCtorEq, Nat.reduceAdd, Nat.reduceMul, Nat.reduceEqDiff, Nat.reduceLT, Nat.reduceLeDiff, Nat.reduceSub, Nat.reducePow, Nat.reduceBEq, Int.reduceToNat, List.reduceReplicate]) ?_ ?_
    · intro hb
      try simp only [hB, decide_eq_true_eq, decide_eq_false_iff_not] at hb
      refine AW.seq fun K6 hK6 => ?_
      -- region 4
      refine AW.regionK 0 (fun _ => none) [6] [] ?_
      simp only [go_sem, reduceIte, reduceCtorEq, Nat.reduceAdd, Nat.reduceMul, Nat.reduceEqDiff, Nat.reduceLT, Nat.reduceLeDiff, Nat.reduceSub, Nat.reducePow, Nat.reduceBEq, Int.reduceToNat, List.reduceReplicate, bools_len]
      repeat with_reducible refine cj ?_ ?_
      all_goals try first | omega
      refine hK6 _ _ _ ?_; clear hK6
      refine AW.ret ?_
      rw [← hQr]
      simp only [go_sem, reduceIte, reduceCtorEq, Nat.reduceAdd, Nat.reduceMul, Nat.reduceEqDiff, Nat.reduceLT, Nat.reduceLeDiff, Nat.reduceSub, Nat.reducePow, Nat.reduceBEq, Int.reduceToNat, List.reduceReplicate, bools_len]
      exact Wk.refl _
    · intro hb
      try simp only [hB, decide_eq_true_eq, decide_eq_false_iff_not] at hb
      have hn10 : n ≤ 10 := by omega
      have hm60 : m ≤ 60 := by omega
      clear hb
      have hp12 : 2 ^ n ≤ 1024 := by have : (2 : Nat) ^ n ≤ 2 ^ 10 := Nat.pow_le_pow_right (by decide) (by omega); simpa using this
      have hp0 := Nat.two_pow_pos n
      have hsh := shl64 (k := n) (by omega)
      obtain ⟨hms1, hms2⟩ := hms (by omega)
      have hlI := fun k hk => lrun_iv (defM n m E) n k hk
      have hl0 : (lrun (defM n m E) n 0) = (0, 2 ^ n - 1) := rfl
      have hls : ∀ k, lrun (defM n m E) n (k + 1) = lstep (defM n m E) k (lrun (defM n m E) n k) := fun _ => rfl
      generalize hT : 2 ^ n = T at *
      refine AW.skip ?_
      refine hK4 _ _ _ ?_; clear hK4
      refine AW.seq fun K7 hK7 => ?_
      -- region 5
      refine AW.regionK 0 (fun ii => if ii = 3 then some (.reads false (.tup [.rsl 2 (Q.map pairV), .int .i64 0])) else none) [0, 1, 2, 7, 8] [] ?_
      simp only [go_sem, reduceIte, reduceCtorEq, Nat.reduceAdd, Nat.reduceMul, Nat.reduceEqDiff, Nat.reduceLT, Nat.reduceLeDiff, Nat.reduceSub, Nat.reducePow, Nat.reduceBEq, Int.reduceToNat, List.reduceReplicate, bools_len]
      repeat with_reducible refine cj ?_ ?_
      all_goals try first | (exact h1) | omega | exact ent (by kernel_rfl)
      refine hK7 _ _ _ ?_; clear hK7
      refine AW.seq fun K8 hK8 => ?_
      -- region 6
      refine AW.regionK 0 (fun ii => if ii = 3 then some (.reads false (.tup [.agg [.int .i64 n, .rsl 1 (words W)], .int .i64 0])) else none) [0, 1, 2, 7, 8, 9, 10] [9] ?_
      simp only [go_sem, reduceIte, reduceCtorEq, Nat.reduceAdd, Nat.reduceMul, Nat.reduceEqDiff, Nat.reduceLT, Nat.reduceLeDiff, Nat.reduceSub, Nat.reducePow, Nat.reduceBEq, Int.reduceToNat, List.reduceReplicate, bools_len]
      repeat with_reducible refine cj ?_ ?_
      all_goals try first | (exact h2) | omega | exact ent (by kernel_rfl)
      refine hK8 _ _ _ ?_; clear hK8
      refine AW.seq fun K9 hK9 => ?_
      refine AW.seq fun K10 hK10 => ?_
      -- region 7
      refine AW.regionK 0 (fun ii => if ii = 16 then some (.reads false (.bool true)) else none) [0, 1, 2, 7, 9, 10, 71] [9] ?_
      simp only [go_sem, reduceIte, reduceCtorEq, Nat.reduceAdd, Nat.reduceMul, Nat.reduceEqDiff, Nat.reduceLT, Nat.reduceLeDiff, Nat.reduceSub, Nat.reducePow, Nat.reduceBEq, Int.reduceToNat, List.reduceReplicate, bools_len]
      repeat with_reducible refine cj ?_ ?_
      all_goals try first | (exact his) | (intros; (repeat' apply And.intro) <;> first | assumption | (exact his)) | omega | exact ent (by kernel_rfl) | (intro hgd; exact absurd hgd (by decide)) | rfl | (simp only [go_sem, reduceIte, reduceCtorEq, Nat.reduceAdd, Nat.reduceMul, Nat.reduceEqDiff, Nat.reduceLT, Nat.reduceLeDiff, Nat.reduceSub, Nat.reducePow, Nat.reduceBEq, Int.reduceToNat, List.reduceReplicate, bools_len]; done) | (intro _hgd; simp_all [go_sem]; done)
      refine hK10 _ _ _ ?_; clear hK10
      -- cond 3
      refine AW.cond rfl (by simp only [go_sem, reduceIte, reduceCtorEq, Nat.reduceAdd, Nat.reduceMul, Nat.reduceEqDiff, Nat.reduceLT, Nat.reduceLeDiff, Nat.reduceSub, Nat.reducePow, Nat.reduceBEq, Int.reduceToNat, List.reduceReplicate]) ?_ ?_
      · intro hb
        try simp only [hB, decide_eq_true_eq, decide_eq_false_iff_not] at hb
        exfalso; simp at hb
      · intro hb
        try simp only [hB, decide_eq_true_eq, decide_eq_false_iff_not] at hb
        refine AW.skip ?_
        refine hK9 _ _ _ ?_; clear hK9
        refine AW.seq fun K11 hK11 => ?_
        -- region 9
        refine AW.regionK 0 (fun _ => none) [0, 1, 2, 7, 9, 10, 11] [9] ?_
        simp only [go_sem, reduceIte, reduceCtorEq, Nat.reduceAdd, Nat.reduceMul, Nat.reduceEqDiff, Nat.reduceLT, Nat.reduceLeDiff, Nat.reduceSub, Nat.reducePow, Nat.reduceBEq, Int.reduceToNat, List.reduceReplicate, bools_len, hsh]
        repeat with_reducible refine cj ?_ ?_
        all_goals try first | omega
        refine hK11 _ _ _ ?_; clear hK11
        refine AW.seq fun K12 hK12 => ?_
        -- region 10
        refine AW.regionK 0 (fun _ => none) [0, 1, 2, 7, 9, 10, 11, 12] [9] ?_
        simp only [go_sem, reduceIte, reduceCtorEq, Nat.reduceAdd, Nat.reduceMul, Nat.reduceEqDiff, Nat.reduceLT, Nat.reduceLeDiff, Nat.reduceSub, Nat.reducePow, Nat.reduceBEq, Int.reduceToNat, List.reduceReplicate, bools_len]
        repeat with_reducible refine cj ?_ ?_
        all_goals try first | omega
        refine hK12 _ _ _ ?_; clear hK12
        refine AW.seq fun K13 hK13 => ?_
        -- region 11
        refine AW.regionK 0 (fun _ => none) [0, 1, 2, 7, 9, 10, 11, 12, 13] [9, 76] ?_
        simp only [go_sem, reduceIte, reduceCtorEq, Nat.reduceAdd, Nat.reduceMul, Nat.reduceEqDiff, Nat.reduceLT, Nat.reduceLeDiff, Nat.reduceSub, Nat.reducePow, Nat.reduceBEq, Int.reduceToNat, List.reduceReplicate, bools_len]
        repeat with_reducible refine cj ?_ ?_
        all_goals try first | omega
        refine hK13 _ _ _ ?_; clear hK13
        refine AW.seq fun K14 hK14 => ?_
        refine AW.seq fun K15 hK15 => ?_
        -- region 12
        refine AW.regionK 0 (fun _ => none) [0, 1, 2, 7, 9, 10, 11, 12, 13, 78, 79] [9, 76] ?_
        simp only [go_sem, reduceIte, reduceCtorEq, Nat.reduceAdd, Nat.reduceMul, Nat.reduceEqDiff, Nat.reduceLT, Nat.reduceLeDiff, Nat.reduceSub, Nat.reducePow, Nat.reduceBEq, Int.reduceToNat, List.reduceReplicate, bools_len, hsh]
        repeat with_reducible refine cj ?_ ?_
        all_goals try first | omega
        refine hK15 _ _ _ ?_; clear hK15
        refine AW.block ?_
        -- loop 1
        refine AW.loopE (fun mm ee ss kk => ∃ (k g9 v9 g v : Nat) (fl : List Bool), T - k = mm ∧ ee = [(0, .int .i64 n), (1, .int .i64 m), (2, .rsl 2 (E.map pairV)), (7, .rsl 2 (Q.map pairV)), (9, .ptr ⟨9, g9, none⟩ 0 0), (10, .int .i64 0), (11, .int .i64 ((lrun (defM n m E) n k).2 : Nat)), (12, .int .i64 (lrun (defM n m E) n k).1), (13, .sl ⟨76, g, none⟩ 0 n none), (78, .int .i64 (T : Nat)), (79, .int .i64 (k : Nat))] ∧ ss = [(9, some ⟨g9, v9, 2, [[.int .i64 n, .rsl 1 (words W)]]⟩), (76, some ⟨g, v, 1, bools fl⟩)] ∧ (k ≤ T ∧ fl.length = n)) ?_ ?_
        · refine ⟨_, 0, ?_, ?_, ?_, ?_, List.replicate n false, rfl, ?henv, ?hstore, ?hst⟩
          case henv =>
            repeat' (first | rfl | refine env_cons ?_ ?_ | refine st_cons ?_ ?_ ?_ ?_ | refine int_eq ?_ | refine bool_eq ?_ | refine rsl_eq ?_ | refine osl_eq ?_ | refine sl_eq ?_ ?_ ?_ | refine ptr_eq ?_ ?_ ?_ | refine agg_eq ?_ | refine es_cons ?_ ?_ | refine row_cons ?_ ?_)
            all_goals (first | omega | (rw [hl0]; simp; omega) | (rw [hl0]; rfl) | (rw [hl0]; simp; done) | (simp; done))
          case hstore =>
            repeat' (first | rfl | refine env_cons ?_ ?_ | refine st_cons ?_ ?_ ?_ ?_ | refine int_eq ?_ | refine bool_eq ?_ | refine rsl_eq ?_ | refine osl_eq ?_ | refine sl_eq ?_ ?_ ?_ | refine ptr_eq ?_ ?_ ?_ | refine agg_eq ?_ | refine es_cons ?_ ?_ | refine row_cons ?_ ?_)
            all_goals simp [bools]
          case hst =>
            exact ⟨by omega, by simp⟩
        rintro mm ee ss kk ⟨k, g9, v9, g, v, fl, rfl, rfl, rfl, hI⟩
        generalize hQl1 : thenQ _ _ = Ql1
        obtain ⟨hk, hfl⟩ := hI
        refine AW.seq fun K16 hK16 => ?_
        -- region 13
        refine AW.regionK 0 (fun _ => none) [0, 1, 2, 7, 9, 10, 11, 12, 13, 78, 79, 80] [9, 76] ?_
        simp only [go_sem, reduceIte, reduceCtorEq, Nat.reduceAdd, Nat.reduceMul, Nat.reduceEqDiff, Nat.reduceLT, Nat.reduceLeDiff, Nat.reduceSub, Nat.reducePow, Nat.reduceBEq, Int.reduceToNat, List.reduceReplicate, bools_len]
        repeat with_reducible refine cj ?_ ?_
        all_goals try first | omega
        refine hK16 _ _ _ ?_; clear hK16
        refine AW.seq fun K17 hK17 => ?_
        -- cond 4
        refine AW.cond rfl (by simp only [go_sem, reduceIte, reduceCtorEq, Nat.reduceAdd, Nat.reduceMul, Nat.reduceEqDiff, Nat.reduceLT, Nat.reduceLeDiff, Nat.reduceSub, Nat.reducePow, Nat.reduceBEq, Int.reduceToNat, List.reduceReplicate]) ?_ ?_
        · intro hb
          try simp only [hB, decide_eq_true_eq, decide_eq_false_iff_not] at hb
          have hki := hlI k hk
          have hls1 := hls k
          unfold lstep at hls1
          have hd := hdb k
          have hdk := hdm k
          generalize lrun (defM n m E) n k = x at *
          have hx3 := hki.h3
          rw [hT] at hx3
          have hx0 := hki.h0
          have hx60 : x.1 ≤ 512 := by rcases hki.h2 with h2 | ⟨k2, _, h2⟩; omega; have := hdb k2; omega
          clear hki
          generalize defM n m E k = dk at *
          refine AW.skip ?_
          refine hK17 _ _ _ ?_; clear hK17
          refine AW.seq fun K18 hK18 => ?_
          refine AW.block ?_
          refine AW.seq fun K19 hK19 => ?_
          -- region 14
          refine AW.regionK 0 (fun _ => none) [0, 1, 2, 7, 9, 10, 11, 12, 13, 14, 78, 79] [9, 76] ?_
          simp only [go_sem, reduceIte, reduceCtorEq, Nat.reduceAdd, Nat.reduceMul, Nat.reduceEqDiff, Nat.reduceLT, Nat.reduceLeDiff, Nat.reduceSub, Nat.reducePow, Nat.reduceBEq, Int.reduceToNat, List.reduceReplicate, bools_len]
          repeat with_reducible refine cj ?_ ?_
          all_goals try first | omega
          refine hK19 _ _ _ ?_; clear hK19
          refine AW.seq fun K20 hK20 => ?_
          refine AW.seq fun K21 hK21 => ?_
          -- region 15
          refine AW.regionK 0 (fun _ => none) [0, 1, 2, 7, 9, 10, 11, 12, 13, 14, 78, 79, 82, 83] [9, 76] ?_
          simp only [go_sem, reduceIte, reduceCtorEq, Nat.reduceAdd, Nat.reduceMul, Nat.reduceEqDiff, Nat.reduceLT, Nat.reduceLeDiff, Nat.reduceSub, Nat.reducePow, Nat.reduceBEq, Int.reduceToNat, List.reduceReplicate, bools_len]
          repeat with_reducible refine cj ?_ ?_
          all_goals try first | omega
          refine hK21 _ _ _ ?_; clear hK21
          refine AW.block ?_
          -- loop 2
          refine AW.loopE (fun mm ee ss kk => ∃ (j g9 v9 g v : Nat), n - j = mm ∧ ee = [(0, .int .i64 n), (1, .int .i64 m), (2, .rsl 2 (E.map pairV)), (7, .rsl 2 (Q.map pairV)), (9, .ptr ⟨9, g9, none⟩ 0 0), (10, .int .i64 0), (11, .int .i64 (x.2 : Nat)), (12, .int .i64 x.1), (13, .sl ⟨76, g, none⟩ 0 n none), (14, .int .i64 (k : Nat)), (78, .int .i64 (T : Nat)), (79, .int .i64 (k : Nat)), (82, .int .i64 n), (83, .int .i64 (j : Nat))] ∧ ss = [(9, some ⟨g9, v9, 2, [[.int .i64 n, .rsl 1 (words W)]]⟩), (76, some ⟨g, v, 1, bools (mixF n k fl j)⟩)] ∧ (j ≤ n)) ?_ ?_
          · refine ⟨_, 0, ?_, ?_, ?_, ?_, rfl, ?henv, ?hstore, ?hst⟩
            case henv =>
              repeat' (first | rfl | refine env_cons ?_ ?_ | refine st_cons ?_ ?_ ?_ ?_ | refine int_eq ?_ | refine bool_eq ?_ | refine rsl_eq ?_ | refine osl_eq ?_ | refine sl_eq ?_ ?_ ?_ | refine ptr_eq ?_ ?_ ?_ | refine agg_eq ?_ | refine es_cons ?_ ?_ | refine row_cons ?_ ?_)
              all_goals (first | (simp; done) | omega | (simp; omega))
            case hstore =>
              repeat' (first | rfl | refine env_cons ?_ ?_ | refine st_cons ?_ ?_ ?_ ?_ | refine int_eq ?_ | refine bool_eq ?_ | refine rsl_eq ?_ | refine osl_eq ?_ | refine sl_eq ?_ ?_ ?_ | refine ptr_eq ?_ ?_ ?_ | refine agg_eq ?_ | refine es_cons ?_ ?_ | refine row_cons ?_ ?_)
              all_goals simp [mixF]
            case hst =>
              first | trivial | omega | (simp; done) | (simp; omega)
          rintro mm ee ss kk ⟨j, g9, v9, g, v, rfl, rfl, rfl, hI⟩
          generalize hQl2 : thenQ _ _ = Ql2
          refine AW.seq fun K22 hK22 => ?_
          -- region 16
          refine AW.regionK 0 (fun _ => none) [0, 1, 2, 7, 9, 10, 11, 12, 13, 14, 78, 79, 82, 83, 84] [9, 76] ?_
          simp only [go_sem, reduceIte, reduceCtorEq, Nat.reduceAdd, Nat.reduceMul, Nat.reduceEqDiff, Nat.reduceLT, Nat.reduceLeDiff, Nat.reduceSub, Nat.reducePow, Nat.reduceBEq, Int.reduceToNat, List.reduceReplicate, bools_len]
          repeat with_reducible refine cj ?_ ?_
          all_goals try first | omega
          refine hK22 _ _ _ ?_; clear hK22
          refine AW.seq fun K23 hK23 => ?_
          -- cond 5
          refine AW.cond rfl (by simp only [go_sem, reduceIte, reduceCtorEq, Nat.reduceAdd, Nat.reduceMul, Nat.reduceEqDiff, Nat.reduceLT, Nat.reduceLeDiff, Nat.reduceSub, Nat.reducePow, Nat.reduceBEq, Int.reduceToNat, List.reduceReplicate]) ?_ ?_
          · intro hb
            try simp only [hB, decide_eq_true_eq, decide_eq_false_iff_not] at hb
            have hb64 := bit64 (k := k) (i := j) (by omega) (by omega)
            have hml := mixF_len (k := k) hfl (j := j) (by omega)
            have hsu := mixF_succ (k := k) hfl (j := j) (by omega)
            have hus := bools_upd (mixF n k fl j) j (k.testBit j)
            rw [hsu] at hus
            refine AW.skip ?_
            refine hK23 _ _ _ ?_; clear hK23
            refine AW.seq fun K24 hK24 => ?_
            refine AW.block ?_
            refine AW.seq fun K25 hK25 => ?_
            -- region 17
            refine AW.regionK 0 (fun _ => none) [0, 1, 2, 7, 9, 10, 11, 12, 13, 14, 15, 78, 79, 82, 83] [9, 76] ?_
            simp only [go_sem, reduceIte, reduceCtorEq, Nat.reduceAdd, Nat.reduceMul, Nat.reduceEqDiff, Nat.reduceLT, Nat.reduceLeDiff, Nat.reduceSub, Nat.reducePow, Nat.reduceBEq, Int.reduceToNat, List.reduceReplicate, bools_len]
            repeat with_reducible refine cj ?_ ?_
            all_goals try first | omega
            refine hK25 _ _ _ ?_; clear hK25
            -- region 18
            refine AW.regionK 0 (fun _ => none) [0, 1, 2, 7, 9, 10, 11, 12, 13, 14, 78, 79, 82, 83] [9, 76] ?_
            simp only [go_sem, reduceIte, reduceCtorEq, Nat.reduceAdd, Nat.reduceMul, Nat.reduceEqDiff, Nat.reduceLT, Nat.reduceLeDiff, Nat.reduceSub, Nat.reducePow, Nat.reduceBEq, Int.reduceToNat, List.reduceReplicate, bools_len, hb64, hml, hus]
            repeat with_reducible refine cj ?_ ?_
            all_goals try first | omega
            refine hK24 _ _ _ ?_; clear hK24
            -- region 19
            refine AW.regionK 0 (fun _ => none) [0, 1, 2, 7, 9, 10, 11, 12, 13, 14, 78, 79, 82, 83] [9, 76] ?_
            simp only [go_sem, reduceIte, reduceCtorEq, Nat.reduceAdd, Nat.reduceMul, Nat.reduceEqDiff, Nat.reduceLT, Nat.reduceLeDiff, Nat.reduceSub, Nat.reducePow, Nat.reduceBEq, Int.reduceToNat, List.reduceReplicate, bools_len]
            repeat with_reducible refine cj ?_ ?_
            all_goals try first | omega
            rw [← hQl2]
            change Exists _
            refine ⟨_, ?hm, j + 1, ?_, ?_, ?_, ?_, rfl, ?henv, ?hstore, ?hst⟩
            case henv =>
              repeat' (first | rfl | refine env_cons ?_ ?_ | refine st_cons ?_ ?_ ?_ ?_ | refine int_eq ?_ | refine bool_eq ?_ | refine rsl_eq ?_ | refine osl_eq ?_ | refine sl_eq ?_ ?_ ?_ | refine ptr_eq ?_ ?_ ?_ | refine agg_eq ?_ | refine es_cons ?_ ?_ | refine row_cons ?_ ?_)
              all_goals (first | (simp; done) | omega | (simp; omega))
            case hstore =>
              repeat' (first | rfl | refine env_cons ?_ ?_ | refine st_cons ?_ ?_ ?_ ?_ | refine int_eq ?_ | refine bool_eq ?_ | refine rsl_eq ?_ | refine osl_eq ?_ | refine sl_eq ?_ ?_ ?_ | refine ptr_eq ?_ ?_ ?_ | refine agg_eq ?_ | refine es_cons ?_ ?_ | refine row_cons ?_ ?_)
              all_goals (first | (simp; done) | omega | (simp; omega))
            case hst =>
              first | trivial | omega | (simp; done) | (simp; omega)
            case hm => omega
          · intro hb
            try simp only [hB, decide_eq_true_eq, decide_eq_false_iff_not] at hb
            have hj : n = j := by omega
            subst hj
            rw [mixF_all hfl]
            have hmt : (bools (maskF n k)).take n = bools (maskF n k) := List.take_of_length_le (by rw [bools_len, maskF_len]; exact Nat.le_refl _)
            refine AW.keep [0, 1, 2, 7, 9, 10, 11, 12, 13, 14, 78, 79] [9, 76] ?_
            try simp only [go_sem, reduceIte, reduceCtorEq, Nat.reduceAdd, Nat.reduceMul, Nat.reduceEqDiff, Nat.reduceLT, Nat.reduceLeDiff, Nat.reduceSub, Nat.reducePow, Nat.reduceBEq, Int.reduceToNat, List.reduceReplicate]
            refine AW.exit ?_
            rw [← hQl2]
            refine hK20 _ _ _ ?_; clear hK20
            refine AW.seq fun K26 hK26 => ?_
            -- region 20
            refine AW.regionK 0 (fun ii => if ii = 3 then some (.reads true (.int .i64 dk)) else none) [0, 1, 2, 7, 9, 10, 11, 12, 13, 14, 16, 78, 79] [9, 76] ?_
            simp only [go_sem, reduceIte, reduceCtorEq, Nat.reduceAdd, Nat.reduceMul, Nat.reduceEqDiff, Nat.reduceLT, Nat.reduceLeDiff, Nat.reduceSub, Nat.reducePow, Nat.reduceBEq, Int.reduceToNat, List.reduceReplicate, bools_len, hmt, vwc_bools]
            repeat with_reducible refine cj ?_ ?_
            all_goals try first | (exact Reads.flat hdk rfl) | omega | exact ent (by kernel_rfl)
            refine hK26 _ _ _ ?_; clear hK26
            refine AW.seq fun K27 hK27 => ?_
            -- region 21
            refine AW.regionK 0 (fun _ => none) [0, 1, 2, 7, 9, 10, 11, 12, 13, 14, 16, 78, 79, 101] [9, 76] ?_
            simp only [go_sem, reduceIte, reduceCtorEq, Nat.reduceAdd, Nat.reduceMul, Nat.reduceEqDiff, Nat.reduceLT, Nat.reduceLeDiff, Nat.reduceSub, Nat.reducePow, Nat.reduceBEq, Int.reduceToNat, List.reduceReplicate, bools_len]
            repeat with_reducible refine cj ?_ ?_
            all_goals try first | omega
            refine hK27 _ _ _ ?_; clear hK27
            -- cond 6
            refine AW.cond rfl (by simp only [go_sem, reduceIte, reduceCtorEq, Nat.reduceAdd, Nat.reduceMul, Nat.reduceEqDiff, Nat.reduceLT, Nat.reduceLeDiff, Nat.reduceSub, Nat.reducePow, Nat.reduceBEq, Int.reduceToNat, List.reduceReplicate]) ?_ ?_
            · intro hb
              try simp only [hB, decide_eq_true_eq, decide_eq_false_iff_not] at hb
              obtain ⟨w, hw⟩ : ∃ w, w = (dk, k) := ⟨_, rfl⟩
              have hst : lrun (defM n m E) n (k + 1) = w := by rw [hls1, hw, if_pos hb]
              -- region 22
              refine AW.regionK 0 (fun _ => none) [0, 1, 2, 7, 9, 10, 11, 12, 13, 78, 79] [9, 76] ?_
              simp only [go_sem, reduceIte, reduceCtorEq, Nat.reduceAdd, Nat.reduceMul, Nat.reduceEqDiff, Nat.reduceLT, Nat.reduceLeDiff, Nat.reduceSub, Nat.reducePow, Nat.reduceBEq, Int.reduceToNat, List.reduceReplicate, bools_len]
              repeat with_reducible refine cj ?_ ?_
              all_goals try first | omega
              refine hK18 _ _ _ ?_; clear hK18
              -- region 25
              refine AW.regionK 0 (fun _ => none) [0, 1, 2, 7, 9, 10, 11, 12, 13, 78, 79] [9, 76] ?_
              simp only [go_sem, reduceIte, reduceCtorEq, Nat.reduceAdd, Nat.reduceMul, Nat.reduceEqDiff, Nat.reduceLT, Nat.reduceLeDiff, Nat.reduceSub, Nat.reducePow, Nat.reduceBEq, Int.reduceToNat, List.reduceReplicate, bools_len]
              repeat with_reducible refine cj ?_ ?_
              all_goals try first | omega
              rw [← hQl1]
              change Exists _
              refine ⟨_, ?hm, k + 1, ?_, ?_, ?_, ?_, maskF n k, rfl, ?henv, ?hstore, ?hst⟩
              case henv =>
                repeat' (first | rfl | refine env_cons ?_ ?_ | refine st_cons ?_ ?_ ?_ ?_ | refine int_eq ?_ | refine bool_eq ?_ | refine rsl_eq ?_ | refine osl_eq ?_ | refine sl_eq ?_ ?_ ?_ | refine ptr_eq ?_ ?_ ?_ | refine agg_eq ?_ | refine es_cons ?_ ?_ | refine row_cons ?_ ?_)
                all_goals (first | (rw [hst, hw]; done) | omega | (simp; done))
              case hstore =>
                repeat' (first | rfl | refine env_cons ?_ ?_ | refine st_cons ?_ ?_ ?_ ?_ | refine int_eq ?_ | refine bool_eq ?_ | refine rsl_eq ?_ | refine osl_eq ?_ | refine sl_eq ?_ ?_ ?_ | refine ptr_eq ?_ ?_ ?_ | refine agg_eq ?_ | refine es_cons ?_ ?_ | refine row_cons ?_ ?_)
                all_goals (first | (simp; done) | omega | (simp; omega))
              case hst =>
                exact ⟨by omega, maskF_len n k⟩
              case hm => omega
            · intro hb
              try simp only [hB, decide_eq_true_eq, decide_eq_false_iff_not] at hb
              refine AW.seq fun K28 hK28 => ?_
              -- region 23
              refine AW.regionK 0 (fun _ => none) [0, 1, 2, 7, 9, 10, 11, 12, 13, 14, 78, 79, 106] [9, 76] ?_
              simp only [go_sem, reduceIte, reduceCtorEq, Nat.reduceAdd, Nat.reduceMul, Nat.reduceEqDiff, Nat.reduceLT, Nat.reduceLeDiff, Nat.reduceSub, Nat.reducePow, Nat.reduceBEq, Int.reduceToNat, List.reduceReplicate, bools_len]
              repeat with_reducible refine cj ?_ ?_
              all_goals try first | omega
              refine hK28 _ _ _ ?_; clear hK28
              -- cond 7
              refine AW.cond rfl (by simp only [go_sem, reduceIte, reduceCtorEq, Nat.reduceAdd, Nat.reduceMul, Nat.reduceEqDiff, Nat.reduceLT, Nat.reduceLeDiff, Nat.reduceSub, Nat.reducePow, Nat.reduceBEq, Int.reduceToNat, List.reduceReplicate]) ?_ ?_
              · intro hb
                try simp only [hB, decide_eq_true_eq, decide_eq_false_iff_not] at hb
                obtain ⟨w, hw⟩ : ∃ w, w = (x.1, x.2 &&& k) := ⟨_, rfl⟩
                have hst : lrun (defM n m E) n (k + 1) = w := by rw [hls1, hw, if_neg (by omega), if_pos hb]
                have han := and64 (a := x.2) (b := k) (by omega) (by omega)
                -- region 24
                refine AW.regionK 0 (fun _ => none) [0, 1, 2, 7, 9, 10, 11, 12, 13, 78, 79] [9, 76] ?_
                simp only [go_sem, reduceIte, reduceCtorEq, Nat.reduceAdd, Nat.reduceMul, Nat.reduceEqDiff, Nat.reduceLT, Nat.reduceLeDiff, Nat.reduceSub, Nat.reducePow, Nat.reduceBEq, Int.reduceToNat, List.reduceReplicate, bools_len, han]
                repeat with_reducible refine cj ?_ ?_
                all_goals try first | omega
                refine hK18 _ _ _ ?_; clear hK18
                -- region 25
                refine AW.regionK 0 (fun _ => none) [0, 1, 2, 7, 9, 10, 11, 12, 13, 78, 79] [9, 76] ?_
                simp only [go_sem, reduceIte, reduceCtorEq, Nat.reduceAdd, Nat.reduceMul, Nat.reduceEqDiff, Nat.reduceLT, Nat.reduceLeDiff, Nat.reduceSub, Nat.reducePow, Nat.reduceBEq, Int.reduceToNat, List.reduceReplicate, bools_len]
                repeat with_reducible refine cj ?_ ?_
                all_goals try first | omega
                rw [← hQl1]
                change Exists _
                refine ⟨_, ?hm, k + 1, ?_, ?_, ?_, ?_, maskF n k, rfl, ?henv, ?hstore, ?hst⟩
                case henv =>
                  repeat' (first | rfl | refine env_cons ?_ ?_ | refine st_cons ?_ ?_ ?_ ?_ | refine int_eq ?_ | refine bool_eq ?_ | refine rsl_eq ?_ | refine osl_eq ?_ | refine sl_eq ?_ ?_ ?_ | refine ptr_eq ?_ ?_ ?_ | refine agg_eq ?_ | refine es_cons ?_ ?_ | refine row_cons ?_ ?_)
                  all_goals (first | (rw [hst, hw]; done) | omega | (simp; done))
                case hstore =>
                  repeat' (first | rfl | refine env_cons ?_ ?_ | refine st_cons ?_ ?_ ?_ ?_ | refine int_eq ?_ | refine bool_eq ?_ | refine rsl_eq ?_ | refine osl_eq ?_ | refine sl_eq ?_ ?_ ?_ | refine ptr_eq ?_ ?_ ?_ | refine agg_eq ?_ | refine es_cons ?_ ?_ | refine row_cons ?_ ?_)
                  all_goals (first | (simp; done) | omega | (simp; omega))
                case hst =>
                  exact ⟨by omega, maskF_len n k⟩
                case hm => omega
              · intro hb
                try simp only [hB, decide_eq_true_eq, decide_eq_false_iff_not] at hb
                obtain ⟨w, hw⟩ : ∃ w, w = x := ⟨_, rfl⟩
                have hst : lrun (defM n m E) n (k + 1) = w := by rw [hls1, hw, if_neg (by omega), if_neg hb]
                refine AW.skip ?_
                refine hK18 _ _ _ ?_; clear hK18
                -- region 25
                refine AW.regionK 0 (fun _ => none) [0, 1, 2, 7, 9, 10, 11, 12, 13, 78, 79] [9, 76] ?_
                simp only [go_sem, reduceIte, reduceCtorEq, Nat.reduceAdd, Nat.reduceMul, Nat.reduceEqDiff, Nat.reduceLT, Nat.reduceLeDiff, Nat.reduceSub, Nat.reducePow, Nat.reduceBEq, Int.reduceToNat, List.reduceReplicate, bools_len]
                repeat with_reducible refine cj ?_ ?_
                all_goals try first | omega
                rw [← hQl1]
                change Exists _
                refine ⟨_, ?hm, k + 1, ?_, ?_, ?_, ?_, maskF n k, rfl, ?henv, ?hstore, ?hst⟩
                case henv =>
                  repeat' (first | rfl | refine env_cons ?_ ?_ | refine st_cons ?_ ?_ ?_ ?_ | refine int_eq ?_ | refine bool_eq ?_ | refine rsl_eq ?_ | refine osl_eq ?_ | refine sl_eq ?_ ?_ ?_ | refine ptr_eq ?_ ?_ ?_ | refine agg_eq ?_ | refine es_cons ?_ ?_ | refine row_cons ?_ ?_)
                  all_goals (first | (rw [hst, hw]; done) | omega | (simp; done))
                case hstore =>
                  repeat' (first | rfl | refine env_cons ?_ ?_ | refine st_cons ?_ ?_ ?_ ?_ | refine int_eq ?_ | refine bool_eq ?_ | refine rsl_eq ?_ | refine osl_eq ?_ | refine sl_eq ?_ ?_ ?_ | refine ptr_eq ?_ ?_ ?_ | refine agg_eq ?_ | refine es_cons ?_ ?_ | refine row_cons ?_ ?_)
                  all_goals (first | (simp; done) | omega | (simp; omega))
                case hst =>
                  exact ⟨by omega, maskF_len n k⟩
                case hm => omega
        · intro hb
          try simp only [hB, decide_eq_true_eq, decide_eq_false_iff_not] at hb
          have hkT : T = k := by omega
          subst hkT
          have hx3T := (hlI T (Nat.le_refl _)).h3
          generalize lrun (defM n m E) n T = x at *
          have hcn : c ≤ n := by omega
          refine AW.keep [0, 7, 9, 10, 11, 12] [9] ?_
          try simp only [go_sem, reduceIte, reduceCtorEq, Nat.reduceAdd, Nat.reduceMul, Nat.reduceEqDiff, Nat.reduceLT, Nat.reduceLeDiff, Nat.reduceSub, Nat.reducePow, Nat.reduceBEq, Int.reduceToNat, List.reduceReplicate]
          refine AW.exit ?_
          rw [← hQl1]
          refine hK14 _ _ _ ?_; clear hK14
          refine AW.seq fun K29 hK29 => ?_
          refine AW.seq fun K30 hK30 => ?_
          -- region 26
          refine AW.regionK 0 (fun _ => none) [0, 7, 9, 10, 11, 12, 112] [9] ?_
          simp only [go_sem, reduceIte, reduceCtorEq, Nat.reduceAdd, Nat.reduceMul, Nat.reduceEqDiff, Nat.reduceLT, Nat.reduceLeDiff, Nat.reduceSub, Nat.reducePow, Nat.reduceBEq, Int.reduceToNat, List.reduceReplicate, bools_len]
          repeat with_reducible refine cj ?_ ?_
          all_goals try first | omega
          refine hK30 _ _ _ ?_; clear hK30
          -- cond 8
          refine AW.cond rfl (by simp only [go_sem, reduceIte, reduceCtorEq, Nat.reduceAdd, Nat.reduceMul, Nat.reduceEqDiff, Nat.reduceLT, Nat.reduceLeDiff, Nat.reduceSub, Nat.reducePow, Nat.reduceBEq, Int.reduceToNat, List.reduceReplicate]) ?_ ?_
          · intro hb
            try simp only [hB, decide_eq_true_eq, decide_eq_false_iff_not] at hb
            exfalso; omega
          · intro hb
            try simp only [hB, decide_eq_true_eq, decide_eq_false_iff_not] at hb
            refine AW.skip ?_
            refine hK29 _ _ _ ?_; clear hK29
            refine AW.seq fun K31 hK31 => ?_
            refine AW.seq fun K32 hK32 => ?_
            -- region 28
            refine AW.regionK 0 (fun _ => none) [0, 9, 11, 130] [9] ?_
            simp only [go_sem, reduceIte, reduceCtorEq, Nat.reduceAdd, Nat.reduceMul, Nat.reduceEqDiff, Nat.reduceLT, Nat.reduceLeDiff, Nat.reduceSub, Nat.reducePow, Nat.reduceBEq, Int.reduceToNat, List.reduceReplicate, bools_len]
            repeat with_reducible refine cj ?_ ?_
            all_goals try first | omega | (intros; (repeat' apply And.intro) <;> first | assumption | omega | decide) | (intro hgd; exact absurd hgd (by decide)) | rfl | (simp only [go_sem, reduceIte, reduceCtorEq, Nat.reduceAdd, Nat.reduceMul, Nat.reduceEqDiff, Nat.reduceLT, Nat.reduceLeDiff, Nat.reduceSub, Nat.reducePow, Nat.reduceBEq, Int.reduceToNat, List.reduceReplicate, bools_len]; done) | (intro _hgd; simp_all [go_sem]; done)
            refine hK32 _ _ _ ?_; clear hK32
            -- cond 9
            refine AW.cond rfl (by simp only [go_sem, reduceIte, reduceCtorEq, Nat.reduceAdd, Nat.reduceMul, Nat.reduceEqDiff, Nat.reduceLT, Nat.reduceLeDiff, Nat.reduceSub, Nat.reducePow, Nat.reduceBEq, Int.reduceToNat, List.reduceReplicate]) ?_ ?_
            · intro hb
              try simp only [hB, decide_eq_true_eq, decide_eq_false_iff_not] at hb
              exfalso; revert hb; simp; omega
            · intro hb
              try simp only [hB, decide_eq_true_eq, decide_eq_false_iff_not] at hb
              have hms2 := hms2 (by omega)
              refine AW.skip ?_
              refine hK31 _ _ _ ?_; clear hK31
              refine AW.seq fun K33 hK33 => ?_
              refine AW.seq fun K34 hK34 => ?_
              -- region 30
              refine AW.regionK 0 (fun _ => none) [9, 11, 131, 132] [9] ?_
              simp only [go_sem, reduceIte, reduceCtorEq, Nat.reduceAdd, Nat.reduceMul, Nat.reduceEqDiff, Nat.reduceLT, Nat.reduceLeDiff, Nat.reduceSub, Nat.reducePow, Nat.reduceBEq, Int.reduceToNat, List.reduceReplicate, bools_len]
              repeat with_reducible refine cj ?_ ?_
              all_goals try first | omega
              refine hK34 _ _ _ ?_; clear hK34
              refine AW.block ?_
              -- loop 3
              refine AW.loopE (fun mm ee ss kk => ∃ (j g9 v9 : Nat), n - j = mm ∧ ee = [(9, .ptr ⟨9, g9, none⟩ 0 0), (11, .int .i64 (x.2 : Nat)), (131, .int .i64 n), (132, .int .i64 (j : Nat))] ∧ ss = [(9, some ⟨g9, v9, 2, [[.int .i64 n, .rsl 1 (words W)]]⟩)] ∧ (j ≤ n)) ?_ ?_
              · refine ⟨_, 0, ?_, ?_, rfl, ?henv, ?hstore, ?hst⟩
                case henv =>
                  repeat' (first | rfl | refine env_cons ?_ ?_ | refine st_cons ?_ ?_ ?_ ?_ | refine int_eq ?_ | refine bool_eq ?_ | refine rsl_eq ?_ | refine osl_eq ?_ | refine sl_eq ?_ ?_ ?_ | refine ptr_eq ?_ ?_ ?_ | refine agg_eq ?_ | refine es_cons ?_ ?_ | refine row_cons ?_ ?_)
                  all_goals (first | (simp; done) | omega | (simp; omega))
                case hstore =>
                  repeat' (first | rfl | refine env_cons ?_ ?_ | refine st_cons ?_ ?_ ?_ ?_ | refine int_eq ?_ | refine bool_eq ?_ | refine rsl_eq ?_ | refine osl_eq ?_ | refine sl_eq ?_ ?_ ?_ | refine ptr_eq ?_ ?_ ?_ | refine agg_eq ?_ | refine es_cons ?_ ?_ | refine row_cons ?_ ?_)
                  all_goals (first | (simp; done) | omega | (simp; omega))
                case hst =>
                  first | trivial | omega | (simp; done) | (simp; omega)
              rintro mm ee ss kk ⟨j, g9, v9, rfl, rfl, rfl, hI⟩
              generalize hQl3 : thenQ _ _ = Ql3
              refine AW.seq fun K35 hK35 => ?_
              -- region 31
              refine AW.regionK 0 (fun _ => none) [9, 11, 131, 132, 133] [9] ?_
              simp only [go_sem, reduceIte, reduceCtorEq, Nat.reduceAdd, Nat.reduceMul, Nat.reduceEqDiff, Nat.reduceLT, Nat.reduceLeDiff, Nat.reduceSub, Nat.reducePow, Nat.reduceBEq, Int.reduceToNat, List.reduceReplicate, bools_len]
              repeat with_reducible refine cj ?_ ?_
              all_goals try first | omega
              refine hK35 _ _ _ ?_; clear hK35
              refine AW.seq fun K36 hK36 => ?_
              -- cond 10
              refine AW.cond rfl (by simp only [go_sem, reduceIte, reduceCtorEq, Nat.reduceAdd, Nat.reduceMul, Nat.reduceEqDiff, Nat.reduceLT, Nat.reduceLeDiff, Nat.reduceSub, Nat.reducePow, Nat.reduceBEq, Int.reduceToNat, List.reduceReplicate]) ?_ ?_
              · intro hb
                try simp only [hB, decide_eq_true_eq, decide_eq_false_iff_not] at hb
                have hh := hhs (j : Int) (by omega) (by omega)
                rw [Int.toNat_natCast] at hh
                have hbt := hms2 j (by omega)
                have hx3 : x.2 < T := by rw [← hT]; exact hx3T
                have hb64 := bit64 (k := x.2) (i := j) (by omega) (by omega)
                rw [hbt] at hb64
                refine AW.skip ?_
                refine hK36 _ _ _ ?_; clear hK36
                refine AW.seq fun K37 hK37 => ?_
                refine AW.block ?_
                refine AW.seq fun K38 hK38 => ?_
                -- region 32
                refine AW.regionK 0 (fun _ => none) [9, 11, 17, 131, 132] [9] ?_
                simp only [go_sem, reduceIte, reduceCtorEq, Nat.reduceAdd, Nat.reduceMul, Nat.reduceEqDiff, Nat.reduceLT, Nat.reduceLeDiff, Nat.reduceSub, Nat.reducePow, Nat.reduceBEq, Int.reduceToNat, List.reduceReplicate, bools_len]
                repeat with_reducible refine cj ?_ ?_
                all_goals try first | omega
                refine hK38 _ _ _ ?_; clear hK38
                refine AW.seq fun K39 hK39 => ?_
                -- region 33
                refine AW.regionD mixed 0 (fun ii => if ii = 2 then some (.reads false (.bool (S.getD j false))) else none) [9, 11, 131, 132, 143] [9] ?_
                simp only [go_sem, reduceIte, reduceCtorEq, Nat.reduceAdd, Nat.reduceMul, Nat.reduceEqDiff, Nat.reduceLT, Nat.reduceLeDiff, Nat.reduceSub, Nat.reducePow, Nat.reduceBEq, Int.reduceToNat, List.reduceReplicate, bools_len, hb64]
                repeat with_reducible refine cj ?_ ?_
                all_goals try first | (exact hh) | omega | exact chk (by kernel_rfl) | exact ent (by kernel_rfl)
                refine hK39 _ _ _ ?_; clear hK39
                -- cond 11
                refine AW.cond rfl (by simp only [go_sem, reduceIte, reduceCtorEq, Nat.reduceAdd, Nat.reduceMul, Nat.reduceEqDiff, Nat.reduceLT, Nat.reduceLeDiff, Nat.reduceSub, Nat.reducePow, Nat.reduceBEq, Int.reduceToNat, List.reduceReplicate]) ?_ ?_
                · intro hb
                  try simp only [hB, decide_eq_true_eq, decide_eq_false_iff_not] at hb
                  exfalso; simp at hb
                · intro hb
                  try simp only [hB, decide_eq_true_eq, decide_eq_false_iff_not] at hb
                  refine AW.skip ?_
                  refine hK37 _ _ _ ?_; clear hK37
                  -- region 35
                  refine AW.regionK 0 (fun _ => none) [9, 11, 131, 132] [9] ?_
                  simp only [go_sem, reduceIte, reduceCtorEq, Nat.reduceAdd, Nat.reduceMul, Nat.reduceEqDiff, Nat.reduceLT, Nat.reduceLeDiff, Nat.reduceSub, Nat.reducePow, Nat.reduceBEq, Int.reduceToNat, List.reduceReplicate, bools_len]
                  repeat with_reducible refine cj ?_ ?_
                  all_goals try first | omega
                  rw [← hQl3]
                  change Exists _
                  refine ⟨_, ?hm, j + 1, ?_, ?_, rfl, ?henv, ?hstore, ?hst⟩
                  case henv =>
                    repeat' (first | rfl | refine env_cons ?_ ?_ | refine st_cons ?_ ?_ ?_ ?_ | refine int_eq ?_ | refine bool_eq ?_ | refine rsl_eq ?_ | refine osl_eq ?_ | refine sl_eq ?_ ?_ ?_ | refine ptr_eq ?_ ?_ ?_ | refine agg_eq ?_ | refine es_cons ?_ ?_ | refine row_cons ?_ ?_)
                    all_goals (first | (simp; done) | omega | (simp; omega))
                  case hstore =>
                    repeat' (first | rfl | refine env_cons ?_ ?_ | refine st_cons ?_ ?_ ?_ ?_ | refine int_eq ?_ | refine bool_eq ?_ | refine rsl_eq ?_ | refine osl_eq ?_ | refine sl_eq ?_ ?_ ?_ | refine ptr_eq ?_ ?_ ?_ | refine agg_eq ?_ | refine es_cons ?_ ?_ | refine row_cons ?_ ?_)
                    all_goals (first | (simp; done) | omega | (simp; omega))
                  case hst =>
                    first | trivial | omega | (simp; done) | (simp; omega)
                  case hm => omega
              · intro hb
                try simp only [hB, decide_eq_true_eq, decide_eq_false_iff_not] at hb
                refine AW.keep [] [] ?_
                try simp only [go_sem, reduceIte, reduceCtorEq, Nat.reduceAdd, Nat.reduceMul, Nat.reduceEqDiff, Nat.reduceLT, Nat.reduceLeDiff, Nat.reduceSub, Nat.reducePow, Nat.reduceBEq, Int.reduceToNat, List.reduceReplicate]
                refine AW.exit ?_
                rw [← hQl3]
                refine hK33 _ _ _ ?_; clear hK33
                refine AW.seq fun K40 hK40 => ?_
                -- region 36
                refine AW.regionK 0 (fun _ => none) [6] [] ?_
                simp only [go_sem, reduceIte, reduceCtorEq, Nat.reduceAdd, Nat.reduceMul, Nat.reduceEqDiff, Nat.reduceLT, Nat.reduceLeDiff, Nat.reduceSub, Nat.reducePow, Nat.reduceBEq, Int.reduceToNat, List.reduceReplicate, bools_len]
                repeat with_reducible refine cj ?_ ?_
                all_goals try first | omega
                refine hK40 _ _ _ ?_; clear hK40
                refine AW.ret ?_
                rw [← hQr]
                simp only [go_sem, reduceIte, reduceCtorEq, Nat.reduceAdd, Nat.reduceMul, Nat.reduceEqDiff, Nat.reduceLT, Nat.reduceLeDiff, Nat.reduceSub, Nat.reducePow, Nat.reduceBEq, Int.reduceToNat, List.reduceReplicate, bools_len]
                exact Wk.refl _
theorem law_hall (n m : Int) (E : List (Int × Int)) (hl : E.length ≤ 9223372036854775807) : Reads Try.prog 4 false [.int .i64 n, .int .i64 m, .rsl 2 (E.map pairV)] (.bool true) := by
  by_cases hv : validM n m E = true
  · obtain ⟨a, b, rfl, rfl, h⟩ := gd_of hv
    by_cases hz : (rchM a b E).l.length = 0
    · exact hall_z h hz
    · exact hall_nz h hz
  · exact hall_bad_law n m E hl (by simpa using hv)
end Go.Proofs.M

