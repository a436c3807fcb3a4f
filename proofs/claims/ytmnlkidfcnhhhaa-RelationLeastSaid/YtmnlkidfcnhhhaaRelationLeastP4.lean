/- Lemmas and contracts, part 4: an abstract machine over the model, and the functions that the statement reaches. -/
import Derived.Test.YtmnlkidfcnhhhaaRelationLeastP3
import Derived.WalkKit
import Derived.Deep.RegionLaw
import Derived.Deep.LoopGhost
import Derived.Lib.Walk
import Derived.Lib.SliceRun
import Derived.Shelf.RegionOpenPlain
import Derived.Carry
import Derived.RowKit
import Derived.OpenShut
import Derived.Below
import Derived.ChangeSame
import Derived.JoinedOf
import Derived.Handed
import Derived.Test.YtmnlkidfcnhhhaaRows
set_option linter.unusedVariables false
set_option linter.unusedSimpArgs false
/- The program's cycle. -/
namespace Go.AM
abbrev CSt := List Int × List Int × Int
def cycI (t : List (List Bool)) (f at_ v : Int) (i : Nat) (st : CSt) : CSt :=
  if atT t i v.toNat then
    if (i : Int) ≠ f ∧ st.1.getD i 0 < 0 then (st.1.set i (at_ + 1), st.2.1 ++ [(i : Int)], if (i : Int) = f ∧ st.2.2 = 0 then at_ + 1 else st.2.2)
    else (st.1, st.2.1, if (i : Int) = f ∧ st.2.2 = 0 then at_ + 1 else st.2.2)
  else st
theorem cycI_eq (t : List (List Bool)) (f at_ v : Int) (i : Nat) (st : CSt) : cycI t f at_ v i st =
  if atT t i v.toNat then
    if (i : Int) ≠ f ∧ st.1.getD i 0 < 0 then (st.1.set i (at_ + 1), st.2.1 ++ [(i : Int)], if (i : Int) = f ∧ st.2.2 = 0 then at_ + 1 else st.2.2)
    else (st.1, st.2.1, if (i : Int) = f ∧ st.2.2 = 0 then at_ + 1 else st.2.2)
  else st := rfl
def cycAt (k : Nat) (st : CSt) : Int := if 0 < k then st.1.getD (st.2.1.getD k 0).toNat 0 else 0
def cycK (t : List (List Bool)) (n : Nat) (f : Int) (k : Nat) (st : CSt) : CSt := iter (cycI t f (cycAt k st) (st.2.1.getD k 0)) n st
def cycB (t : List (List Bool)) (n : Nat) (f : Int) : Nat → Nat → CSt → Option CSt
  | 0, k, st => if k < st.2.1.length then none else some st
  | m + 1, k, st => if k < st.2.1.length then cycB t n f m (k + 1) (cycK t n f k st) else some st
def cyc0 (n : Nat) (f : Int) : CSt := (List.replicate n (-1), [f], 0)
/-- The next node of the cycle. -/
def stepO (t : List (List Bool)) (n : Nat) (f : Int) (steps : List Int) (last left : Int) : Option Nat := (List.range n).find? fun j => atT t last.toNat j && decide ((j : Int) ≠ f) && decide (steps.getD j 0 = left)
def lastO (out : List Int) : Int := out.getD (out.length - 1) 0
def outW (t : List (List Bool)) (n : Nat) (f : Int) (steps : List Int) : Nat → List Int → List Int
  | 0, out => out
  | m + 1, out => outW t n f steps m (match stepO t n f steps (lastO out) (m + 1 : Nat) with
    | some j => out ++ [(j : Int)]
    | none => out)
def firstC (n : Nat) (t : List (List Bool)) : Option Nat := (List.range n).find? fun i => atT (warsh n t) i i
structure WfC (n : Nat) (f : Int) (st : CSt) : Prop where
  len : st.1.length = n
  rng : ∀ v ∈ st.2.1, 0 ≤ v ∧ v < n
  cnt : st.1.count (-1) + st.2.1.length ≤ n + 1
  vals : ∀ i, -1 ≤ st.1.getD i 0 ∧ st.1.getD i 0 ≤ st.2.1.length + 1
  ln : 0 ≤ st.2.2 ∧ st.2.2 ≤ st.2.1.length + 2
theorem count_setI {l : List Int} {i : Nat} {k : Int} (h : l.getD i 0 = -1) (hk : k ≠ -1) : (l.set i k).count (-1) + 1 = l.count (-1) := by
  have hi : i < l.length := by
    rcases Nat.lt_or_ge i l.length with h1 | h1
    · exact h1
    · rw [Go.AM.getD_out h1] at h; omega
  rw [List.count_set hi]
  have e1 : l[i] = -1 := by simpa [List.getD_eq_getElem?_getD, hi] using h
  have e2 : (k == -1) = false := by simpa using hk
  have hpos : 0 < l.count (-1) := List.count_pos_iff.2 (e1 ▸ List.getElem_mem hi)
  simp only [e1, beq_self_eq_true, if_true, e2, Bool.false_eq_true, if_false]
  omega
theorem find_range_none {p : Nat → Bool} : ∀ {n : Nat}, (List.range n).find? p = none ↔ ∀ i, i < n → p i = false := fun {n} => by
  rw [List.find?_eq_none]; simp
theorem find_range_some {p : Nat → Bool} {n i : Nat} (hi : i < n) (hp : p i = true) (h : ∀ j, j < i → p j = false) : (List.range n).find? p = some i := by
  rw [List.find?_range_eq_some]
  exact ⟨hp, List.mem_range.2 hi, fun j hj => by simp [h j hj]⟩
theorem find_range_lt {p : Nat → Bool} {n i : Nat} (h : (List.range n).find? p = some i) : i < n ∧ p i = true ∧ ∀ j, j < i → p j = false := by
  rw [List.find?_range_eq_some] at h
  exact ⟨List.mem_range.1 h.2.1, h.1, fun j hj => by simpa using h.2.2 j hj⟩
end Go.AM
namespace Go.AM
theorem WfC.start {n : Nat} {f : Int} (h0 : 0 ≤ f) (h1 : f < n) : WfC n f (cyc0 n f) := by
  refine ⟨by simp [cyc0], fun v hv => ?_, by simp [cyc0], fun i => ?_, by simp [cyc0]⟩
  · simp [cyc0] at hv; subst hv; exact ⟨h0, h1⟩
  · simp only [cyc0]
    rw [List.getD_eq_getElem?_getD, List.getElem?_replicate]; split <;> simp
theorem WfC.i {n : Nat} {f : Int} {st : CSt} (h : WfC n f st) (t : List (List Bool)) {at_ : Int} (v : Int) {i : Nat} (hi : i < n) (ha0 : -1 ≤ at_) (ha1 : at_ ≤ st.2.1.length + 1) : WfC n f (cycI t f at_ v i st) ∧ st.2.1.length ≤ (cycI t f at_ v i st).2.1.length ∧ ∀ (j : Nat) (x : Int), st.2.1[j]? = some x → (cycI t f at_ v i st).2.1[j]? = some x := by
  unfold cycI
  split
  · split
    · rename_i _ hc
      have hv := h.vals i
      have hm : st.1.getD i 0 = -1 := by omega
      have hcs := count_setI hm (k := at_ + 1) (by omega)
      have hln := h.ln
      refine ⟨⟨by simp [h.len], fun x hx => ?_, ?_, fun j => ?_, ?_⟩, by simp, fun j x hj => ?_⟩
      · rcases List.mem_append.1 hx with hx | hx
        · exact h.rng x hx
        · simp at hx; subst hx; omega
      · have := h.cnt
        simp only [List.length_append, List.length_singleton]; omega
      · have := h.vals j
        simp only [List.length_append, List.length_singleton]
        by_cases e : i = j
        · subst e
          by_cases h2 : i < st.1.length
          · rw [Go.AM.getD_set_eq h2]; omega
          · rw [List.set_eq_of_length_le (by omega)]; omega
        · rw [Go.AM.getD_set_ne e]; omega
      · simp only [List.length_append, List.length_singleton]
        split <;> omega
      · rw [List.getElem?_append_left (List.getElem?_eq_some_iff.1 hj).1]; exact hj
    · have hln := h.ln
      refine ⟨⟨h.len, h.rng, h.cnt, h.vals, ?_⟩, Nat.le_refl _, fun j x hj => hj⟩
      simp only
      split <;> omega
  · exact ⟨h, Nat.le_refl _, fun j x hj => hj⟩
theorem WfC.k' {n : Nat} {f : Int} {st : CSt} (h : WfC n f st) (t : List (List Bool)) {at_ : Int} (v : Int) (ha0 : -1 ≤ at_) (ha1 : at_ ≤ st.2.1.length + 1) : ∀ m, m ≤ n → WfC n f (iter (cycI t f at_ v) m st) ∧ st.2.1.length ≤ (iter (cycI t f at_ v) m st).2.1.length ∧ ∀ (j : Nat) (x : Int), st.2.1[j]? = some x → (iter (cycI t f at_ v) m st).2.1[j]? = some x
  | 0, _ => ⟨h, Nat.le_refl _, fun _ _ hj => hj⟩
  | m + 1, hm => by
    obtain ⟨h1, h2, h3⟩ := WfC.k' h t v ha0 ha1 m (by omega)
    obtain ⟨g1, g2, g3⟩ := h1.i t v (i := m) (by omega) ha0 (by omega)
    exact ⟨g1, Nat.le_trans h2 g2, fun j x hj => g3 j x (h3 j x hj)⟩
theorem WfC.at {n : Nat} {f : Int} {st : CSt} (h : WfC n f st) (k : Nat) : -1 ≤ cycAt k st ∧ cycAt k st ≤ st.2.1.length + 1 := by
  unfold cycAt; split
  · exact h.vals _
  · omega
theorem WfC.k {n : Nat} {f : Int} {st : CSt} (h : WfC n f st) (t : List (List Bool)) (k : Nat) : WfC n f (cycK t n f k st) ∧ st.2.1.length ≤ (cycK t n f k st).2.1.length ∧ ∀ (j : Nat) (x : Int), st.2.1[j]? = some x → (cycK t n f k st).2.1[j]? = some x :=
  WfC.k' h t _ (h.at k).1 (h.at k).2 n (Nat.le_refl _)
end Go.AM

namespace Go.Proofs.R
open Go.AM Go
set_option maxRecDepth 100000
set_option maxHeartbeats 2000000
theorem cycle_c (n : Nat) (t : List (List Bool)) (hs : Sq n t) (hn : n ≤ 512) (f : Nat) (hf : firstC n t = some f) (r : CSt) (hr : cycB t n f (n + 2) 0 (cyc0 n f) = some r) :
    Reads Try.prog 31 false [relB t] (.tup [.rsl 1 (ints (outW t n f r.1 (r.2.2 - 1).toNat [(f : Int)])), .int .i64 ((0 : Nat) : Int)]) := by
  have h := valid_g n t hs hn
  have ha := closure_r n t hs hn
  have hsw := hs.warsh
  have hlw : (tabR (warsh n t)).length = n := by rw [tabR_len, hsw.len]
  have hlt : (tabR t).length = n := by rw [tabR_len, hs.len]
  have hh := fun j hj => rhas_r n (warsh n t) hsw hn j j hj hj
  have hh2 := fun i j hi hj => rhas_r n t hs hn i j hi hj
  obtain ⟨hfn, hf1, hf2⟩ := find_range_lt (p := fun i => atT (warsh n t) i i) hf
  have hrep := repeat_u (-1) n (by omega)
  have hone : [[AV.int .i64 (-1)]] = ints [-1] := rfl
  have honef : [[AV.int .i64 (f : Nat)]] = ints [(f : Int)] := rfl
  generalize warsh n t = c at *
  unfold relB at *
  refine Reads.body (rs := [.tmp 2, .tmp 3]) Try.func31 rfl Try.ntmps31 rfl (by simp) ?_
  generalize hQr : retQ _ _ _ = Qr
  -- block 3
  -- region 0
  refine AW.sg [1] [1] (e2 @hlw @hlt) ?_
  refine AW.seq fun K1 hK1 => ?_
  -- region 1
  refine AW.so 0 (fun ii => if ii = 1 then some (.reads false (.bool true)) else none) [1,19] [1] (e2 @hlw @hlt) ?_
  repeat with_reducible refine cj ?_ ?_
  all_goals try first | (exact h) | omega | exact ent (by kernel_rfl)
  -- cond 1
  refine AW.cn ?_ ?_
  · intro hb
    simp at hb
  · intro hb
    refine AW.skip ?_
    refine hK1 _ _ _ ?_; clear hK1
    -- region 3
    refine AW.so 0 (fun ii => if ii = 1 then some (.reads true (.agg [.rsl 2 (tabR c)])) else none) [1,4] [1,4] (e2 @hlw @hlt) ?_
    repeat with_reducible refine cj ?_ ?_
    all_goals try first | (exact ha) | omega | exact ent (by kernel_rfl)
    -- region 4
    refine AW.sg [1,4,5] [1,4] (e2 @hlw @hlt) ?_
    refine AW.seq fun K2 hK2 => ?_
    -- region 5
    refine AW.sg [1,4,5,24,25] [1,4] (e2 @hlw @hlt) ?_
    refine AW.block ?_
    -- loop 1
    refine AW.loopE (fun mm ee ss kk => ∃ (j q g1 v1 g4 v4 : Nat), q + 1 = mm ∧ ee = [(1, .ptr ⟨1, g1, none⟩ 0 0), (4, .ptr ⟨4, g4, none⟩ 0 0), (5, .int .i64 (-1)), (24, .int .i64 n), (25, .int .i64 (j : Nat))] ∧ ss = [(1, some ⟨g1, v1, 1, [[.rsl 2 (tabR t)]]⟩), (4, some ⟨g4, v4, 1, [[.rsl 2 (tabR c)]]⟩)] ∧ (j ≤ f ∧ q = n - j)) ?_ ?_
    -- init 1
    · exact ⟨_, 0, n, _, _, _, _, rfl, eD, eD, (⟨Nat.zero_le _, by omega⟩)⟩
    rintro mm ee ss kk ⟨j, q, g1, v1, g4, v4, rfl, rfl, rfl, hI⟩
    generalize hQl1 : thenQ _ _ = Ql1
    obtain ⟨hj, hq⟩ := hI
    -- region 6
    refine AW.sg [1,4,5,24,25,26] [1,4] (e2 @hlw @hlt) ?_
    refine AW.seq fun K3 hK3 => ?_
    -- cond 2
    refine AW.cn ?_ ?_
    · intro hb
      have hhj := hh j (by omega)
      refine AW.skip ?_
      refine hK3 _ _ _ ?_; clear hK3
      refine AW.seq fun K4 hK4 => ?_
      refine AW.block ?_
      -- region 7
      refine AW.sg [1,4,5,6,24,25] [1,4] (e2 @hlw @hlt) ?_
      -- region 8
      refine AW.so 0 (fun ii => if ii = 3 then some (.reads false (.bool (atT c j j))) else none) [1,4,5,6,24,25,31] [1,4] (e2 @hlw @hlt) ?_
      repeat with_reducible refine cj ?_ ?_
      all_goals try first | (exact hhj) | omega | exact ent (by kernel_rfl)
      -- cond 3
      refine AW.cn ?_ ?_
      · intro hb
        have hjf : j = f := by
          rcases Nat.lt_or_ge j f with h1 | h1
          · have := hf2 j h1; rw [this] at hb; cases hb
          · omega
        subst hjf
        -- region 9
        refine AW.sg [1,5] [1] (e2 @hlw @hlt) ?_
        -- exit 0
        refine AW.exit ?_
        rw [← hQl1]
        refine hK2 _ _ _ ?_; clear hK2
        refine AW.seq fun K5 hK5 => ?_
        -- region 11
        refine AW.sg [1,5,35] [1] (e2 @hlw @hlt) ?_
        -- cond 4
        refine AW.cn ?_ ?_
        · intro hb
          exfalso; omega
        · intro hb
          refine AW.skip ?_
          refine hK5 _ _ _ ?_; clear hK5
          refine AW.seq fun K6 hK6 => ?_
          -- region 13
          refine AW.regionG 0 (fun ii => if ii = 4 then some (.upd [] (fun k => [(0, some ⟨k, k, 1, ints (List.replicate n (-1))⟩)]) (fun k => .sl ⟨0, k, none⟩ 0 n none)) else none) (fun ii => if ii = 4 then some ([36], [36]) else none) [1, 5, 7] [1, 40] ?_
          simp only [go_sem, reduceIte, reduceCtorEq, Nat.reduceAdd, Nat.reduceMul, Nat.reduceEqDiff, Nat.reduceLT, Nat.reduceLeDiff, Nat.reduceSub, Nat.reducePow, Nat.reduceBEq, Int.reduceToNat, List.reduceReplicate, hlw, hlt, hone]
          repeat with_reducible refine cj ?_ ?_
          all_goals try first | (exact hrep) | omega | exact ent (by kernel_rfl)
          refine hK6 _ _ _ ?_; clear hK6
          -- region 14
          refine AW.sg [1,5,7,8] [1,40,42] (e2 @hlw @hlt) ?_
          -- region 15
          refine AW.sg [1,5,7,8,9] [1,40,42] (e2 @hlw @hlt) ?_
          refine AW.seq fun K7 hK7 => ?_
          -- region 16
          refine AW.sg [1,5,7,8,9,10] [1,40,42] (e2 @hlw @hlt) ?_
          refine AW.block ?_
          -- loop 2
          refine AW.loopE (fun mm ee ss kk => ∃ (m k g1 v1 g7 v7 g8 v8 : Nat) (st : CSt), m + 1 = mm ∧ ee = [(1, .ptr ⟨1, g1, none⟩ 0 0), (5, .int .i64 (j : Nat)), (7, .sl ⟨40, g7, none⟩ 0 n none), (8, .sl ⟨42, g8, none⟩ 0 st.2.1.length none), (9, .int .i64 st.2.2), (10, .int .i64 (k : Nat))] ∧ ss = [(1, some ⟨g1, v1, 1, [[.rsl 2 (tabR t)]]⟩), (40, some ⟨g7, v7, 1, ints st.1⟩), (42, some ⟨g8, v8, 1, ints st.2.1⟩)] ∧ (WfC n j st ∧ cycB t n j m k st = some r)) ?_ ?_
          -- init 2
          · exact ⟨_, n + 2, 0, _, _, _, _, _, _, cyc0 n j, rfl, eD, eD, (⟨WfC.start (by omega) (by omega), hr⟩)⟩
          rintro mm ee ss kk ⟨m, k, g1, v1, g7, v7, g8, v8, st, rfl, rfl, rfl, hI⟩
          generalize hQl2 : thenQ _ _ = Ql2
          obtain ⟨hw, hcb⟩ := hI
          have hcnt := hw.cnt
          have hslen := hw.len
          refine AW.seq fun K8 hK8 => ?_
          -- region 17
          refine AW.sg [1,5,7,8,9,10,46] [1,40,42] (e2 @hlw @hlt) ?_
          -- cond 5
          refine AW.cn ?_ ?_
          · intro hb
            obtain ⟨m, rfl⟩ : ∃ m', m = m' + 1 := by
              cases m with
              | zero => unfold cycB at hcb; rw [if_pos (by omega)] at hcb; cases hcb
              | succ m => exact ⟨m, rfl⟩
            unfold cycB at hcb
            rw [if_pos (by omega)] at hcb
            have hgk := ints_getD (l := st.2.1) (i := k) (by omega)
            have hvr := hw.rng _ (mem_getD (l := st.2.1) (i := k) (by omega) 0)
            have hgs := ints_getD (l := st.1) (i := (st.2.1.getD k 0).toNat) (by omega)
            have hka : cycAt k st = if 0 < k then st.1.getD (st.2.1.getD k 0).toNat 0 else 0 := rfl
            have hab := hw.at k
            have hck : cycK t n j k st = iter (cycI t j (cycAt k st) (st.2.1.getD k 0)) n st := rfl
            have hgv : st.2.1[k]? = some (st.2.1.getD k 0) := by rw [List.getElem?_eq_getElem (by omega)]; simp [List.getD_eq_getElem?_getD, show k < st.2.1.length by omega]
            have hwk := fun i hi => WfC.k' hw t (st.2.1.getD k 0) hab.1 hab.2 i hi
            generalize hv : st.2.1.getD k 0 = v at *
            refine AW.skip ?_
            refine hK8 _ _ _ ?_; clear hK8
            refine AW.seq fun K9 hK9 => ?_
            refine AW.block ?_
            -- region 19
            refine AW.sg [1,5,7,8,9,10,11] [1,40,42] (e2 @hlw @hlt) ?_
            refine AW.seq fun K10 hK10 => ?_
            -- region 20
            refine AW.sg [1,5,7,8,9,10,11,50] [1,40,42] (e2 @hlw @hlt) ?_
            have hJ6 : ∀ (a : Int) (ha6 : a = cycAt k st) (kk : Nat), K10 [(1, .ptr ⟨1, g1, none⟩ 0 0), (5, .int .i64 (j : Nat)), (7, .sl ⟨40, g7, none⟩ 0 n none), (8, .sl ⟨42, g8, none⟩ 0 st.2.1.length none), (9, .int .i64 st.2.2), (10, .int .i64 (k : Nat)), (11, .int .i64 a)] [(1, some ⟨g1, v1, 1, [[.rsl 2 (tabR t)]]⟩), (40, some ⟨g7, v7, 1, ints st.1⟩), (42, some ⟨g8, v8, 1, ints st.2.1⟩)] kk := by
              intro a ha6 kk
              refine hK10 _ _ _ ?_; clear hK10
              rw [← ha6] at hab hck hwk
              -- region 22
              refine AW.sg [1,5,7,8,9,10,11,60,61] [1,40,42] (e2 @hlw @hlt) ?_
              refine AW.block ?_
              -- loop 3
              refine AW.loopE (fun mm ee ss kk => ∃ (i g1 v1 g7 v7 g8 v8 : Nat) (su : CSt), n - i = mm ∧ ee = [(1, .ptr ⟨1, g1, none⟩ 0 0), (5, .int .i64 (j : Nat)), (7, .sl ⟨40, g7, none⟩ 0 n none), (8, .sl ⟨42, g8, none⟩ 0 su.2.1.length none), (9, .int .i64 su.2.2), (10, .int .i64 (k : Nat)), (11, .int .i64 a), (60, .int .i64 n), (61, .int .i64 (i : Nat))] ∧ ss = [(1, some ⟨g1, v1, 1, [[.rsl 2 (tabR t)]]⟩), (40, some ⟨g7, v7, 1, ints su.1⟩), (42, some ⟨g8, v8, 1, ints su.2.1⟩)] ∧ (i ≤ n ∧ su = iter (cycI t j a v) i st)) ?_ ?_
              -- init 3
              · exact ⟨_, 0, _, _, _, _, _, _, st, rfl, eD, eD, (⟨Nat.zero_le _, rfl⟩)⟩
              rintro mm ee ss kk ⟨i, g1, v1, g7, v7, g8, v8, su, rfl, rfl, rfl, hI⟩
              generalize hQl3 : thenQ _ _ = Ql3
              obtain ⟨hi, hsu⟩ := hI
              obtain ⟨hwu, hlu, hgu⟩ := hwk i hi
              rw [← hsu] at hwu hlu hgu
              have hgu := hgu k v hgv
              have hulen := hwu.len
              have hucnt := hwu.cnt
              have huln := hwu.ln
              -- region 23
              refine AW.sg [1,5,7,8,9,10,11,60,61,62] [1,40,42] (e2 @hlw @hlt) ?_
              refine AW.seq fun K15 hK15 => ?_
              -- cond 7
              refine AW.cn ?_ ?_
              · intro hb
                have hgk2 := ints_get hgu
                have hku := (List.getElem?_eq_some_iff.1 hgu).1
                have hhr := hh2 i v.toNat (by omega) (by omega)
                rw [Int.toNat_of_nonneg hvr.1] at hhr
                have hgi := ints_getD (l := su.1) (i := i) (by omega)
                have hus : iter (cycI t j a v) (i + 1) st = cycI t j a v i su := by rw [iter_succ, ← hsu]
                rw [cycI_eq] at hus
                have htk : (ints su.2.1).take su.2.1.length = ints su.2.1 := List.take_of_length_le (by rw [ints_len]; exact Nat.le_refl _)
                have hval := hwu.vals i
                refine AW.skip ?_
                refine hK15 _ _ _ ?_; clear hK15
                refine AW.seq fun K16 hK16 => ?_
                refine AW.block ?_
                -- region 24
                refine AW.sg [1,5,7,8,9,10,11,12,60,61] [1,40,42] (e2 @hlw @hlt) ?_
                refine AW.seq fun K17 hK17 => ?_
                -- region 25
                refine AW.sd mixed 0 (fun ii => if ii = 6 then some (.reads false (.bool (atT t i v.toNat))) else none) [1,5,7,8,9,10,11,12,60,61,71] [1,40,42] (e3 @hlw @hlt @hgk2) ?_
                repeat with_reducible refine cj ?_ ?_
                all_goals try first | (exact hhr) | omega | exact chk (by kernel_rfl) | exact ent (by kernel_rfl)
                -- cond 8
                refine AW.cn ?_ ?_
                · intro hb
                  rw [if_neg (by rw [hb]; simp)] at hus
                  -- exit 5
                  refine AW.exit ?_
                  refine hK16 _ _ _ ?_; clear hK16
                  -- region 31
                  refine AW.rg [1,5,7,8,9,10,11,60,61] [1,40,42] (e2 @hlw @hlt) ?_
                  -- again 3
                  rw [← hQl3]; change Exists _
                  refine ⟨_, ?hm, i + 1, ?_, ?_, ?_, ?_, ?_, ?_, iter (cycI t j a v) (i + 1) st, rfl, ?henv, ?hstore, ?hst⟩
                  case henv =>
                    repeat' (first | rfl | refine env_cons ?_ ?_ | refine st_cons ?_ ?_ ?_ ?_ | refine int_eq ?_ | refine bool_eq ?_ | refine rsl_eq ?_ | refine osl_eq ?_ | refine sl_eq ?_ ?_ ?_ | refine ptr_eq ?_ ?_ ?_ | refine agg_eq ?_ | refine es_cons ?_ ?_ | refine row_cons ?_ ?_)
                    all_goals (rw [hus]; try simp)
                  case hstore =>
                    repeat' (first | rfl | refine env_cons ?_ ?_ | refine st_cons ?_ ?_ ?_ ?_ | refine int_eq ?_ | refine bool_eq ?_ | refine rsl_eq ?_ | refine osl_eq ?_ | refine sl_eq ?_ ?_ ?_ | refine ptr_eq ?_ ?_ ?_ | refine agg_eq ?_ | refine es_cons ?_ ?_ | refine row_cons ?_ ?_)
                    all_goals (rw [hus])
                  case hst =>
                    exact ⟨by omega, rfl⟩
                  case hm => omega
                · intro hb
                  rw [if_pos hb] at hus
                  refine AW.skip ?_
                  refine hK17 _ _ _ ?_; clear hK17
                  refine AW.seq fun K18 hK18 => ?_
                  -- region 26
                  refine AW.sg [1,5,7,8,9,10,11,12,60,61,78] [1,40,42] (e2 @hlw @hlt) ?_
                  repeat with_reducible refine cj ?_ ?_
                  all_goals try first | omega | (intros; (repeat' apply And.intro) <;> first | assumption | omega | decide) | (intro hgd; exact absurd hgd (by decide)) | rfl | (simp only [go_sem, reduceIte, reduceCtorEq, Nat.reduceAdd, Nat.reduceMul, Nat.reduceEqDiff, Nat.reduceLT, Nat.reduceLeDiff, Nat.reduceSub, Nat.reducePow, Nat.reduceBEq, Int.reduceToNat, List.reduceReplicate, hlw, hlt]; done) | (intro _hgd; simp_all [go_sem]; done)
                  have hJ9 : ∀ (b9 : Int) (hb9 : b9 = if (i : Int) = (j : Int) ∧ su.2.2 = 0 then a + 1 else su.2.2) (kk : Nat), K18 [(1, .ptr ⟨1, g1, none⟩ 0 0), (5, .int .i64 (j : Nat)), (7, .sl ⟨40, g7, none⟩ 0 n none), (8, .sl ⟨42, g8, none⟩ 0 su.2.1.length none), (9, .int .i64 b9), (10, .int .i64 (k : Nat)), (11, .int .i64 a), (12, .int .i64 (i : Nat)), (60, .int .i64 n), (61, .int .i64 (i : Nat))] [(1, some ⟨g1, v1, 1, [[.rsl 2 (tabR t)]]⟩), (40, some ⟨g7, v7, 1, ints su.1⟩), (42, some ⟨g8, v8, 1, ints su.2.1⟩)] kk := by
                    intro b9 hb9 kk
                    refine hK18 _ _ _ ?_; clear hK18
                    rw [← hb9] at hus
                    have hb9r : 0 ≤ b9 ∧ b9 ≤ 2000 := by rw [hb9]; split <;> omega
                    -- region 28
                    refine AW.sg [1,5,7,8,9,10,11,12,60,61,90] [1,40,42] (e3 @hlw @hlt @hgi) ?_
                    repeat with_reducible refine cj ?_ ?_
                    all_goals try first | omega | (intros; (repeat' apply And.intro) <;> first | assumption | omega | decide) | (intro hgd; exact absurd hgd (by decide)) | rfl | (simp only [go_sem, reduceIte, reduceCtorEq, Nat.reduceAdd, Nat.reduceMul, Nat.reduceEqDiff, Nat.reduceLT, Nat.reduceLeDiff, Nat.reduceSub, Nat.reducePow, Nat.reduceBEq, Int.reduceToNat, List.reduceReplicate, hlw, hlt, hgi]; done) | (intro _hgd; simp_all [go_sem]; done)
                    -- cond 10
                    refine AW.cn ?_ ?_
                    · intro hb
                      rw [if_pos (by omega)] at hus
                      -- region 29
                      refine AW.sg [1,5,7,8,9,10,11,12,60,61] [1,40,42] (e2 @hlw @hlt) ?_
                      -- region 30
                      refine AW.regionK 0 (fun _ => none) [1, 5, 7, 8, 9, 10, 11, 60, 61] [1, 40, 42] ?_
                      simp only [go_sem, reduceIte, reduceCtorEq, Nat.reduceAdd, Nat.reduceMul, Nat.reduceEqDiff, Nat.reduceLT, Nat.reduceLeDiff, Nat.reduceSub, Nat.reducePow, Nat.reduceBEq, Int.reduceToNat, List.reduceReplicate, hlw, hlt, htk, ints_app]
                      repeat with_reducible refine cj ?_ ?_
                      all_goals try first | omega | (simp [scP, scalar]; done) | exact scP_words _ | exact scP_ints _ | exact scP_bools _
                      refine hK16 _ _ _ ?_; clear hK16
                      -- region 31
                      refine AW.rg [1,5,7,8,9,10,11,60,61] [1,40,42] (e2 @hlw @hlt) ?_
                      -- again 3
                      rw [← hQl3]; change Exists _
                      refine ⟨_, ?hm, i + 1, ?_, ?_, ?_, ?_, ?_, ?_, iter (cycI t j a v) (i + 1) st, rfl, ?henv, ?hstore, ?hst⟩
                      case henv =>
                        repeat' (first | rfl | refine env_cons ?_ ?_ | refine st_cons ?_ ?_ ?_ ?_ | refine int_eq ?_ | refine bool_eq ?_ | refine rsl_eq ?_ | refine osl_eq ?_ | refine sl_eq ?_ ?_ ?_ | refine ptr_eq ?_ ?_ ?_ | refine agg_eq ?_ | refine es_cons ?_ ?_ | refine row_cons ?_ ?_)
                        all_goals (rw [hus]; try simp)
                      case hstore =>
                        repeat' (first | rfl | refine env_cons ?_ ?_ | refine st_cons ?_ ?_ ?_ ?_ | refine int_eq ?_ | refine bool_eq ?_ | refine rsl_eq ?_ | refine osl_eq ?_ | refine sl_eq ?_ ?_ ?_ | refine ptr_eq ?_ ?_ ?_ | refine agg_eq ?_ | refine es_cons ?_ ?_ | refine row_cons ?_ ?_)
                        all_goals (rw [hus])
                      case hst =>
                        exact ⟨by omega, rfl⟩
                      case hm => omega
                    · intro hb
                      rw [if_neg (by omega)] at hus
                      refine AW.skip ?_
                      refine hK16 _ _ _ ?_; clear hK16
                      -- region 31
                      refine AW.rg [1,5,7,8,9,10,11,60,61] [1,40,42] (e2 @hlw @hlt) ?_
                      -- again 3
                      rw [← hQl3]; change Exists _
                      refine ⟨_, ?hm, i + 1, ?_, ?_, ?_, ?_, ?_, ?_, iter (cycI t j a v) (i + 1) st, rfl, ?henv, ?hstore, ?hst⟩
                      case henv =>
                        repeat' (first | rfl | refine env_cons ?_ ?_ | refine st_cons ?_ ?_ ?_ ?_ | refine int_eq ?_ | refine bool_eq ?_ | refine rsl_eq ?_ | refine osl_eq ?_ | refine sl_eq ?_ ?_ ?_ | refine ptr_eq ?_ ?_ ?_ | refine agg_eq ?_ | refine es_cons ?_ ?_ | refine row_cons ?_ ?_)
                        all_goals (rw [hus]; try simp)
                      case hstore =>
                        repeat' (first | rfl | refine env_cons ?_ ?_ | refine st_cons ?_ ?_ ?_ ?_ | refine int_eq ?_ | refine bool_eq ?_ | refine rsl_eq ?_ | refine osl_eq ?_ | refine sl_eq ?_ ?_ ?_ | refine ptr_eq ?_ ?_ ?_ | refine agg_eq ?_ | refine es_cons ?_ ?_ | refine row_cons ?_ ?_)
                        all_goals (rw [hus])
                      case hst =>
                        exact ⟨by omega, rfl⟩
                      case hm => omega
                  -- cond 9
                  refine AW.cn ?_ ?_
                  · intro hb
                    -- region 27
                    refine AW.rg [1,5,7,8,9,10,11,12,60,61] [1,40,42] (e2 @hlw @hlt) ?_
                    first | exact hJ9 _ (if_pos hb).symm _ | exact hJ9 _ (if_neg (show ¬ ((i : Int) = (j : Int) ∧ su.2.2 = 0) by omega)).symm _
                  · intro hb
                    refine AW.kp [1,5,7,8,9,10,11,12,60,61] [1,40,42] ?_
                    refine AW.skip ?_
                    first | exact hJ9 _ (if_pos hb).symm _ | exact hJ9 _ (if_neg (show ¬ ((i : Int) = (j : Int) ∧ su.2.2 = 0) by omega)).symm _
              · intro hb
                have hin : i = n := by omega
                subst hin
                rw [← hck] at hsu
                subst hsu
                -- exit 4
                refine AW.exit ?_
                rw [← hQl3]
                refine hK9 _ _ _ ?_; clear hK9
                -- region 18
                refine AW.rg [1,5,7,8,9,10] [1,40,42] (e2 @hlw @hlt) ?_
                -- again 2
                rw [← hQl2]; change Exists _
                exact ⟨_, eO, m, k + 1, _, _, _, _, _, _, cycK t i j k st, rfl, eD, eD, (⟨hwu, hcb⟩)⟩
            -- cond 6
            refine AW.cn ?_ ?_
            · intro hb
              rw [if_pos (by omega)] at hka
              -- region 21
              refine AW.rg [1,5,7,8,9,10,11] [1,40,42] (e4 @hlw @hlt @hgk @hgs) ?_
              exact hJ6 _ hka.symm _
            · intro hb
              rw [if_neg (by omega)] at hka
              refine AW.kp [1,5,7,8,9,10,11] [1,40,42] ?_
              refine AW.skip ?_
              exact hJ6 _ hka.symm _
          · intro hb
            have hst : st = r := by
              cases m <;> (unfold cycB at hcb; rw [if_neg (by omega)] at hcb; exact Option.some.inj hcb)
            subst hst
            have hln := hw.ln
            have hrr : outW t n j st.1 (st.2.2 - 1).toNat [(j : Int)] = outW t n j st.1 (st.2.2 - 1).toNat [(j : Int)] := rfl
            obtain ⟨res, hres⟩ : ∃ res, res = outW t n j st.1 (st.2.2 - 1).toNat [(j : Int)] := ⟨_, rfl⟩
            -- exit 2
            refine AW.exit ?_
            rw [← hQl2]
            refine hK7 _ _ _ ?_; clear hK7
            -- region 32
            refine AW.sg [1,5,7,9,13] [1,40,102] (e3 @hlw @hlt @honef) ?_
            refine AW.seq fun K19 hK19 => ?_
            -- region 33
            refine AW.sg [1,5,7,13,14] [1,40,102] (e2 @hlw @hlt) ?_
            refine AW.block ?_
            -- loop 4
            refine AW.loopE (fun mm ee ss kk => ∃ (m g1 v1 g7 v7 g13 v13 : Nat) (L : Int) (O : List Int), m + 1 = mm ∧ ee = [(1, .ptr ⟨1, g1, none⟩ 0 0), (5, .int .i64 (j : Nat)), (7, .sl ⟨40, g7, none⟩ 0 n none), (13, .sl ⟨102, g13, none⟩ 0 O.length none), (14, .int .i64 L)] ∧ ss = [(1, some ⟨g1, v1, 1, [[.rsl 2 (tabR t)]]⟩), (40, some ⟨g7, v7, 1, ints st.1⟩), (102, some ⟨g13, v13, 1, ints O⟩)] ∧ (m = L.toNat ∧ outW t n j st.1 m O = res ∧ 0 < O.length ∧ O.length + m ≤ 1000 ∧ (∀ x ∈ O, 0 ≤ x ∧ x < n) ∧ -1 ≤ L)) ?_ ?_
            -- init 4
            · exact ⟨_, (st.2.2 - 1).toNat, _, _, _, _, _, _, st.2.2 - 1, [(j : Int)], rfl, eD, eD, (⟨rfl, hres.symm, by simp, by simp; omega, by intro x hx; simp at hx; subst hx; omega, by omega⟩)⟩
            rintro mm ee ss kk ⟨m, g1, v1, g7, v7, g13, v13, L, O, rfl, rfl, rfl, hI⟩
            generalize hQl4 : thenQ _ _ = Ql4
            obtain ⟨hmL, hout, hO0, hO1, hO2, hL0⟩ := hI
            refine AW.seq fun K20 hK20 => ?_
            -- region 34
            refine AW.sg [1,5,7,13,14,106] [1,40,102] (e2 @hlw @hlt) ?_
            -- cond 11
            refine AW.cn ?_ ?_
            · intro hb
              obtain ⟨m, rfl⟩ : ∃ m', m = m' + 1 := ⟨m - 1, by omega⟩
              have hLm : L = (m + 1 : Nat) := by omega
              have hlo : lastO O = O.getD (O.length - 1) 0 := rfl
              have hgl := ints_getD (l := O) (i := O.length - 1) (by omega)
              have hlt2 : ((O.length : Int) - 1).toNat = O.length - 1 := by omega
              have hlr := hO2 _ (mem_getD (l := O) (i := O.length - 1) (by omega) 0)
              rw [← hlo] at hgl hlr
              have hou : outW t n j st.1 (m + 1) O = outW t n j st.1 m (match stepO t n j st.1 (lastO O) (m + 1 : Nat) with
                  | some j => O ++ [(j : Int)]
                  | none => O) := rfl
              have hso : stepO t n j st.1 (lastO O) (m + 1 : Nat) = (List.range n).find? fun q => atT t (lastO O).toNat q && decide ((q : Int) ≠ j) && decide (st.1.getD q 0 = (m + 1 : Nat)) := rfl
              have htk : (ints O).take O.length = ints O := List.take_of_length_le (by rw [ints_len]; exact Nat.le_refl _)
              generalize hla : lastO O = la at *
              refine AW.skip ?_
              refine hK20 _ _ _ ?_; clear hK20
              refine AW.seq fun K21 hK21 => ?_
              refine AW.block ?_
              -- region 36
              refine AW.sg [1,5,7,13,14,15] [1,40,102] (e4 @hlw @hlt @hlt2 @hgl) ?_
              -- region 37
              refine AW.sg [1,5,7,13,14,15,117,118] [1,40,102] (e2 @hlw @hlt) ?_
              refine AW.block ?_
              -- loop 5
              refine AW.loopE (fun mm ee ss kk => ∃ (q g1 v1 g7 v7 g13 v13 : Nat), n - q = mm ∧ ee = [(1, .ptr ⟨1, g1, none⟩ 0 0), (5, .int .i64 (j : Nat)), (7, .sl ⟨40, g7, none⟩ 0 n none), (13, .sl ⟨102, g13, none⟩ 0 O.length none), (14, .int .i64 L), (15, .int .i64 la), (117, .int .i64 n), (118, .int .i64 (q : Nat))] ∧ ss = [(1, some ⟨g1, v1, 1, [[.rsl 2 (tabR t)]]⟩), (40, some ⟨g7, v7, 1, ints st.1⟩), (102, some ⟨g13, v13, 1, ints O⟩)] ∧ (q ≤ n ∧ ∀ u, u < q → (atT t la.toNat u && decide ((u : Int) ≠ j) && decide (st.1.getD u 0 = (m + 1 : Nat))) = false)) ?_ ?_
              -- init 5
              · exact ⟨_, 0, _, _, _, _, _, _, rfl, eD, eD, (⟨Nat.zero_le _, fun u hu => by omega⟩)⟩
              rintro mm ee ss kk ⟨q, g1, v1, g7, v7, g13, v13, rfl, rfl, rfl, hI⟩
              generalize hQl5 : thenQ _ _ = Ql5
              obtain ⟨hq, hqa⟩ := hI
              -- region 38
              refine AW.sg [1,5,7,13,14,15,117,118,119] [1,40,102] (e2 @hlw @hlt) ?_
              refine AW.seq fun K22 hK22 => ?_
              -- cond 12
              refine AW.cn ?_ ?_
              · intro hb
                have hhr := hh2 la.toNat q (by omega) (by omega)
                rw [Int.toNat_of_nonneg hlr.1] at hhr
                have hgq := ints_getD (l := st.1) (i := q) (by omega)
                refine AW.skip ?_
                refine hK22 _ _ _ ?_; clear hK22
                refine AW.seq fun K23 hK23 => ?_
                refine AW.block ?_
                -- region 39
                refine AW.sg [1,5,7,13,14,15,16,117,118] [1,40,102] (e2 @hlw @hlt) ?_
                refine AW.seq fun K24 hK24 => ?_
                -- region 40
                refine AW.regionK 0 (fun ii => if ii = 3 then some (.reads false (.bool (atT t la.toNat q))) else none) [1, 5, 7, 13, 14, 15, 16, 117, 118, 137] [1, 40, 102] ?_
                simp only [go_sem, reduceIte, reduceCtorEq, Nat.reduceAdd, Nat.reduceMul, Nat.reduceEqDiff, Nat.reduceLT, Nat.reduceLeDiff, Nat.reduceSub, Nat.reducePow, Nat.reduceBEq, Int.reduceToNat, List.reduceReplicate, hlw, hlt, hgq]
                repeat with_reducible refine cj ?_ ?_
                all_goals try first | (first | exact hhr | (intro hh; (repeat' apply And.intro) <;> first | exact hh | omega)) | (intros; (repeat' apply And.intro) <;> first | assumption | (first | exact hhr | (intro hh; (repeat' apply And.intro) <;> first | exact hh | omega))) | omega | exact ent (by kernel_rfl) | (intro hgd; exact absurd hgd (by decide)) | rfl | (simp only [go_sem, reduceIte, reduceCtorEq, Nat.reduceAdd, Nat.reduceMul, Nat.reduceEqDiff, Nat.reduceLT, Nat.reduceLeDiff, Nat.reduceSub, Nat.reducePow, Nat.reduceBEq, Int.reduceToNat, List.reduceReplicate, hlw, hlt, hgq]; done) | (intro _hgd; simp_all [go_sem]; done)
                refine hK24 _ _ _ ?_; clear hK24
                -- cond 13
                refine AW.cn ?_ ?_
                · intro hb
                  have hq13 := hb
                  have hfound : stepO t n j st.1 la (m + 1 : Nat) = some q := by
                    rw [hso]
                    refine find_range_some (by omega) ?_ hqa
                    simp only [Bool.and_eq_true, decide_eq_true_eq]
                    rw [← hLm]
                    exact hq13
                  rw [hfound] at hou
                  rw [hou] at hout
                  simp only at hout
                  obtain ⟨O', hO'⟩ : ∃ O', O' = O ++ [(q : Int)] := ⟨_, rfl⟩
                  rw [← hO'] at hout
                  have hP : 0 < O'.length ∧ O'.length + m ≤ 1000 ∧ ∀ x ∈ O', 0 ≤ x ∧ x < n := by
                    rw [hO']
                    refine ⟨by simp, by rw [List.length_append, List.length_singleton]; omega, fun x hx => ?_⟩
                    rcases List.mem_append.1 hx with hx | hx
                    · exact hO2 x hx
                    · simp at hx; subst hx; omega
                  refine AW.seq fun K25 hK25 => ?_
                  -- region 41
                  refine AW.regionK 0 (fun _ => none) [1, 5, 7, 13, 14] [1, 40, 102] ?_
                  simp only [go_sem, reduceIte, reduceCtorEq, Nat.reduceAdd, Nat.reduceMul, Nat.reduceEqDiff, Nat.reduceLT, Nat.reduceLeDiff, Nat.reduceSub, Nat.reducePow, Nat.reduceBEq, Int.reduceToNat, List.reduceReplicate, hlw, hlt, htk, ints_app]
                  repeat with_reducible refine cj ?_ ?_
                  all_goals try first | omega | (simp [scP, scalar]; done) | exact scP_words _ | exact scP_ints _ | exact scP_bools _
                  refine hK25 _ _ _ ?_; clear hK25
                  -- exit 8
                  refine AW.exit ?_
                  rw [← hQl5]
                  refine hK21 _ _ _ ?_; clear hK21
                  -- region 35
                  refine AW.rg [1,5,7,13,14] [1,40,102] (e2 @hlw @hlt) ?_
                  -- again 4
                  rw [← hQl4]; change Exists _
                  refine ⟨_, ?hm, m, ?_, ?_, ?_, ?_, ?_, ?_, L - 1, O', rfl, ?henv, ?hstore, ?hst⟩
                  case henv =>
                    repeat' (first | rfl | refine env_cons ?_ ?_ | refine st_cons ?_ ?_ ?_ ?_ | refine int_eq ?_ | refine bool_eq ?_ | refine rsl_eq ?_ | refine osl_eq ?_ | refine sl_eq ?_ ?_ ?_ | refine ptr_eq ?_ ?_ ?_ | refine agg_eq ?_ | refine es_cons ?_ ?_ | refine row_cons ?_ ?_)
                    all_goals (rw [hO']; try simp)
                  case hstore =>
                    repeat' (first | rfl | refine env_cons ?_ ?_ | refine st_cons ?_ ?_ ?_ ?_ | refine int_eq ?_ | refine bool_eq ?_ | refine rsl_eq ?_ | refine osl_eq ?_ | refine sl_eq ?_ ?_ ?_ | refine ptr_eq ?_ ?_ ?_ | refine agg_eq ?_ | refine es_cons ?_ ?_ | refine row_cons ?_ ?_)
                    all_goals (rw [hO'])
                  case hst =>
                    exact ⟨by omega, hout, hP.1, hP.2.1, hP.2.2, by omega⟩
                  case hm => omega
                · intro hb
                  have hq13 := hb
                  have hnf : (atT t la.toNat q && decide ((q : Int) ≠ j) && decide (st.1.getD q 0 = (m + 1 : Nat))) = false := by
                    rw [← hLm, Bool.and_eq_false_iff, Bool.and_eq_false_iff]
                    simp only [decide_eq_false_iff_not, ne_eq, Decidable.not_not]
                    exact hq13
                  refine AW.skip ?_
                  refine hK23 _ _ _ ?_; clear hK23
                  -- region 42
                  refine AW.rg [1,5,7,13,14,15,117,118] [1,40,102] (e2 @hlw @hlt) ?_
                  -- again 5
                  rw [← hQl5]; change Exists _
                  exact ⟨_, eO, q + 1, _, _, _, _, _, _, rfl, eD, eD, (⟨by omega, fun u hu => by by_cases e : u = q; (subst e; exact hnf); exact hqa u (by omega)⟩)⟩
              · intro hb
                have hqn : q = n := by omega
                subst hqn
                have hnone : stepO t q j st.1 la (m + 1 : Nat) = none := by rw [hso]; exact find_range_none.2 hqa
                rw [hnone] at hou
                rw [hou] at hout
                simp only at hout
                obtain ⟨O', hO'⟩ : ∃ O', O' = O := ⟨_, rfl⟩
                rw [← hO'] at hout
                have hP : 0 < O'.length ∧ O'.length + m ≤ 1000 ∧ ∀ x ∈ O', 0 ≤ x ∧ x < q := by rw [hO']; exact ⟨hO0, by omega, hO2⟩
                -- exit 8
                refine AW.exit ?_
                rw [← hQl5]
                refine hK21 _ _ _ ?_; clear hK21
                -- region 35
                refine AW.rg [1,5,7,13,14] [1,40,102] (e2 @hlw @hlt) ?_
                -- again 4
                rw [← hQl4]; change Exists _
                refine ⟨_, ?hm, m, ?_, ?_, ?_, ?_, ?_, ?_, L - 1, O', rfl, ?henv, ?hstore, ?hst⟩
                case henv =>
                  repeat' (first | rfl | refine env_cons ?_ ?_ | refine st_cons ?_ ?_ ?_ ?_ | refine int_eq ?_ | refine bool_eq ?_ | refine rsl_eq ?_ | refine osl_eq ?_ | refine sl_eq ?_ ?_ ?_ | refine ptr_eq ?_ ?_ ?_ | refine agg_eq ?_ | refine es_cons ?_ ?_ | refine row_cons ?_ ?_)
                  all_goals (rw [hO']; try simp)
                case hstore =>
                  repeat' (first | rfl | refine env_cons ?_ ?_ | refine st_cons ?_ ?_ ?_ ?_ | refine int_eq ?_ | refine bool_eq ?_ | refine rsl_eq ?_ | refine osl_eq ?_ | refine sl_eq ?_ ?_ ?_ | refine ptr_eq ?_ ?_ ?_ | refine agg_eq ?_ | refine es_cons ?_ ?_ | refine row_cons ?_ ?_)
                  all_goals (rw [hO'])
                case hst =>
                  exact ⟨by omega, hout, hP.1, hP.2.1, hP.2.2, by omega⟩
                case hm => omega
            · intro hb
              have hm0 : m = 0 := by omega
              subst hm0
              have hOr : O = res := hout
              subst hOr
              -- exit 6
              refine AW.exit ?_
              rw [← hQl4]
              refine hK19 _ _ _ ?_; clear hK19
              -- region 43
              refine AW.sg [2,3] [102] (e2 @hlw @hlt) ?_
              -- ret 3
              rw [← hQr]
              refine AW.rt (e2 @hlw @hlt) ?_
              rw [← hres]
              exact Wk.refl _
      · intro hb
        have hjf : j ≠ f := by rintro rfl; rw [hf1] at hb; cases hb
        refine AW.skip ?_
        refine hK4 _ _ _ ?_; clear hK4
        -- region 10
        refine AW.rg [1,4,5,24,25] [1,4] (e2 @hlw @hlt) ?_
        -- again 1
        rw [← hQl1]; change Exists _
        exact ⟨_, eO, j + 1, n - (j + 1), _, _, _, _, rfl, eD, eD, (⟨by omega, rfl⟩)⟩
    · intro hb
      exfalso; omega
end Go.Proofs.R

/- The relation chapter's examples, computed. -/
namespace Go.AM
def exP1 : List (Int × Int) := [(0, 1), (1, 2), (0, 2)]
def exP2 : List (Int × Int) := [(0, 1), (1, 2), (0, 2), (2, 1)]
def exT1 : List (List Bool) := putL (zeroT 3) exP1
def exT2 : List (List Bool) := putL (zeroT 3) exP2
theorem ex_in1 : ∀ p ∈ exP1, inP 3 p := by unfold inP; decide
theorem ex_in2 : ∀ p ∈ exP2, inP 3 p := by unfold inP; decide
theorem ex_ac : acyc 3 exT1 = true := by decide
theorem ex_red : pairsT (redT 3 exT1 (compT 3 exT1 (warsh 3 exT1))) 3 = [(0, 1), (1, 2)] := by decide
theorem ex_first : firstC 3 exT2 = some 1 := by decide
theorem ex_cyc : cycB exT2 3 1 5 0 (cyc0 3 1) = some ([1, -1, 1], [1, 0, 2], 2) := by decide
theorem ex_out : outW exT2 3 1 [1, -1, 1] 1 [1] = [1, 2] := by decide
end Go.AM

namespace Go.Proofs.R
open Go.AM Go
set_option maxRecDepth 100000
set_option maxHeartbeats 1000000
theorem awake_r : Reads Try.prog 9 false [] (.bool true) := by
  have hm1 : Reads Try.prog 11 false [.int .i64 3, .rsl 2 (exP1.map pairV)] (.tup [relB exT1, .int .i64 ((0 : Nat) : Int)]) := make_g 3 exP1 (by decide) (by decide) ex_in1
  have hm2 : Reads Try.prog 11 false [.int .i64 3, .rsl 2 (exP2.map pairV)] (.tup [relB exT2, .int .i64 ((0 : Nat) : Int)]) := make_g 3 exP2 (by decide) (by decide) ex_in2
  have hs1 : Sq 3 exT1 := Sq.putL _ (Sq.rep 3) ex_in1
  have hs2 : Sq 3 exT2 := Sq.putL _ (Sq.rep 3) ex_in2
  have hr := reduction_g 3 exT1 hs1 (by decide) ex_ac
  have hsr : Sq 3 (redT 3 exT1 (compT 3 exT1 (warsh 3 exT1))) := Sq.red hs1 (Sq.comp hs1.warsh)
  have hp := pairs_g 3 _ hsr (by decide)
  rw [ex_red] at hp
  have hc := cycle_c 3 exT2 hs2 (by decide) 1 ex_first _ ex_cyc
  have ho : outW exT2 3 ((1 : Nat) : Int) [1, -1, 1] (((2 : Int) - 1).toNat) [((1 : Nat) : Int)] = [1, 2] := ex_out
  simp only at hc
  rw [ho] at hc
  have he1 := eqpairs_r [(0, 1), (1, 2)] [(0, 1), (1, 2)] (by decide)
  rw [decide_eq_true rfl] at he1
  have he2 := eqi_r [1, 2] [1, 2] (by decide)
  rw [show (([1, 2] : List Int) == [1, 2]) = true from rfl] at he2
  have hv1 : [[AV.int .i64 0, .int .i64 1], [.int .i64 1, .int .i64 2], [.int .i64 0, .int .i64 2]] = exP1.map pairV := rfl
  have hv2 : [[AV.int .i64 0, .int .i64 1], [.int .i64 1, .int .i64 2], [.int .i64 0, .int .i64 2], [.int .i64 2, .int .i64 1]] = exP2.map pairV := rfl
  have hv3 : [[AV.int .i64 0, .int .i64 1], [.int .i64 1, .int .i64 2]] = [((0 : Int), (1 : Int)), (1, 2)].map pairV := rfl
  have hv4 : [[AV.int .i64 1], [.int .i64 2]] = ints [1, 2] := rfl
  generalize redT 3 exT1 (compT 3 exT1 (warsh 3 exT1)) = T3 at *
  unfold relB at *
  refine Reads.body (rs := [.tmp 0]) Try.func9 rfl Try.ntmps9 rfl (by simp) ?_
  generalize hQr : retQ _ _ _ = Qr
  -- block 1
  -- region 0
  refine AW.sg [] [] trivial ?_
  refine AW.seq fun K1 hK1 => ?_
  -- region 1
  refine AW.regionG 0 (fun ii => if ii = 4 then some (.reads false (.tup [.agg [.rsl 2 (tabR exT1)], .int .i64 ((0 : Nat) : Int)])) else none) (fun ii => if ii = 4 then some ([15], [15]) else none) [1, 2] [1] ?_
  simp only [go_sem, reduceIte, reduceCtorEq, Nat.reduceAdd, Nat.reduceMul, Nat.reduceEqDiff, Nat.reduceLT, Nat.reduceLeDiff, Nat.reduceSub, Nat.reducePow, Nat.reduceBEq, Int.reduceToNat, List.reduceReplicate, hv1]
  repeat with_reducible refine cj ?_ ?_
  all_goals try first | (exact hm1) | omega | exact ent (by kernel_rfl)
  refine hK1 _ _ _ ?_; clear hK1
  -- region 2
  refine AW.so 0 (fun ii => if ii = 1 then some (.reads false (.tup [.agg [.rsl 2 (tabR T3)], .int .i64 ((0 : Nat) : Int)])) else none) [2,3,4] [3] trivial ?_
  repeat with_reducible refine cj ?_ ?_
  all_goals try first | (exact hr) | omega | exact ent (by kernel_rfl)
  -- region 3
  refine AW.so 0 (fun ii => if ii = 1 then some (.reads false (.tup [.rsl 2 ([((0 : Int), (1 : Int)), (1, 2)].map pairV), .int .i64 ((0 : Nat) : Int)])) else none) [2,4,5,6] [] trivial ?_
  repeat with_reducible refine cj ?_ ?_
  all_goals try first | (exact hp) | omega | exact ent (by kernel_rfl)
  refine AW.seq fun K2 hK2 => ?_
  -- region 4
  refine AW.regionG 0 (fun ii => if ii = 5 then some (.reads false (.tup [.agg [.rsl 2 (tabR exT2)], .int .i64 ((0 : Nat) : Int)])) else none) (fun ii => if ii = 5 then some ([34], [34]) else none) [2, 4, 5, 6, 7, 8] [7] ?_
  simp only [go_sem, reduceIte, reduceCtorEq, Nat.reduceAdd, Nat.reduceMul, Nat.reduceEqDiff, Nat.reduceLT, Nat.reduceLeDiff, Nat.reduceSub, Nat.reducePow, Nat.reduceBEq, Int.reduceToNat, List.reduceReplicate, hv2]
  repeat with_reducible refine cj ?_ ?_
  all_goals try first | (exact hm2) | omega | exact ent (by kernel_rfl)
  refine hK2 _ _ _ ?_; clear hK2
  -- region 5
  refine AW.so 0 (fun ii => if ii = 1 then some (.reads false (.tup [.rsl 1 (ints [1, 2]), .int .i64 ((0 : Nat) : Int)])) else none) [2,4,5,6,8,9,10] [] trivial ?_
  repeat with_reducible refine cj ?_ ?_
  all_goals try first | (exact hc) | omega | exact ent (by kernel_rfl)
  -- region 6
  refine AW.so 0 (fun ii => if ii = 15 then some (.reads true (.bool true)) else if ii = 28 then some (.reads true (.bool true)) else none) [0] [] (e2 @hv3 @hv4) ?_
  repeat with_reducible refine cj ?_ ?_
  all_goals try first | (first | (intro hh; exact ⟨hh, Reads.flat he1 rfl⟩) | (intro hh; exact ⟨hh, Reads.flat he2 rfl⟩)) | (intros; (repeat' apply And.intro) <;> first | assumption | (first | (intro hh; exact ⟨hh, Reads.flat he1 rfl⟩) | (intro hh; exact ⟨hh, Reads.flat he2 rfl⟩))) | omega | exact ent (by kernel_rfl) | (intro hgd; exact absurd hgd (by decide)) | rfl | (simp only [go_sem, reduceIte, reduceCtorEq, Nat.reduceAdd, Nat.reduceMul, Nat.reduceEqDiff, Nat.reduceLT, Nat.reduceLeDiff, Nat.reduceSub, Nat.reducePow, Nat.reduceBEq, Int.reduceToNat, List.reduceReplicate, hv3, hv4]; done) | (intro _hgd; simp_all [go_sem]; done)
  -- ret 1
  rw [← hQr]
  refine AW.rt trivial ?_
  exact Wk.of_eq (by simp)
end Go.Proofs.R

namespace Go.Proofs.R
open Go.AM Go
set_option maxRecDepth 100000
set_option maxHeartbeats 1000000
def longW (x : USet) : Bool := decide (20 < (x.W.length : Int))
def greatB (rs : List USet) : Bool := (decide (40 < (rs.length : Int)) && decide ((rs.length : Int) ≤ 512)) || decide (520 < (rs.length : Int)) || rs.any longW
def relC (rs : List USet) : List AV := [.rsl 2 (rs.map rowV)]
theorem g42_r (x : USet) (hx : x.W.length ≤ 9223372036854775807) : Reads Try.prog 42 false [.agg (rowV x)] (.bool (longW x)) := by
  unfold rowV
  refine Reads.body (rs := [.tmp 2]) Try.func42 rfl Try.ntmps42 rfl (by simp) ?_
  generalize hQr : retQ _ _ _ = Qr
  -- block 1
  -- region 0
  refine AW.sg [1] [1] trivial ?_
  -- region 1
  refine AW.sg [2] [] trivial ?_
  -- ret 1
  rw [← hQr]
  refine AW.rt trivial ?_
  exact Wk.of_eq (by simp [longW])
theorem g59_r (rs : List USet) (hl : longR rs) : Reads Try.prog 59 false [.rsl 2 (rs.map rowV), .fn 42 []] (.int .i64 (ixf longW rs)) := by
  have hbp := fun x hxm => g42_r x (hl.2 x hxm)
  have hl1 := hl.1
  refine Reads.body (rs := [.tmp 4]) Try.func59 rfl Try.ntmps59 rfl (by simp) ?_
  generalize hQr : retQ _ _ _ = Qr
  -- block 2
  -- region 0
  refine AW.sg [0,1] [] trivial ?_
  refine AW.seq fun K1 hK1 => ?_
  -- region 1
  refine AW.sg [0,1,7,8] [] trivial ?_
  refine AW.block ?_
  -- loop 1
  refine AW.loopE (fun mm ee ss kk => ∃ (j : Nat), rs.length - j = mm ∧ ee = [(0, .rsl 2 (rs.map rowV)), (1, .fn 42 []), (7, .int .i64 rs.length), (8, .int .i64 (j : Nat))] ∧ ss = [] ∧ (j ≤ rs.length ∧ (rs.take j).any longW = false)) ?_ ?_
  -- init 1
  · exact ⟨_, 0, rfl, eD, eD, eT⟩
  rintro mm ee ss kk ⟨j, rfl, rfl, rfl, hI⟩
  generalize hQl1 : thenQ _ _ = Ql1
  obtain ⟨hj, hall⟩ := hI
  -- region 2
  refine AW.sg [0,1,7,8,9] [] trivial ?_
  refine AW.seq fun K2 hK2 => ?_
  -- cond 1
  refine AW.cn ?_ ?_
  · intro hb
    obtain ⟨x, hx⟩ := getI (l := rs) (j := j) (by omega)
    have hgx := getV (f := rowV) hx
    have hats := any_take_succ (p := longW) hx
    have hbx := hbp x (List.mem_of_getElem? hx)
    refine AW.skip ?_
    refine hK2 _ _ _ ?_; clear hK2
    refine AW.seq fun K3 hK3 => ?_
    refine AW.block ?_
    -- region 3
    refine AW.sg [0,1,5,7,8] [] trivial ?_
    -- region 4
    refine AW.so 0 (fun ii => if ii = 5 then some (.reads false (.bool (longW x))) else none) [0,1,5,7,8,16] [] (e2 @hgx @rowV.eq_1) ?_
    repeat with_reducible refine cj ?_ ?_
    all_goals try first | (exact hbx) | omega | exact ent (by kernel_rfl)
    -- cond 2
    refine AW.cn ?_ ?_
    · intro hb
      -- region 5
      refine AW.sg [4] [] trivial ?_
      -- ret 1
      rw [← hQl1, ← hQr]
      refine AW.rt trivial ?_
      exact Wk.of_eq (by rw [ixf_at hx hb hall])
    · intro hb
      refine AW.skip ?_
      refine hK3 _ _ _ ?_; clear hK3
      -- region 6
      refine AW.rg [0,1,7,8] [] trivial ?_
      -- again 1
      rw [← hQl1]; change Exists _
      exact ⟨_, eO, j + 1, rfl, eD, eD, (⟨by omega, by rw [hats, hall, hb]; rfl⟩)⟩
  · intro hb
    -- exit 0
    refine AW.kx [] [] ?_
    rw [← hQl1]
    refine hK1 _ _ _ ?_; clear hK1
    -- region 7
    refine AW.sg [4] [] trivial ?_
    -- ret 2
    rw [← hQr]
    refine AW.rt trivial ?_
    exact Wk.of_eq (by rw [List.take_of_length_le (by omega)] at hall; rw [ixf_none hall])
theorem g41_r (rs : List USet) (hl : longR rs) : Reads Try.prog 41 false [.rsl 2 (rs.map rowV), .fn 42 []] (.bool (rs.any longW)) := by
  have h := g59_r rs hl
  have hge := ixf_ge longW rs
  refine Reads.body (rs := [.tmp 4]) Try.func41 rfl Try.ntmps41 rfl (by simp) ?_
  generalize hQr : retQ _ _ _ = Qr
  -- block 3
  -- region 0
  refine AW.sg [0,1] [] trivial ?_
  -- region 1
  refine AW.so 0 (fun ii => if ii = 2 then some (.reads false (.int .i64 (ixf longW rs))) else none) [4] [] trivial ?_
  repeat with_reducible refine cj ?_ ?_
  all_goals try first | (exact h) | omega | exact ent (by kernel_rfl)
  -- ret 1
  rw [← hQr]
  refine AW.rt trivial ?_
  exact Wk.of_eq (by rw [hge])
theorem g40_r (rs : List USet) (hl : longR rs) : Reads Try.prog 40 false [relV rs] (.bool (greatB rs)) := by
  have h := g41_r rs hl
  have hl1 := hl.1
  unfold relV
  refine Reads.body (rs := [.tmp 2]) Try.func40 rfl Try.ntmps40 rfl (by simp) ?_
  generalize hQr : retQ _ _ _ = Qr
  -- block 4
  -- region 0
  refine AW.sg [1] [1] trivial ?_
  -- region 1
  refine AW.so 0 (fun ii => if ii = 19 then some (.reads false (.bool (rs.any longW))) else none) [2] [] trivial ?_
  repeat with_reducible refine cj ?_ ?_
  all_goals try first | ((intro hh; exact ⟨hh, h⟩)) | (intros; (repeat' apply And.intro) <;> first | assumption | ((intro hh; exact ⟨hh, h⟩))) | omega | exact ent (by kernel_rfl) | (intro hgd; exact absurd hgd (by decide)) | rfl | exact gD | (intro _hgd; simp_all [go_sem]; done)
  -- ret 1
  rw [← hQr]
  refine AW.rt trivial ?_
  exact Wk.of_eq (by unfold greatB; simp)
theorem g58_r (R : List (List USet)) (hR : R.length ≤ 9223372036854775807) (hl : ∀ rs ∈ R, longR rs) : Reads Try.prog 58 false [.rsl 1 (R.map relC), .fn 40 []] (.int .i64 (ixf greatB R)) := by
  have hbp := fun x hxm => g40_r x (hl x hxm)
  unfold relV at hbp
  refine Reads.body (rs := [.tmp 4]) Try.func58 rfl Try.ntmps58 rfl (by simp) ?_
  generalize hQr : retQ _ _ _ = Qr
  -- block 5
  -- region 0
  refine AW.sg [0,1] [] trivial ?_
  refine AW.seq fun K1 hK1 => ?_
  -- region 1
  refine AW.sg [0,1,7,8] [] trivial ?_
  refine AW.block ?_
  -- loop 1
  refine AW.loopE (fun mm ee ss kk => ∃ (j : Nat), R.length - j = mm ∧ ee = [(0, .rsl 1 (R.map relC)), (1, .fn 40 []), (7, .int .i64 R.length), (8, .int .i64 (j : Nat))] ∧ ss = [] ∧ (j ≤ R.length ∧ (R.take j).any greatB = false)) ?_ ?_
  -- init 1
  · exact ⟨_, 0, rfl, eD, eD, eT⟩
  rintro mm ee ss kk ⟨j, rfl, rfl, rfl, hI⟩
  generalize hQl1 : thenQ _ _ = Ql1
  obtain ⟨hj, hall⟩ := hI
  -- region 2
  refine AW.sg [0,1,7,8,9] [] trivial ?_
  refine AW.seq fun K2 hK2 => ?_
  -- cond 1
  refine AW.cn ?_ ?_
  · intro hb
    obtain ⟨x, hx⟩ := getI (l := R) (j := j) (by omega)
    have hgx := getV (f := relC) hx
    have hats := any_take_succ (p := greatB) hx
    have hbx := hbp x (List.mem_of_getElem? hx)
    refine AW.skip ?_
    refine hK2 _ _ _ ?_; clear hK2
    refine AW.seq fun K3 hK3 => ?_
    refine AW.block ?_
    -- region 3
    refine AW.sg [0,1,5,7,8] [] trivial ?_
    -- region 4
    refine AW.so 0 (fun ii => if ii = 5 then some (.reads false (.bool (greatB x))) else none) [0,1,5,7,8,16] [] (e2 @hgx @relC.eq_1) ?_
    repeat with_reducible refine cj ?_ ?_
    all_goals try first | (exact hbx) | omega | exact ent (by kernel_rfl)
    -- cond 2
    refine AW.cn ?_ ?_
    · intro hb
      -- region 5
      refine AW.sg [4] [] trivial ?_
      -- ret 1
      rw [← hQl1, ← hQr]
      refine AW.rt trivial ?_
      exact Wk.of_eq (by rw [ixf_at hx hb hall])
    · intro hb
      refine AW.skip ?_
      refine hK3 _ _ _ ?_; clear hK3
      -- region 6
      refine AW.rg [0,1,7,8] [] trivial ?_
      -- again 1
      rw [← hQl1]; change Exists _
      exact ⟨_, eO, j + 1, rfl, eD, eD, (⟨by omega, by rw [hats, hall, hb]; rfl⟩)⟩
  · intro hb
    -- exit 0
    refine AW.kx [] [] ?_
    rw [← hQl1]
    refine hK1 _ _ _ ?_; clear hK1
    -- region 7
    refine AW.sg [4] [] trivial ?_
    -- ret 2
    rw [← hQr]
    refine AW.rt trivial ?_
    exact Wk.of_eq (by rw [List.take_of_length_le (by omega)] at hall; rw [ixf_none hall])
theorem great_r (R : List (List USet)) (hR : R.length ≤ 9223372036854775807) (hl : ∀ rs ∈ R, longR rs) : Reads Try.prog 10 false [.rsl 1 (R.map relC)] (.bool (R.any greatB)) := by
  have h := g58_r R hR hl
  have hge := ixf_ge greatB R
  have hc : Reads Try.prog 39 false [.rsl 1 (R.map relC), .fn 40 []] (.bool (R.any greatB)) := by
    refine Reads.body (rs := [.tmp 4]) Try.func39 rfl Try.ntmps39 rfl (by simp) ?_
    generalize hQr : retQ _ _ _ = Qr
    -- block 6
    -- region 0
    refine AW.sg [0,1] [] trivial ?_
    -- region 1
    refine AW.so 0 (fun ii => if ii = 2 then some (.reads false (.int .i64 (ixf greatB R))) else none) [4] [] trivial ?_
    repeat with_reducible refine cj ?_ ?_
    all_goals try first | (exact h) | omega | exact ent (by kernel_rfl)
    -- ret 1
    rw [← hQr]
    refine AW.rt trivial ?_
    exact Wk.of_eq (by rw [hge])
  refine Reads.body (rs := [.tmp 2]) Try.func10 rfl Try.ntmps10 rfl (by simp) ?_
  generalize hQr : retQ _ _ _ = Qr
  -- block 7
  -- region 0
  refine AW.sg [0] [] trivial ?_
  -- region 1
  refine AW.so 0 (fun ii => if ii = 1 then some (.reads false (.bool (R.any greatB))) else none) [2] [] trivial ?_
  repeat with_reducible refine cj ?_ ?_
  all_goals try first | (exact hc) | omega | exact ent (by kernel_rfl)
  -- ret 1
  rw [← hQr]
  refine AW.rt trivial ?_
  exact Wk.refl _
end Go.Proofs.R

/- The algebra of relations. -/
namespace Go.AM
theorem bool_ext {x y : Bool} (h : x = true ↔ y = true) : x = y := by cases x <;> cases y <;> simp_all
end Go.AM

namespace Go.Proofs.R
open Go.AM Go
set_option maxRecDepth 100000
set_option maxHeartbeats 2000000
theorem same_g (n : Nat) (a : List (List Bool)) (ha : Sq n a) (hn : n ≤ 512) : Reads Try.prog 13 false [relB a, relB a] (.bool true) := by
  have := same_r n n a a ha ha hn hn
  rwa [decide_eq_true rfl] at this
end Go.Proofs.R

/- The transitive closure. -/
namespace Go.AM
theorem warshI_row {n k : Nat} {t : List (List Bool)} (ht : Sq n t) (hk : k < n) : ∀ m, m ≤ n → Sq n (iter (warshI k) m t) ∧ rowT (iter (warshI k) m t) k = rowT t k ∧ ∀ i, i < n → rowT (iter (warshI k) m t) i = if i < m ∧ atT t i k = true then List.zipWith (· || ·) (rowT t i) (rowT t k) else rowT t i
  | 0, _ => ⟨ht, rfl, fun i _ => by rw [if_neg (by omega)]; rfl⟩
  | m + 1, hm => by
    obtain ⟨h1, h2, h3⟩ := warshI_row ht hk m (by omega)
    have hs : Sq n (iter (warshI k) (m + 1) t) := h1.warshI hk (by omega)
    rw [iter_succ, warshI_eq] at hs ⊢
    generalize iter (warshI k) m t = U at *
    have hUl := h1.len
    have hat : atT U m k = atT t m k := by
      have := h3 m (by omega)
      rw [if_neg (by omega)] at this
      unfold atT; rw [this]
    have hrm : rowT U m = rowT t m := by have := h3 m (by omega); rw [if_neg (by omega)] at this; exact this
    have hself : List.zipWith (· || ·) (rowT t k) (rowT t k) = rowT t k := by
      refine List.ext_getElem (by simp) fun i a b => by simp
    by_cases hc : atT t m k = true
    · rw [if_pos (by rw [hat]; exact hc)] at hs ⊢
      unfold orRow at hs ⊢
      refine ⟨hs, ?_, fun i hi => ?_⟩
      · rw [rowT_set]
        by_cases e : m = k
        · rw [if_pos ⟨e, by omega⟩, hrm, h2, e, hself]
        · rw [if_neg (by rintro ⟨x, _⟩; exact e x), h2]
      · rw [rowT_set]
        by_cases e : m = i
        · subst e
          rw [if_pos ⟨rfl, by omega⟩, hrm, h2, if_pos ⟨by omega, hc⟩]
        · rw [if_neg (by rintro ⟨x, _⟩; exact e x), h3 i hi]
          have : (i < m + 1 ∧ atT t i k = true) ↔ (i < m ∧ atT t i k = true) := ⟨fun h => ⟨by omega, h.2⟩, fun h => ⟨by omega, h.2⟩⟩
          simp only [this]
    · rw [if_neg (by rw [hat]; exact hc)] at hs ⊢
      refine ⟨hs, h2, fun i hi => ?_⟩
      rw [h3 i hi]
      have : (i < m + 1 ∧ atT t i k = true) ↔ (i < m ∧ atT t i k = true) := ⟨fun h => ⟨by
        by_cases e : i = m
        · subst e; exact absurd h.2 hc
        · omega, h.2⟩, fun h => ⟨by omega, h.2⟩⟩
      simp only [this]
theorem atT_warshK {n k : Nat} {t : List (List Bool)} (ht : Sq n t) (hk : k < n) {i j : Nat} (hi : i < n) (hj : j < n) : atT (warshK n k t) i j = (atT t i j || (atT t i k && atT t k j)) := by
  obtain ⟨_, _, h3⟩ := warshI_row ht hk n (Nat.le_refl _)
  have h := h3 i hi
  unfold warshK
  have h4 : atT (iter (warshI k) n t) i j = (rowT (iter (warshI k) n t) i).getD j false := rfl
  rw [h4, h]
  by_cases hc : atT t i k = true
  · rw [if_pos ⟨hi, hc⟩, zipB_get _ (by rw [ht.rowLen hi, ht.rowLen hk]) (by rw [ht.rowLen hi]; exact hj), hc, Bool.true_and]; rfl
  · rw [if_neg (by rintro ⟨_, x⟩; exact hc x)]
    have : atT t i k = false := by simpa using hc
    rw [this, Bool.false_and, Bool.or_false]; rfl
/-- Paths whose inner nodes are less than k. -/
def R_ (t : List (List Bool)) : Nat → Nat → Nat → Bool
  | 0, i, j => atT t i j
  | k + 1, i, j => R_ t k i j || (R_ t k i k && R_ t k k j)
theorem warsh_R {n : Nat} {t : List (List Bool)} (ht : Sq n t) : ∀ m, m ≤ n → ∀ i j, i < n → j < n → atT (iter (warshK n) m t) i j = R_ t m i j
  | 0, _, i, j, _, _ => rfl
  | m + 1, hm, i, j, hi, hj => by
    have ih := warsh_R ht m (by omega)
    rw [iter_succ, atT_warshK (ht.warsh' (by omega)) (by omega) hi hj, ih i j hi hj, ih i m hi (by omega), ih m j (by omega) hj]; rfl
theorem R_trans {t : List (List Bool)} : ∀ (k m : Nat), m < k → ∀ i j, R_ t k i m = true → R_ t k m j = true → R_ t k i j = true
  | k + 1, m, hm, i, j, h1, h2 => by
    simp only [R_, Bool.or_eq_true, Bool.and_eq_true] at h1 h2 ⊢
    by_cases e : m = k
    · subst e
      right
      exact ⟨by rcases h1 with h | h; exact h; exact h.1, by rcases h2 with h | h; exact h; exact h.2⟩
    · have ih := R_trans (t := t) k m (by omega)
      rcases h1 with h1 | h1 <;> rcases h2 with h2 | h2
      · exact .inl (ih i j h1 h2)
      · exact .inr ⟨ih i k h1 h2.1, h2.2⟩
      · exact .inr ⟨h1.1, ih k j h1.2 h2⟩
      · exact .inr ⟨h1.1, h2.2⟩
theorem warsh_trans {n : Nat} {t : List (List Bool)} (ht : Sq n t) {i k j : Nat} (hi : i < n) (hk : k < n) (hj : j < n) (h1 : atT (warsh n t) i k = true) (h2 : atT (warsh n t) k j = true) : atT (warsh n t) i j = true := by
  unfold warsh at *
  rw [warsh_R ht n (Nat.le_refl _) _ _ hi hk] at h1
  rw [warsh_R ht n (Nat.le_refl _) _ _ hk hj] at h2
  rw [warsh_R ht n (Nat.le_refl _) _ _ hi hj]
  exact R_trans n k hk i j h1 h2
theorem R_mono {t : List (List Bool)} : ∀ (k i j : Nat), atT t i j = true → R_ t k i j = true
  | 0, _, _, h => h
  | k + 1, i, j, h => by simp only [R_, Bool.or_eq_true]; exact .inl (R_mono k i j h)
theorem warsh_sub {n : Nat} {t : List (List Bool)} (ht : Sq n t) {i j : Nat} (hi : i < n) (hj : j < n) (h : atT t i j = true) : atT (warsh n t) i j = true := by
  unfold warsh; rw [warsh_R ht n (Nat.le_refl _) _ _ hi hj]; exact R_mono n i j h
/-- The closure is the least. -/
theorem R_least {n : Nat} {t : List (List Bool)} {S : Nat → Nat → Prop} (hs : ∀ i j, i < n → j < n → atT t i j = true → S i j) (ht : ∀ i k j, i < n → k < n → j < n → S i k → S k j → S i j) : ∀ (k i j : Nat), k ≤ n → i < n → j < n → R_ t k i j = true → S i j
  | 0, i, j, _, hi, hj, h => hs i j hi hj h
  | k + 1, i, j, hk, hi, hj, h => by
    simp only [R_, Bool.or_eq_true, Bool.and_eq_true] at h
    rcases h with h | h
    · exact R_least hs ht k i j (by omega) hi hj h
    · exact ht i k j hi (by omega) hj (R_least hs ht k i k (by omega) hi (by omega) h.1) (R_least hs ht k k j (by omega) (by omega) hj h.2)
theorem warsh_least {n : Nat} {t : List (List Bool)} (h : Sq n t) {S : Nat → Nat → Prop} (hs : ∀ i j, i < n → j < n → atT t i j = true → S i j) (ht : ∀ i k j, i < n → k < n → j < n → S i k → S k j → S i j) {i j : Nat} (hi : i < n) (hj : j < n) (hw : atT (warsh n t) i j = true) : S i j := by
  unfold warsh at hw
  rw [warsh_R h n (Nat.le_refl _) _ _ hi hj] at hw
  exact R_least hs ht n i j (Nat.le_refl _) hi hj hw
/-- The first step of a path. -/
theorem warsh_first {n : Nat} {t : List (List Bool)} (h : Sq n t) {i j : Nat} (hi : i < n) (hj : j < n) (hw : atT (warsh n t) i j = true) : atT t i j = true ∨ ∃ m, m < n ∧ atT t i m = true ∧ atT (warsh n t) m j = true := by
  have := warsh_least h (S := fun i j => atT (warsh n t) i j = true ∧ (atT t i j = true ∨ ∃ m, m < n ∧ atT t i m = true ∧ atT (warsh n t) m j = true)) (fun i j hi hj h1 => ⟨warsh_sub h hi hj h1, .inl h1⟩) (fun i k j hi hk hj ⟨h1, h2⟩ ⟨h3, h4⟩ => by
    refine ⟨warsh_trans h hi hk hj h1 h3, .inr ?_⟩
    rcases h2 with h2 | ⟨m, hm, h5, h6⟩
    · exact ⟨k, hk, h2, h3⟩
    · exact ⟨m, hm, h5, warsh_trans h hm hk hj h6 h3⟩) hi hj hw
  exact this.2
end Go.AM

/- The least topological order. -/
namespace Go.AM
theorem filter_lt {p q : Nat → Bool} {l : List Nat} (h : ∀ x ∈ l, p x = true → q x = true) (hx : ∃ x ∈ l, q x = true ∧ p x = false) : (l.filter p).length < (l.filter q).length := by
  induction l with
  | nil => obtain ⟨x, hx, _⟩ := hx; cases hx
  | cons a l ih =>
    have hle : (l.filter p).length ≤ (l.filter q).length := by
      have := List.Sublist.length_le (l.filter p |>.filter_sublist (p := q))
      have e : (l.filter p).filter q = l.filter p := by
        rw [List.filter_eq_self]
        intro x hx; exact h x (by simp [(List.mem_filter.1 hx).1]) (List.mem_filter.1 hx).2
      have e2 : (l.filter p).filter q = (l.filter q).filter p := by rw [List.filter_filter, List.filter_filter]; congr 1; funext x; exact Bool.and_comm _ _
      rw [← e, e2]; exact List.length_filter_le _ _
    obtain ⟨x, hx, h1, h2⟩ := hx
    rcases List.mem_cons.1 hx with rfl | hx
    · simp only [List.filter_cons, h1, h2, if_true, Bool.false_eq_true, if_false, List.length_cons]; omega
    · have ih := ih (fun y hy => h y (by simp [hy])) ⟨x, hx, h1, h2⟩
      have ha := h a (by simp)
      simp only [List.filter_cons]
      cases hp : p a
      · cases hq : q a
        · simpa using ih
        · simp only [Bool.false_eq_true, if_false, if_true, List.length_cons]; omega
      · rw [ha hp]; simp only [if_true, List.length_cons]; omega
def freeO (n : Nat) (t : List (List Bool)) (out : List Nat) (i : Nat) : Bool := !out.contains i && (List.range n).all fun k => !atT t k i || out.contains k
def nextO (n : Nat) (t : List (List Bool)) (out : List Nat) : Option Nat := (List.range n).find? (freeO n t out)
theorem freeO_iff {n : Nat} {t : List (List Bool)} {out : List Nat} {i : Nat} : freeO n t out i = true ↔ i ∉ out ∧ ∀ k, k < n → atT t k i = true → k ∈ out := by
  simp only [freeO, Bool.and_eq_true, Bool.not_eq_true', List.all_eq_true, List.mem_range, Bool.or_eq_true]
  constructor
  · rintro ⟨h1, h2⟩
    refine ⟨fun h => (by simp [h] at h1), fun k hk ha => ?_⟩
    rcases h2 k hk with h | h
    · rw [ha] at h; cases h
    · simpa using h
  · rintro ⟨h1, h2⟩
    refine ⟨by simpa using h1, fun k hk => ?_⟩
    cases ha : atT t k i with
    | false => exact .inl rfl
    | true => exact .inr (by simpa using h2 k hk ha)
theorem acyc_iff {n : Nat} {t : List (List Bool)} : acyc n t = true ↔ ∀ i, i < n → atT (warsh n t) i i = false := by
  unfold acyc; rw [List.all_eq_true]
  constructor
  · intro h i hi; have := h i (List.mem_range.2 hi); simpa using this
  · intro h i hi; rw [h i (List.mem_range.1 hi)]; rfl
theorem exists_free {n : Nat} {t : List (List Bool)} (hs : Sq n t) (ha : acyc n t = true) {out : List Nat} : ∀ (m i : Nat), i < n → i ∉ out → ((List.range n).filter fun k => atT (warsh n t) k i && !out.contains k).length ≤ m → ∃ j, j < n ∧ freeO n t out j = true := by
  have hac := acyc_iff.1 ha
  intro m
  induction m with
  | zero =>
    intro i hi ho hl
    refine ⟨i, hi, freeO_iff.2 ⟨ho, fun k hk h => ?_⟩⟩
    rcases Classical.em (k ∈ out) with h1 | h1
    · exact h1
    · exfalso
      have hm : k ∈ (List.range n).filter fun k => atT (warsh n t) k i && !out.contains k := by
        rw [List.mem_filter]; exact ⟨List.mem_range.2 hk, by simp [warsh_sub hs hk hi h, h1]⟩
      have := List.length_pos_of_mem hm
      omega
  | succ m ih =>
    intro i hi ho hl
    by_cases hf : freeO n t out i = true
    · exact ⟨i, hi, hf⟩
    · have : ∃ k, k < n ∧ atT t k i = true ∧ k ∉ out := by
        rcases Classical.em (∃ k, k < n ∧ atT t k i = true ∧ k ∉ out) with h | h
        · exact h
        · exact absurd (freeO_iff.2 ⟨ho, fun k hk h1 => by
            rcases Classical.em (k ∈ out) with h2 | h2
            · exact h2
            · exact absurd ⟨k, hk, h1, h2⟩ h⟩) hf
      obtain ⟨k, hk, h1, h2⟩ := this
      have hki := warsh_sub hs hk hi h1
      refine ih k hk h2 (Nat.le_of_lt_succ (Nat.lt_of_lt_of_le (filter_lt (fun x hx hp => ?_) ⟨k, List.mem_range.2 hk, ?_, ?_⟩) hl))
      · simp only [Bool.and_eq_true] at hp ⊢
        exact ⟨warsh_trans hs (List.mem_range.1 hx) hk hi hp.1 hki, hp.2⟩
      · simp [hki, h2]
      · rw [hac k hk]; rfl
structure OrdI (n : Nat) (t : List (List Bool)) (out : List Nat) : Prop where
  nd : out.Nodup
  rng : ∀ i ∈ out, i < n
  top : ∀ (q i k : Nat), out[q]? = some i → k < n → atT t k i = true → ∃ p : Nat, p < q ∧ out[p]? = some k
theorem OrdI.closed {n : Nat} {t : List (List Bool)} {out : List Nat} (h : OrdI n t out) {i k : Nat} (hi : i ∈ out) (hk : k < n) (ha : atT t k i = true) : k ∈ out := by
  obtain ⟨q, hq, rfl⟩ := List.mem_iff_getElem.1 hi
  obtain ⟨p, _, hp⟩ := h.top q _ k (List.getElem?_eq_getElem hq) hk ha
  exact List.mem_of_getElem? hp
theorem OrdI.snoc {n : Nat} {t : List (List Bool)} {out : List Nat} (h : OrdI n t out) {i : Nat} (hi : i < n) (hf : freeO n t out i = true) : OrdI n t (out ++ [i]) := by
  obtain ⟨h1, h2⟩ := freeO_iff.1 hf
  refine ⟨?_, fun j hj => ?_, fun q j k hq hk ha => ?_⟩
  · rw [List.nodup_append]
    exact ⟨h.nd, by simp, fun a ha b hb => by simp at hb; subst hb; rintro rfl; exact h1 ha⟩
  · rcases List.mem_append.1 hj with hj | hj
    · exact h.rng j hj
    · simp at hj; omega
  · by_cases hql : q < out.length
    · rw [List.getElem?_append_left hql] at hq
      obtain ⟨p, hp1, hp2⟩ := h.top q j k hq hk ha
      exact ⟨p, hp1, by rw [List.getElem?_append_left (by omega)]; exact hp2⟩
    · have hq2 := (List.getElem?_eq_some_iff.1 hq).1
      simp at hq2
      have : q = out.length := by omega
      subst this
      simp at hq; subst hq
      obtain ⟨p, hp, hpk⟩ := List.mem_iff_getElem.1 (h2 k hk ha)
      exact ⟨p, hp, by rw [List.getElem?_append_left hp, List.getElem?_eq_getElem hp, hpk]⟩
theorem sub_len : ∀ (n : Nat) (l : List Nat), (∀ i, i < n → i ∈ l) → n ≤ l.length
  | 0, _, _ => Nat.zero_le _
  | n + 1, l, h => by
    have hn := h n (by omega)
    have ih := sub_len n (l.erase n) fun i hi => (List.mem_erase_of_ne (by omega)).2 (h i (by omega))
    rw [List.length_erase_of_mem hn] at ih
    have := List.length_pos_of_mem hn
    omega
theorem missing {n : Nat} {l : List Nat} (hl : l.length < n) : ∃ i, i < n ∧ i ∉ l := by
  rcases Classical.em (∃ i, i < n ∧ i ∉ l) with h | h
  · exact h
  · exfalso
    have := sub_len n l fun i hi => by
      rcases Classical.em (i ∈ l) with h1 | h1
      · exact h1
      · exact absurd ⟨i, hi, h1⟩ h
    omega
theorem OrdI.next {n : Nat} {t : List (List Bool)} (hs : Sq n t) (ha : acyc n t = true) {out : List Nat} (hl : out.length < n) : ∃ i, nextO n t out = some i ∧ i < n ∧ freeO n t out i = true := by
  obtain ⟨i, hi, ho⟩ := missing hl
  obtain ⟨j, hj, hf⟩ := exists_free hs ha _ i hi ho (Nat.le_refl _)
  cases h : nextO n t out with
  | none => have := find_range_none.1 h j hj; rw [hf] at this; cases this
  | some i => obtain ⟨h1, h2, _⟩ := find_range_lt h; exact ⟨i, rfl, h1, h2⟩
theorem OrdI.nil (n : Nat) (t : List (List Bool)) : OrdI n t [] := ⟨by simp, by simp, by simp⟩
end Go.AM

/- Counting the bits of a word, and finding the lowest one. -/
namespace Go.AM
def g1 (r : Nat) : Nat := (r >>> 1 &&& 0x55) + (r &&& 0x55)
def g2 (r : Nat) : Nat := (r >>> 2 &&& 0x33) + (r &&& 0x33)
def g3 (r : Nat) : Nat := (r >>> 4 + r) &&& 0x0f
def f1 (M x : Nat) : Nat := (x >>> 1 &&& M) + (x &&& M)
def f2 (M x : Nat) : Nat := (x >>> 2 &&& M) + (x &&& M)
def f3 (M x : Nat) : Nat := (x >>> 4 + x) &&& M
theorem b1 : ∀ r, r < 256 → ∀ c, c < 2 → (r >>> 1 + 128 * c) &&& 0x55 = r >>> 1 &&& 0x55 := by decide +kernel
theorem b2 : ∀ r, r < 256 → ∀ c, c < 4 → (r >>> 2 + 64 * c) &&& 0x33 = r >>> 2 &&& 0x33 := by decide +kernel
theorem b3 : ∀ r, r < 69 → ∀ c, c < 5 → r >>> 4 ≤ 4 → (r >>> 4 + 16 * c + r) &&& 0x0f = (r >>> 4 + r) &&& 0x0f ∧ r >>> 4 + 16 * c + r < 256 := by decide +kernel
end Go.AM

/- The lowest bit of a word, and the bits one after another. -/
namespace Go.AM
end Go.AM

/- The machine's steps of counting. -/
namespace Go.AM
end Go.AM

/- The members of a set, word by word. -/
namespace Go.AM
end Go.AM

/- Strict orders as tables of truths. -/
namespace Go.AM
/-! ### Members of a row. -/
def memB (b : List Bool) : List Nat := (List.range b.length).filter fun i => b.getD i false
theorem memB_mem {b : List Bool} {i : Nat} : i ∈ memB b ↔ i < b.length ∧ b.getD i false = true := by
  unfold memB; simp [List.mem_filter]
def subB (a b : List Bool) : Bool := (List.range a.length).all fun i => !a.getD i false || b.getD i false
theorem subB_iff {a b : List Bool} : subB a b = true ↔ ∀ i, i < a.length → a.getD i false = true → b.getD i false = true := by
  unfold subB
  rw [List.all_eq_true]
  constructor
  · intro h i hi ha
    have := h i (List.mem_range.2 hi)
    rw [ha] at this
    simpa using this
  · intro h i hi
    have := h i (List.mem_range.1 hi)
    cases ha : a.getD i false
    · rfl
    · rw [this ha]; rfl
/-! ### Orders. -/
structure IsPo (n : Nat) (t : List (List Bool)) : Prop where
  irr : ∀ i, i < n → atT t i i = false
  trans : ∀ i j k, i < n → j < n → k < n → atT t i j = true → atT t j k = true → atT t i k = true
theorem IsPo.warsh {n : Nat} {t : List (List Bool)} (hs : Sq n t) (h : IsPo n t) : warsh n t = t := by
  refine tab_ext hs.warsh hs fun i j hi hj => bool_ext ⟨fun hw => ?_, fun hw => warsh_sub hs hi hj hw⟩
  exact warsh_least hs (S := fun a b => atT t a b = true) (fun a b _ _ h => h) (fun a c b ha hc hb h1 h2 => h.trans a c b ha hc hb h1 h2) hi hj hw
theorem IsPo.acyc {n : Nat} {t : List (List Bool)} (hs : Sq n t) (h : IsPo n t) : acyc n t = true := by
  rw [acyc_iff]
  intro i hi
  rw [h.warsh hs]
  exact h.irr i hi
theorem warsh_po {n : Nat} {t : List (List Bool)} (hs : Sq n t) (h : AM.acyc n t = true) : IsPo n (warsh n t) :=
  ⟨fun i hi => acyc_iff.1 h i hi, fun i j k hi hj hk h1 h2 => warsh_trans hs hi hj hk h1 h2⟩
/-! ### Covers. -/
def covT (n : Nat) (t : List (List Bool)) : List (List Bool) := redT n t (compT n t (warsh n t))
theorem Sq.cov {n : Nat} {t : List (List Bool)} (hs : Sq n t) : Sq n (covT n t) := Sq.red hs (Sq.comp hs.warsh)
def covB (n : Nat) (t : List (List Bool)) (i j : Nat) : Bool := atT t i j && !(List.range n).any fun k => atT t i k && atT t k j
theorem atT_cov {n : Nat} {t : List (List Bool)} (hs : Sq n t) (h : IsPo n t) {i j : Nat} (hi : i < n) (hj : j < n) : atT (covT n t) i j = covB n t i j := by
  unfold covT covB
  rw [atT_red hs (Sq.comp hs.warsh) hi hj, h.warsh hs]
  congr 2
  refine bool_ext ?_
  rw [atT_comp hs hi hj, List.any_eq_true]
  simp
/-! ### Sets of elements. -/
def setR (n : Nat) (f : Nat → Bool) : List Bool := (List.range n).map f
theorem setR_get {n : Nat} {f : Nat → Bool} {i : Nat} (h : i < n) : (setR n f).getD i false = f i := by
  unfold setR; simp [List.getD_eq_getElem?_getD, h]
end Go.AM

/- Levels of an order; tables filled pair by pair. -/
namespace Go.AM
structure IsLev (n : Nat) (t : List (List Bool)) (o : List Int) : Prop where
  len : o.length = n
  pos : ∀ j, j < n → 0 ≤ o.getD j 0
  up : ∀ i j, i < n → j < n → atT t i j = true → o.getD i 0 + 1 ≤ o.getD j 0
  att : ∀ j, j < n → o.getD j 0 = 0 ∨ ∃ i, i < n ∧ atT t i j = true ∧ o.getD j 0 = o.getD i 0 + 1
theorem lev_le {n : Nat} {t : List (List Bool)} {o o' : List Int} (h : IsLev n t o) (hp : ∀ j, j < n → 0 ≤ o'.getD j 0) (hu : ∀ i j, i < n → j < n → atT t i j = true → o'.getD i 0 + 1 ≤ o'.getD j 0) :
    ∀ (m : Nat) (j : Nat), j < n → o.getD j 0 ≤ m → o.getD j 0 ≤ o'.getD j 0
  | 0, j, hj, hm => by have := hp j hj; omega
  | m + 1, j, hj, hm => by
    rcases h.att j hj with h0 | ⟨i, hi, ha, he⟩
    · have := hp j hj; omega
    · have := lev_le h hp hu m i hi (by omega)
      have := hu i j hi hj ha
      omega
theorem lev_below {n : Nat} {t : List (List Bool)} {o : List Int} (h : IsLev n t o) : ∀ (m : Nat) (j : Nat), j < n → o.getD j 0 = m → ∀ v : Nat, v ≤ m → ∃ i, i < n ∧ o.getD i 0 = v
  | 0, j, hj, hm, v, hv => ⟨j, hj, by omega⟩
  | m + 1, j, hj, hm, v, hv => by
    by_cases e : v = m + 1
    · exact ⟨j, hj, by rw [hm, e]⟩
    · rcases h.att j hj with h0 | ⟨i, hi, ha, he⟩
      · omega
      · exact lev_below h m i hi (by omega) v (by omega)
theorem lev_lt {n : Nat} {t : List (List Bool)} {o : List Int} (h : IsLev n t o) {j : Nat} (hj : j < n) : o.getD j 0 < n := by
  have hp := h.pos j hj
  have hs := sub_len ((o.getD j 0).toNat + 1) ((List.range n).map fun i => (o.getD i 0).toNat) (fun v hv => by
    obtain ⟨i, hi, he⟩ := lev_below h (o.getD j 0).toNat j hj (by omega) v (by omega)
    exact List.mem_map.2 ⟨i, List.mem_range.2 hi, by rw [he]; rfl⟩)
  rw [List.length_map, List.length_range] at hs
  omega
/-! ### The program: along an order. -/
def levJ (i : Nat) (o : List Int) (j : Nat) : List Int := o.set j (max (o.getD j 0) (o.getD i 0 + 1))
def levS (t : List (List Bool)) (o : List Int) (i : Nat) : List Int := (memB (rowT t i)).foldl (levJ i) o
theorem levJ_len (i : Nat) (l : List Nat) : ∀ o : List Int, (l.foldl (levJ i) o).length = o.length := by
  induction l with
  | nil => intro o; rfl
  | cons a l ih => intro o; rw [List.foldl_cons, ih]; simp [levJ]
theorem levJ_get (i : Nat) : ∀ (l : List Nat) (o : List Int), l.Nodup → (∀ j ∈ l, j < o.length ∧ j ≠ i) → ∀ k, (l.foldl (levJ i) o).getD k 0 = if k ∈ l then max (o.getD k 0) (o.getD i 0 + 1) else o.getD k 0
  | [], o, _, _, k => by simp
  | a :: l, o, hn, hl, k => by
    have ha := hl a (List.mem_cons_self ..)
    have hn2 := List.nodup_cons.1 hn
    rw [List.foldl_cons, levJ_get i l _ hn2.2 (fun j hj => by have := hl j (List.mem_cons_of_mem _ hj); simpa [levJ] using this) k]
    have hi : (levJ i o a).getD i 0 = o.getD i 0 := Go.AM.getD_set_ne ha.2 ..
    rw [hi]
    by_cases e : a = k
    · subst e
      rw [if_neg hn2.1, if_pos (List.mem_cons_self ..)]
      exact Go.AM.getD_set_eq ha.1 _ _
    · have : (levJ i o a).getD k 0 = o.getD k 0 := Go.AM.getD_set_ne e ..
      rw [this]
      have e2 : (k ∈ a :: l) = (k ∈ l) := by
        apply propext; rw [List.mem_cons]; exact ⟨fun h => h.resolve_left (fun h => e h.symm), .inr⟩
      simp only [e2]
theorem memB_nodup (b : List Bool) : (memB b).Nodup := List.Pairwise.sublist List.filter_sublist List.nodup_range
theorem levS_len (t : List (List Bool)) (o : List Int) (i : Nat) : (levS t o i).length = o.length := levJ_len i _ o
theorem levS_get {n : Nat} {t : List (List Bool)} (hs : Sq n t) (hp : IsPo n t) {o : List Int} (ho : o.length = n) {i : Nat} (hi : i < n) {k : Nat} (hk : k < n) : (levS t o i).getD k 0 = if atT t i k = true then max (o.getD k 0) (o.getD i 0 + 1) else o.getD k 0 := by
  unfold levS
  rw [levJ_get i _ _ (memB_nodup _) (fun j hj => by
    have := memB_mem.1 hj
    rw [hs.rowLen hi] at this
    refine ⟨by omega, fun e => ?_⟩
    subst e
    have h2 := hp.irr _ hi
    unfold atT at h2
    rw [h2] at this
    exact absurd this.2 (by simp)) k]
  have e : (k ∈ memB (rowT t i)) = (atT t i k = true) := by
    apply propext; rw [memB_mem, hs.rowLen hi]; exact ⟨fun h => h.2, fun h => ⟨hk, h⟩⟩
  simp only [e]
structure LevI (n : Nat) (t : List (List Bool)) (pre : List Nat) (o : List Int) : Prop where
  len : o.length = n
  pos : ∀ j, j < n → 0 ≤ o.getD j 0
  up : ∀ i j, i ∈ pre → j < n → atT t i j = true → o.getD i 0 + 1 ≤ o.getD j 0
  att : ∀ j, j < n → o.getD j 0 = 0 ∨ ∃ i, i ∈ pre ∧ atT t i j = true ∧ o.getD j 0 = o.getD i 0 + 1
  bnd : ∀ j, j < n → o.getD j 0 ≤ pre.length
theorem LevI.nil (n : Nat) (t : List (List Bool)) : LevI n t [] (List.replicate n 0) := by
  have e : ∀ j, (List.replicate n (0 : Int)).getD j 0 = 0 := fun j => by rw [List.getD_eq_getElem?_getD, List.getElem?_replicate]; split <;> rfl
  exact ⟨by simp, fun j _ => by rw [e]; exact Int.le_refl _, (fun i j h => absurd h List.not_mem_nil), fun j _ => Or.inl (e j), fun j _ => by rw [e]; simp⟩
theorem nodup_ix {l : List Nat} (h : l.Nodup) {p q : Nat} (hp : p < l.length) (hq : q < l.length) (e : l[p] = l[q]) : p = q := (List.getElem_inj h).1 e
/-- What stands before: the elements of a list that is closed downwards. -/
theorem LevI.snoc {n : Nat} {t : List (List Bool)} (hs : Sq n t) (hp : IsPo n t) {pre : List Nat} {o : List Int} (h : LevI n t pre o) {i : Nat} (hi : i < n) (hin : i ∉ pre) (hpr : ∀ k ∈ pre, k < n) (hcl : ∀ k, k ∈ pre → atT t i k = false) : LevI n t (pre ++ [i]) (levS t o i) := by
  have hg := fun k hk => levS_get (k := k) hs hp h.len hi hk
  have hgi : (levS t o i).getD i 0 = o.getD i 0 := by rw [hg i hi, hp.irr i hi]; simp
  have hgp : ∀ k, k ∈ pre → (levS t o i).getD k 0 = o.getD k 0 := fun k hk => by rw [hg k (hpr k hk), hcl k hk]; simp
  have hge : ∀ k, k < n → o.getD k 0 ≤ (levS t o i).getD k 0 := fun k hk => by rw [hg k hk]; split <;> omega
  refine ⟨by rw [levS_len, h.len], fun j hj => Int.le_trans (h.pos j hj) (hge j hj), fun k j hk hj ha => ?_, fun j hj => ?_, fun j hj => ?_⟩
  · rcases List.mem_append.1 hk with hk | hk
    · rw [hgp k hk]
      exact Int.le_trans (h.up k j hk hj ha) (hge j hj)
    · obtain rfl := List.mem_singleton.1 hk
      rw [hgi, hg j hj, if_pos ha]
      omega
  · rw [hg j hj]
    have hold : o.getD j 0 = 0 ∨ ∃ k, k ∈ pre ++ [i] ∧ atT t k j = true ∧ o.getD j 0 = (levS t o i).getD k 0 + 1 := by
      rcases h.att j hj with h0 | ⟨k, hk, ha, he⟩
      · exact .inl h0
      · exact .inr ⟨k, List.mem_append_left _ hk, ha, by rw [hgp k hk]; exact he⟩
    split
    · rename_i ha
      by_cases hm : o.getD i 0 + 1 ≤ o.getD j 0
      · rw [Int.max_eq_left hm]; exact hold
      · rw [Int.max_eq_right (by omega)]
        exact .inr ⟨i, List.mem_append_right _ (List.mem_singleton.2 rfl), ha, by rw [hgi]⟩
    · exact hold
  · rw [hg j hj, List.length_append]
    have h1 := h.bnd j hj
    have h2 := h.bnd i hi
    simp only [List.length_singleton, Int.natCast_add, Int.natCast_one]
    split <;> omega
theorem LevI.all {n : Nat} {t : List (List Bool)} (hs : Sq n t) (hp : IsPo n t) {l : List Nat} (ho : OrdI n t l) : ∀ k, k ≤ l.length → LevI n t (l.take k) ((l.take k).foldl (levS t) (List.replicate n 0))
  | 0, _ => by simpa using LevI.nil n t
  | k + 1, hk => by
    have ih := LevI.all hs hp ho k (by omega)
    have e : l.take (k + 1) = l.take k ++ [l[k]] := by rw [List.take_succ_eq_append_getElem (by omega)]
    rw [e, List.foldl_append]
    have hm : l[k] ∈ l := List.getElem_mem ..
    have hin : ∀ x ∈ l, x < n := ho.rng
    refine LevI.snoc hs hp ih (hin _ hm) ?_ (fun x hx => hin x (List.mem_of_mem_take hx)) fun x hx => ?_
    · intro hx
      obtain ⟨q, hq, hqe⟩ := List.mem_iff_getElem.1 hx
      have hql : q < k := by simp at hq; omega
      rw [List.getElem_take] at hqe
      exact absurd (nodup_ix ho.nd (by omega) (by omega) hqe) (by omega)
    · cases ea : atT t l[k] x
      · rfl
      · exfalso
        obtain ⟨q, hq, hqe⟩ := List.mem_iff_getElem.1 hx
        have hql : q < k := by simp at hq; omega
        rw [List.getElem_take] at hqe
        obtain ⟨p, hp1, hp2⟩ := ho.top q x l[k] (by rw [List.getElem?_eq_getElem (by omega), hqe]) (hin _ hm) ea
        rw [List.getElem?_eq_getElem (by omega)] at hp2
        exact absurd (nodup_ix ho.nd (by omega) (by omega) (Option.some.inj hp2)) (by omega)
/-! ### The reference: rounds. -/
def relJ (t : List (List Bool)) (i j : Nat) (o : List Int) : List Int := if atT t i j = true ∧ o.getD j 0 ≤ o.getD i 0 then o.set j (o.getD i 0 + 1) else o
structure RndI (n : Nat) (t : List (List Bool)) (L : List Int) (r : Nat) (vis : Nat → Nat → Prop) (c : Bool) (o : List Int) : Prop where
  len : o.length = n
  pos : ∀ j, j < n → 0 ≤ o.getD j 0
  le : ∀ j, j < n → o.getD j 0 ≤ L.getD j 0
  low : ∀ j, j < n → min (L.getD j 0) r ≤ o.getD j 0
  nxt : ∀ i j, i < n → j < n → vis i j → atT t i j = true → min (L.getD i 0) r + 1 ≤ o.getD j 0
  same : c = false → ∀ i j, i < n → j < n → vis i j → atT t i j = true → o.getD i 0 < o.getD j 0
theorem RndI.start {n : Nat} {t : List (List Bool)} {L : List Int} (hL : IsLev n t L) : RndI n t L 0 (fun _ _ => False) false (List.replicate n 0) := by
  have e : ∀ j, (List.replicate n (0 : Int)).getD j 0 = 0 := fun j => by rw [List.getD_eq_getElem?_getD, List.getElem?_replicate]; split <;> rfl
  refine ⟨by simp, fun j _ => by rw [e]; exact Int.le_refl _, fun j hj => by rw [e]; exact hL.pos j hj, fun j hj => ?_, fun _ _ _ _ h => h.elim, fun _ _ _ _ _ h => h.elim⟩
  rw [e]; have := hL.pos j hj; omega
theorem RndI.step {n : Nat} {t : List (List Bool)} {L : List Int} (hL : IsLev n t L) (hp : IsPo n t) {r : Nat} {vis vis' : Nat → Nat → Prop} {c : Bool} {o : List Int} (h : RndI n t L r vis c o) {i j : Nat} (hi : i < n) (hj : j < n)
    (hv : ∀ a b, vis' a b → vis a b ∨ (a = i ∧ b = j)) :
    RndI n t L r vis' (c || (atT t i j && decide (o.getD j 0 ≤ o.getD i 0))) (relJ t i j o) := by
  unfold relJ
  by_cases hc : atT t i j = true ∧ o.getD j 0 ≤ o.getD i 0
  · have hne : i ≠ j := fun e => by subst e; have := hp.irr _ hi; rw [this] at hc; exact absurd hc.1 (by simp)
    rw [if_pos hc]
    have hg : ∀ k, (o.set j (o.getD i 0 + 1)).getD k 0 = if k = j then o.getD i 0 + 1 else o.getD k 0 := fun k => by
      by_cases e : k = j
      · subst e; rw [if_pos rfl]; exact Go.AM.getD_set_eq (by rw [h.len]; exact hj) _ _
      · rw [if_neg e]; exact Go.AM.getD_set_ne (fun q => e q.symm) ..
    have hge : ∀ k, k < n → o.getD k 0 ≤ (o.set j (o.getD i 0 + 1)).getD k 0 := fun k _ => by rw [hg]; split; (rename_i e; subst e; omega); exact Int.le_refl _
    refine ⟨by simp [h.len], fun k hk => Int.le_trans (h.pos k hk) (hge k hk), fun k hk => ?_, fun k hk => Int.le_trans (h.low k hk) (hge k hk), fun a b ha hb hab hat => ?_, fun hf => ?_⟩
    · rw [hg]
      split
      · rename_i e; subst e
        have := h.le i hi
        have := hL.up i _ hi hj hc.1
        omega
      · exact h.le k hk
    · rcases hv a b hab with h1 | ⟨rfl, rfl⟩
      · exact Int.le_trans (h.nxt a b ha hb h1 hat) (hge b hb)
      · rw [hg, if_pos rfl]
        have := h.low a ha
        omega
    · exfalso; rw [hc.1, decide_eq_true hc.2] at hf; simp at hf
  · rw [if_neg hc]
    refine ⟨h.len, h.pos, h.le, h.low, fun a b ha hb hab hat => ?_, fun hf a b ha hb hab hat => ?_⟩
    · rcases hv a b hab with h1 | ⟨rfl, rfl⟩
      · exact h.nxt a b ha hb h1 hat
      · have := h.low a ha
        have : ¬ o.getD b 0 ≤ o.getD a 0 := fun q => hc ⟨hat, q⟩
        omega
    · rcases hv a b hab with h1 | ⟨rfl, rfl⟩
      · exact h.same (by rw [Bool.or_eq_false_iff] at hf; exact hf.1) a b ha hb h1 hat
      · have : ¬ o.getD b 0 ≤ o.getD a 0 := fun q => hc ⟨hat, q⟩
        omega
theorem RndI.next {n : Nat} {t : List (List Bool)} {L : List Int} (hL : IsLev n t L) {r : Nat} {vis vis' : Nat → Nat → Prop} {c : Bool} {o : List Int} (h : RndI n t L r vis c o) (hv : ∀ i j, i < n → j < n → vis i j) (hv' : ∀ i j, ¬ vis' i j) : RndI n t L (r + 1) vis' false o := by
  refine ⟨h.len, h.pos, h.le, fun j hj => ?_, fun i j _ _ hh => (hv' i j hh).elim, fun _ i j _ _ hh => (hv' i j hh).elim⟩
  rcases hL.att j hj with h0 | ⟨i, hi, ha, he⟩
  · have := h.pos j hj; omega
  · have := h.nxt i j hi hj (hv i j hi hj) ha; omega
theorem RndI.stop {n : Nat} {t : List (List Bool)} {L : List Int} (hL : IsLev n t L) {r : Nat} {vis : Nat → Nat → Prop} {o : List Int} (h : RndI n t L r vis false o) (hv : ∀ i j, i < n → j < n → vis i j) : o = L := by
  refine getD_ext (by rw [h.len, hL.len]) fun k hk => ?_
  rw [h.len] at hk
  have h1 := lev_le hL h.pos (fun i j hi hj ha => by have := h.same rfl i j hi hj (hv i j hi hj) ha; omega) (L.getD k 0).toNat k hk (by have := hL.pos k hk; omega)
  have h2 := h.le k hk
  omega
theorem RndI.last {n : Nat} {t : List (List Bool)} {L : List Int} (hL : IsLev n t L) {vis : Nat → Nat → Prop} {c : Bool} {o : List Int} (h : RndI n t L n vis c o) : o = L := by
  refine getD_ext (by rw [h.len, hL.len]) fun k hk => ?_
  rw [h.len] at hk
  have h1 := h.low k hk
  have h2 := h.le k hk
  have h3 := lev_lt hL hk
  omega
/-! ### Tables filled pair by pair. -/
def tabF (n : Nat) (f : Nat → Nat → Bool) : List (List Bool) := (List.range n).map fun i => setR n (f i)
theorem rowT_tabF {n : Nat} {f : Nat → Nat → Bool} {i : Nat} (hi : i < n) : rowT (tabF n f) i = setR n (f i) := rowT_of (by simp [tabF, hi])
theorem atT_tabF {n : Nat} {f : Nat → Nat → Bool} {i j : Nat} (hi : i < n) (hj : j < n) : atT (tabF n f) i j = f i j := by unfold atT; rw [rowT_tabF hi, setR_get hj]
end Go.AM

/- Rows made of lists of members. -/
namespace Go.AM
end Go.AM

/- The restriction of an order. -/
namespace Go.AM
def resT (t : List (List Bool)) (M : List Nat) : List (List Bool) := tabF M.length fun a c => atT t (M.getD a 0) (M.getD c 0)
theorem resT_at {t : List (List Bool)} {M : List Nat} {a c : Nat} (ha : a < M.length) (hc : c < M.length) : atT (resT t M) a c = atT t (M.getD a 0) (M.getD c 0) := atT_tabF ha hc
theorem IsPo.res {n : Nat} {t : List (List Bool)} (h : IsPo n t) {M : List Nat} (hM : ∀ i ∈ M, i < n) : IsPo M.length (resT t M) := by
  have hl : ∀ a, a < M.length → M.getD a 0 < n := fun a ha => hM _ (mem_getD ha 0)
  refine ⟨fun i hi => by rw [resT_at hi hi]; exact h.irr _ (hl i hi), fun i j k hi hj hk h1 h2 => ?_⟩
  rw [resT_at hi hj] at h1
  rw [resT_at hj hk] at h2
  rw [resT_at hi hk]
  exact h.trans _ _ _ (hl i hi) (hl j hj) (hl k hk) h1 h2
end Go.AM

/- Plain facts on the reference's functions over orders. -/
namespace Go.AM
theorem covB_yes {n : Nat} {t : List (List Bool)} {i j : Nat} (h : atT t i j = true) (hn : ∀ k, k < n → atT t i k = false ∨ atT t k j = false) : covB n t i j = true := by
  unfold covB
  rw [h, List.any_eq_false.2 fun k hk => by rcases hn k (List.mem_range.1 hk) with e | e <;> rw [e] <;> simp]; rfl
end Go.AM

/- Laws of orders. -/
namespace Go.AM
/-- The closure of the covers is the order. -/
theorem cov_warsh {n : Nat} {t : List (List Bool)} (hs : Sq n t) (hp : IsPo n t) : ∀ (m i j : Nat), i < n → j < n → atT t i j = true → ((List.range n).filter fun k => atT t i k && atT t k j).length ≤ m → atT (warsh n (covT n t)) i j = true := by
  intro m
  induction m with
  | zero =>
    intro i j hi hj ha hl
    refine warsh_sub hs.cov hi hj ?_
    rw [atT_cov hs hp hi hj]
    refine covB_yes ha fun k hk => ?_
    have h0 := List.eq_nil_of_length_eq_zero (Nat.le_zero.1 hl)
    have := List.filter_eq_nil_iff.1 h0 k (List.mem_range.2 hk)
    cases e1 : atT t i k
    · exact .inl rfl
    · cases e2 : atT t k j
      · exact .inr rfl
      · rw [e1, e2] at this; exact absurd rfl this
  | succ m ih =>
    intro i j hi hj ha hl
    cases hc : covB n t i j
    · have hex : ∃ k, k < n ∧ atT t i k = true ∧ atT t k j = true := by
        apply Classical.byContradiction
        intro hno
        have := covB_yes (n := n) ha fun k hk => by
          cases e1 : atT t i k
          · exact .inl rfl
          · cases e2 : atT t k j
            · exact .inr rfl
            · exact absurd ⟨k, hk, e1, e2⟩ hno
        rw [this] at hc; cases hc
      obtain ⟨k, hk, h1, h2⟩ := hex
      have hki := hp.irr k hk
      have l1 : ((List.range n).filter fun q => atT t i q && atT t q k).length < ((List.range n).filter fun q => atT t i q && atT t q j).length :=
        filter_lt (fun q hq h => by
          rw [Bool.and_eq_true] at h ⊢
          exact ⟨h.1, hp.trans q k j (List.mem_range.1 hq) hk hj h.2 h2⟩) ⟨k, List.mem_range.2 hk, by rw [h1, h2]; rfl, by rw [hki]; simp⟩
      have l2 : ((List.range n).filter fun q => atT t k q && atT t q j).length < ((List.range n).filter fun q => atT t i q && atT t q j).length :=
        filter_lt (fun q hq h => by
          rw [Bool.and_eq_true] at h ⊢
          exact ⟨hp.trans i k q hi hk (List.mem_range.1 hq) h1 h.1, h.2⟩) ⟨k, List.mem_range.2 hk, by rw [h1, h2]; rfl, by rw [hki]; rfl⟩
      exact warsh_trans hs.cov hi hk hj (ih i k hi hk h1 (by omega)) (ih k j hk hj h2 (by omega))
    · exact warsh_sub hs.cov hi hj (by rw [atT_cov hs hp hi hj]; exact hc)
theorem cov_back {n : Nat} {t : List (List Bool)} (hs : Sq n t) (hp : IsPo n t) : warsh n (covT n t) = t :=
  tab_ext hs.cov.warsh hs fun i j hi hj => bool_ext ⟨fun h => warsh_least hs.cov (S := fun a b => atT t a b = true) (fun a b ha hb h => by
      rw [atT_cov hs hp ha hb] at h
      unfold covB at h
      rw [Bool.and_eq_true] at h
      exact h.1) (fun a c b ha hc hb h1 h2 => hp.trans a c b ha hc hb h1 h2) hi hj h, fun h => cov_warsh hs hp _ i j hi hj h (Nat.le_refl _)⟩
/-! ### Levels. -/
/-! ### Closed sets. -/
end Go.AM

/- The closure is the least transitive relation; the reduction loses it with any pair. -/
namespace Go.AM
/-- Do the pairs of one table belong to the other one? -/
def insT (n : Nat) (a b : List (List Bool)) : Bool := (List.range n).all fun i => subB (rowT a i) (rowT b i)
theorem insT_iff {n : Nat} {a b : List (List Bool)} (ha : Sq n a) : insT n a b = true ↔ ∀ i j, i < n → j < n → atT a i j = true → atT b i j = true := by
  unfold insT
  rw [List.all_eq_true]
  constructor
  · intro h i j hi hj h1
    exact subB_iff.1 (h i (List.mem_range.2 hi)) j (by rw [ha.rowLen hi]; exact hj) h1
  · intro h i hi
    have hi := List.mem_range.1 hi
    refine subB_iff.2 fun j hj h1 => h i j hi (by rw [ha.rowLen hi] at hj; exact hj) h1
theorem ins_trans {n : Nat} {a b c : List (List Bool)} (ha : Sq n a) (hb : Sq n b) (h1 : insT n a b = true) (h2 : insT n b c = true) : insT n a c = true :=
  (insT_iff ha).2 fun i j hi hj h => (insT_iff hb).1 h2 i j hi hj ((insT_iff ha).1 h1 i j hi hj h)
theorem ins_anti {n : Nat} {a b : List (List Bool)} (ha : Sq n a) (hb : Sq n b) (h1 : insT n a b = true) (h2 : insT n b a = true) : a = b :=
  tab_ext ha hb fun i j hi hj => by
    rw [Bool.eq_iff_iff]
    exact ⟨(insT_iff ha).1 h1 i j hi hj, (insT_iff hb).1 h2 i j hi hj⟩
theorem ins_warsh {n : Nat} {t : List (List Bool)} (hs : Sq n t) : insT n t (warsh n t) = true :=
  (insT_iff hs).2 fun _ _ hi hj h => warsh_sub hs hi hj h
theorem ins_comp {n : Nat} {t : List (List Bool)} (hs : Sq n t) : insT n (compT n (warsh n t) (warsh n t)) (warsh n t) = true :=
  (insT_iff (Sq.comp hs.warsh)).2 fun i j hi hj h => by
    obtain ⟨k, hk, h1, h2⟩ := (atT_comp hs.warsh hi hj).1 h
    exact warsh_trans hs hi hk hj h1 h2
theorem ins_least {n : Nat} {t u : List (List Bool)} (hs : Sq n t) (hu : Sq n u) (h1 : insT n t u = true) (h2 : insT n (compT n u u) u = true) : insT n (warsh n t) u = true :=
  (insT_iff hs.warsh).2 fun i j hi hj h => warsh_least hs (S := fun i j => atT u i j = true) (fun i j hi hj h => (insT_iff hs).1 h1 i j hi hj h)
    (fun i k j hi hk hj a b => (insT_iff (Sq.comp hu)).1 h2 i j hi hj ((atT_comp hu hi hj).2 ⟨k, hk, a, b⟩)) hi hj h
theorem ins_mono {n : Nat} {a b : List (List Bool)} (ha : Sq n a) (hb : Sq n b) (h : insT n a b = true) : insT n (warsh n a) (warsh n b) = true :=
  ins_least ha hb.warsh (ins_trans ha hb h (ins_warsh hb)) (ins_comp hb)
theorem warsh_idem {n : Nat} {t : List (List Bool)} (hs : Sq n t) : warsh n (warsh n t) = warsh n t :=
  ins_anti hs.warsh.warsh hs.warsh (ins_least hs.warsh hs.warsh (by
    refine (insT_iff hs.warsh).2 fun _ _ _ _ h => h) (ins_comp hs)) (ins_warsh hs.warsh)
/-- The reduction. -/
def rdT (n : Nat) (t : List (List Bool)) : List (List Bool) := redT n t (compT n t (warsh n t))
theorem rd_sq {n : Nat} {t : List (List Bool)} (hs : Sq n t) : Sq n (rdT n t) := Sq.red hs (Sq.comp hs.warsh)
theorem rd_iff {n : Nat} {t : List (List Bool)} (hs : Sq n t) {i j : Nat} (hi : i < n) (hj : j < n) : atT (rdT n t) i j = true ↔ atT t i j = true ∧ ∀ k, k < n → atT t i k = true → atT (warsh n t) k j = false := by
  unfold rdT
  rw [atT_red hs (Sq.comp hs.warsh) hi hj, Bool.and_eq_true, Bool.not_eq_true']
  refine and_congr_right fun _ => ?_
  rw [← Bool.not_eq_true, atT_comp hs.warsh hi hj]
  constructor
  · intro h k hk h1
    cases e : atT (warsh n t) k j
    · rfl
    · exact absurd ⟨k, hk, h1, e⟩ h
  · rintro h ⟨k, hk, h1, h2⟩
    rw [h k hk h1] at h2; cases h2
theorem rd_ins {n : Nat} {t : List (List Bool)} (hs : Sq n t) : insT n (rdT n t) t = true :=
  (insT_iff (rd_sq hs)).2 fun i j hi hj h => ((rd_iff hs hi hj).1 h).1
theorem rd_warsh {n : Nat} {t : List (List Bool)} (hs : Sq n t) (ha : acyc n t = true) : warsh n (rdT n t) = warsh n t := by
  have hpo := warsh_po hs ha
  have hback := cov_back hs.warsh hpo
  refine ins_anti (rd_sq hs).warsh hs.warsh (ins_mono (rd_sq hs) hs (rd_ins hs)) ?_
  have : insT n (covT n (warsh n t)) (rdT n t) = true := (insT_iff hs.warsh.cov).2 fun i j hi hj h => by
    rw [atT_cov hs.warsh hpo hi hj] at h
    unfold covB at h
    rw [Bool.and_eq_true, Bool.not_eq_true', List.any_eq_false] at h
    have hno : ∀ k, k < n → atT (warsh n t) i k = true → atT (warsh n t) k j = false := fun k hk h1 => by
      have := h.2 k (List.mem_range.2 hk)
      rw [h1, Bool.true_and] at this
      simpa using this
    rw [rd_iff hs hi hj]
    refine ⟨?_, fun k hk h1 => hno k hk (warsh_sub hs hi hk h1)⟩
    rcases warsh_first hs hi hj h.1 with h1 | ⟨m, hm, h1, h2⟩
    · exact h1
    · rw [hno m hm (warsh_sub hs hi hm h1)] at h2; cases h2
  have h2 := ins_mono hs.warsh.cov (rd_sq hs) this
  rw [hback] at h2
  exact h2
theorem nodup_flatMap {α β : Type} {f : α → List β} : ∀ {l : List α}, l.Nodup → (∀ a ∈ l, (f a).Nodup) → (∀ a ∈ l, ∀ b ∈ l, ∀ x, x ∈ f a → x ∈ f b → a = b) → (l.flatMap f).Nodup
  | [], _, _, _ => List.nodup_nil
  | x :: l, h, h1, h2 => by
    obtain ⟨ha, hb⟩ := List.nodup_cons.1 h
    rw [List.flatMap_cons]
    refine List.nodup_append.2 ⟨h1 x (by simp), nodup_flatMap hb (fun a ha => h1 a (by simp [ha])) fun a ha b hb => h2 a (by simp [ha]) b (by simp [hb]), fun y hy z hz e => ?_⟩
    subst e
    obtain ⟨a, ha', hz⟩ := List.mem_flatMap.1 hz
    have := h2 x (by simp) a (by simp [ha']) y hy hz
    exact ha (by rw [this]; exact ha')
theorem nodup_map {α β : Type} {f : α → β} : ∀ {l : List α}, l.Nodup → (∀ a ∈ l, ∀ b ∈ l, f a = f b → a = b) → (l.map f).Nodup
  | [], _, _ => List.nodup_nil
  | x :: l, h, hf => by
    obtain ⟨h1, h2⟩ := List.nodup_cons.1 h
    rw [List.map_cons]
    refine List.nodup_cons.2 ⟨fun hm => ?_, nodup_map h2 fun a ha b hb => hf a (by simp [ha]) b (by simp [hb])⟩
    obtain ⟨a, ha, e⟩ := List.mem_map.1 hm
    have := hf a (by simp [ha]) x (by simp) e
    subst this
    exact h1 ha
theorem rowPairs_mem {t : List (List Bool)} {i m : Nat} {p : Int × Int} (h : p ∈ rowPairs t i m) : p.1 = i := by
  unfold rowPairs at h
  obtain ⟨j, _, rfl⟩ := List.mem_map.1 h
  rfl
theorem pairsT_nodup (t : List (List Bool)) (n : Nat) : (pairsT t n).Nodup := by
  unfold pairsT pairsAt
  refine nodup_flatMap List.nodup_range (fun i _ => ?_) fun a _ b _ p h1 h2 => ?_
  · unfold rowPairs
    refine nodup_map (List.nodup_range.sublist List.filter_sublist) fun a _ b _ e => ?_
    have := (Prod.mk.inj e).2
    omega
  · have e1 := rowPairs_mem h1
    have e2 := rowPairs_mem h2
    omega
/-- Without one pair. -/
def lessT (n : Nat) (d : List (List Bool)) (k : Nat) : List (List Bool) := putL (zeroT n) ((pairsT d n).eraseIdx k)
theorem less_in {n : Nat} {d : List (List Bool)} {k : Nat} : ∀ p ∈ (pairsT d n).eraseIdx k, inP n p := fun p hp => pairsT_in p (List.mem_of_mem_eraseIdx hp)
theorem less_sq {n : Nat} {d : List (List Bool)} {k : Nat} : Sq n (lessT n d k) := Sq.putL _ (Sq.rep n) less_in
theorem zero_at {n i j : Nat} : atT (zeroT n) i j = false := by
  unfold atT rowT zeroT
  simp only [List.getD_eq_getElem?_getD, List.getElem?_replicate]
  split
  · simp only [Option.getD_some, List.getElem?_replicate]
    split <;> rfl
  · simp
theorem less_lost {n : Nat} {t : List (List Bool)} (hs : Sq n t) {k : Nat} (hk : k < (pairsT (rdT n t) n).length) : warsh n (lessT n (rdT n t) k) ≠ warsh n t := by
  intro e
  obtain ⟨i, j, hij, hi, hj, hd⟩ := pairsT_mem.1 (List.getElem_mem hk)
  have hd2 := (rd_iff hs hi hj).1 hd
  have hat : ∀ a b, atT (lessT n (rdT n t) k) a b = decide (((a : Int), (b : Int)) ∈ (pairsT (rdT n t) n).eraseIdx k) := fun a b => by
    unfold lessT
    refine (atT_putL a b _ (Sq.rep n) less_in).trans ?_
    rw [show atT (List.replicate n (List.replicate n false)) a b = false from zero_at, Bool.false_or]
  have hno : atT (lessT n (rdT n t) k) i j = false := by
    rw [hat, decide_eq_false_iff_not, ← hij]
    intro hm
    obtain ⟨q, hq1, hq2⟩ := List.mem_eraseIdx_iff_getElem.1 hm
    have hnd := pairsT_nodup (rdT n t) n
    rcases Nat.lt_trichotomy q k with h | h | h
    · exact (List.pairwise_iff_getElem.1 hnd q k hq1 hk h) hq2.2
    · exact hq2.1 h
    · exact (List.pairwise_iff_getElem.1 hnd k q hk hq1 h) hq2.2.symm
  have hsub : ∀ a b, a < n → b < n → atT (lessT n (rdT n t) k) a b = true → atT t a b = true := fun a b ha hb h => by
    rw [hat, decide_eq_true_eq] at h
    obtain ⟨a', b', e1, _, _, h3⟩ := pairsT_mem.1 (List.mem_of_mem_eraseIdx h)
    obtain ⟨e2, e3⟩ := Prod.mk.inj e1
    have : a' = a := by omega
    subst this
    have : b' = b := by omega
    subst this
    exact ((rd_iff hs ha hb).1 h3).1
  have hw : atT (warsh n (lessT n (rdT n t) k)) i j = true := by rw [e]; exact warsh_sub hs hi hj hd2.1
  rcases warsh_first less_sq hi hj hw with h | ⟨m, hm, h1, h2⟩
  · rw [hno] at h; cases h
  · rw [e] at h2
    rw [hd2.2 m hm (hsub i m hi hm h1)] at h2; cases h2
end Go.AM

namespace Go.Proofs.R
open Go.AM Go
set_option maxRecDepth 100000
set_option maxHeartbeats 2000000
theorem lrep_getD (n i : Nat) : (List.replicate n false).getD i false = false := by
  simp only [List.getD_eq_getElem?_getD, List.getElem?_replicate]; split <;> rfl
theorem lrow_ext {n : Nat} {a b : List Bool} (ha : a.length = n) (hb : b.length = n) (h : ∀ i, i < n → a.getD i false = b.getD i false) : a = b := by
  refine List.ext_getElem (by omega) fun i h1 h2 => ?_
  have := h i (by omega)
  simpa [List.getD_eq_getElem?_getD, h1, h2] using this
def wP (A B : List Int) (k : Nat) : Bool := (List.range k).all fun q => decide (bAndNot .u64 (A.getD q 0) (B.getD q 0) = 0)
theorem wP_succ (A B : List Int) (k : Nat) : wP A B (k + 1) = (wP A B k && decide (bAndNot .u64 (A.getD k 0) (B.getD k 0) = 0)) := by
  unfold wP; rw [List.range_succ, List.all_append]; simp
theorem wP_sub {b c : List Bool} (hl : c.length = b.length) : wP (setW b b.length) (setW c c.length) (setW b b.length).length = subB b c := by
  have hz := zipW_setW bitOp_andNot (a := b) (b := c) hl.symm
  have hAl := setW_len' b
  have hBl : (setW c c.length).length = (wordsN (b.length : Int)).toNat := by rw [setW_len', hl]
  have hZl : (List.zipWith (fun x y => x && !y) b c).length = b.length := by simp [hl]
  have hZg : ∀ i, i < b.length → (List.zipWith (fun x y => x && !y) b c).getD i false = (b.getD i false && !c.getD i false) := fun i hi => by
    simp [List.getD_eq_getElem?_getD, List.getElem?_zipWith, hi, show i < c.length by omega]
  rw [Bool.eq_iff_iff, subB_iff]
  unfold wP
  rw [List.all_eq_true]
  constructor
  · intro h i hi h1
    have e : setW (List.zipWith (fun x y => x && !y) b c) b.length = setW (List.replicate b.length false) b.length := by
      rw [← hz, setW_zero]
      refine List.ext_getElem (by rw [List.length_zipWith, hAl, hBl]; simp) fun q h1 h2 => ?_
      rw [List.getElem_zipWith, List.getElem_replicate]
      rw [List.length_zipWith] at h1
      have := of_decide_eq_true (h q (List.mem_range.2 (by omega)))
      simpa [List.getD_eq_getElem?_getD, show q < (setW b b.length).length by omega, show q < (setW c c.length).length by omega] using this
    have hZ : List.replicate b.length false = List.zipWith (fun x y => x && !y) b c := by
      refine setW_inj (a := List.replicate b.length false) (b := List.zipWith (fun x y => x && !y) b c) (by simp [hl]) ?_
      rw [hZl, List.length_replicate]; exact e.symm
    have := hZg i hi
    rw [← hZ, lrep_getD, h1] at this
    simpa using this
  · intro h q hq
    have hZ : List.zipWith (fun x y => x && !y) b c = List.replicate b.length false := by
      refine lrow_ext (n := b.length) hZl (by simp) fun i hi => ?_
      rw [hZg i hi, lrep_getD]
      cases e : b.getD i false
      · rfl
      · rw [h i hi e]; rfl
    rw [hZ, setW_zero] at hz
    have hq2 := List.mem_range.1 hq
    have h1 : (List.zipWith (bAndNot .u64) (setW b b.length) (setW c c.length)).getD q 0 = 0 := by
      rw [hz]; simp only [List.getD_eq_getElem?_getD, List.getElem?_replicate]; split <;> rfl
    have h2 : (List.zipWith (bAndNot .u64) (setW b b.length) (setW c c.length)).getD q 0 = bAndNot .u64 ((setW b b.length).getD q 0) ((setW c c.length).getD q 0) := by
      simp [List.getD_eq_getElem?_getD, List.getElem?_zipWith, hq2, show q < (setW c c.length).length by omega]
    rw [← h2, h1]; simp
theorem rrvalid_g (n : Nat) (t : List (List Bool)) (hs : Sq n t) (hn : n ≤ 512) : Reads Try.prog 15 false [relB t] (.bool true) := by
  have h := rrvalid_r (t.map SB) (by simp [hs.len]; omega) (fun x hx => by
    obtain ⟨b, hb, rfl⟩ := List.mem_map.1 hx
    have := hs.row b hb
    have hwn := wordsN_rng (n := (b.length : Int)) (by omega)
    show (setW b b.length).length ≤ _
    rw [setW_len']; omega)
  rw [valid_tab hs hn, ← relB_SB] at h
  exact h
def insI (a b : List (List Bool)) (i : Nat) : Bool := (List.range i).all fun i => subB (rowT a i) (rowT b i)
theorem insI_succ (a b : List (List Bool)) (i : Nat) : insI a b (i + 1) = (insI a b i && subB (rowT a i) (rowT b i)) := by unfold insI; rw [List.range_succ, List.all_append]; simp
theorem inside_r (n : Nat) (a b : List (List Bool)) (ha : Sq n a) (hb0 : Sq n b) (hn : n ≤ 512) : Reads Try.prog 36 false [relB a, relB b] (.bool (insT n a b)) := by
  have hla : (tabR a).length = n := by rw [tabR_len, ha.len]
  have hlb : (tabR b).length = n := by rw [tabR_len, hb0.len]
  have hal := ha.len
  have hbl := hb0.len
  have hwn := wordsN_rng (n := (n : Int)) (by omega)
  have hva := rrvalid_g n a ha hn
  have hvb := rrvalid_g n b hb0 hn
  unfold relB at *
  refine Reads.body (rs := [.tmp 4]) Try.func36 rfl Try.ntmps36 rfl (by simp) ?_
  generalize hQr : retQ _ _ _ = Qr
  -- block 1
  -- region 0
  refine AW.sg [2,3] [2,3] (e2 @hla @hlb) ?_
  refine AW.seq fun K1 hK1 => ?_
  -- region 1
  refine AW.so 0 (fun ii => if ii = 1 then some (.reads false (.bool true)) else if ii = 5 then some (.reads false (.bool true)) else none) [2,3,25] [2,3] (e2 @hla @hlb) ?_
  repeat with_reducible refine cj ?_ ?_
  all_goals try first | (first | exact hva | (intro hh; exact ⟨hh, hvb⟩)) | (intros; (repeat' apply And.intro) <;> first | assumption | (first | exact hva | (intro hh; exact ⟨hh, hvb⟩))) | omega | exact ent (by kernel_rfl) | (intro hgd; exact absurd hgd (by decide)) | rfl | (simp only [go_sem, reduceIte, reduceCtorEq, Nat.reduceAdd, Nat.reduceMul, Nat.reduceEqDiff, Nat.reduceLT, Nat.reduceLeDiff, Nat.reduceSub, Nat.reducePow, Nat.reduceBEq, Int.reduceToNat, List.reduceReplicate, hla, hlb]; done) | (intro _hgd; simp_all [go_sem]; done)
  -- cond 1
  refine AW.cn ?_ ?_
  · intro hb
    exfalso; simp at hb
  · intro hb
    refine AW.skip ?_
    refine hK1 _ _ _ ?_; clear hK1
    refine AW.seq fun K2 hK2 => ?_
    -- region 3
    refine AW.sg [3,27,28,29] [3] (e2 @hla @hlb) ?_
    refine AW.block ?_
    -- loop 1
    refine AW.loopE (fun mm ee ss kk => ∃ (i g3 v3 : Nat), n - i = mm ∧ ee = [(3, .ptr ⟨3, g3, none⟩ 0 0), (27, .rsl 2 (tabR a)), (28, .int .i64 n), (29, .int .i64 (i : Nat))] ∧ ss = [(3, some ⟨g3, v3, 1, [[.rsl 2 (tabR b)]]⟩)] ∧ (i ≤ n ∧ insI a b i = true)) ?_ ?_
    -- init 1
    · exact ⟨_, 0, _, _, rfl, eD, eD, (⟨Nat.zero_le _, rfl⟩)⟩
    rintro mm ee ss kk ⟨i, g3, v3, rfl, rfl, rfl, hI⟩
    generalize hQl1 : thenQ _ _ = Ql1
    obtain ⟨hi, hall⟩ := hI
    -- region 4
    refine AW.sg [3,27,28,29,30] [3] (e2 @hla @hlb) ?_
    refine AW.seq fun K3 hK3 => ?_
    -- cond 2
    refine AW.cn ?_ ?_
    · intro hb
      have hga := tabR_get (t := a) (i := i) (by omega)
      have hgb := tabR_get (t := b) (i := i) (by omega)
      have hra := ha.rowLen (i := i) (by omega)
      have hrb := hb0.rowLen (i := i) (by omega)
      have his := insI_succ a b i
      have hin : i < n := by omega
      generalize hx : rowT a i = x at *
      generalize hy : rowT b i = y at *
      have hws := wP_sub (b := x) (c := y) (by omega)
      have hwx := setW_len' x
      have hwy := setW_len' y
      rw [hra] at hwx
      rw [hrb] at hwy
      rw [hra, hrb] at hws
      generalize hX : setW x n = X at *
      generalize hY : setW y n = Y at *
      refine AW.skip ?_
      refine hK3 _ _ _ ?_; clear hK3
      refine AW.seq fun K4 hK4 => ?_
      refine AW.block ?_
      -- region 5
      refine AW.sg [3,5,6,27,28,29] [3,6] (e2 @hla (e5 @hlb @hga @rowB.eq_1 @hra @hX)) ?_
      -- region 6
      refine AW.sg [3,5,27,28,29,35,36,37] [3] (e3 @hla @hlb @words_len) ?_
      refine AW.block ?_
      -- loop 2
      refine AW.loopE (fun mm ee ss kk => ∃ (k g3 v3 : Nat), X.length - k = mm ∧ ee = [(3, .ptr ⟨3, g3, none⟩ 0 0), (5, .int .i64 (i : Nat)), (27, .rsl 2 (tabR a)), (28, .int .i64 n), (29, .int .i64 (i : Nat)), (35, .rsl 1 (words X)), (36, .int .i64 X.length), (37, .int .i64 (k : Nat))] ∧ ss = [(3, some ⟨g3, v3, 1, [[.rsl 2 (tabR b)]]⟩)] ∧ (k ≤ X.length ∧ wP X Y k = true)) ?_ ?_
      -- init 2
      · exact ⟨_, 0, _, _, rfl, eD, eD, (⟨Nat.zero_le _, rfl⟩)⟩
      rintro mm ee ss kk ⟨k, g3, v3, rfl, rfl, rfl, hI⟩
      generalize hQl2 : thenQ _ _ = Ql2
      obtain ⟨hk, hall2⟩ := hI
      -- region 7
      refine AW.sg [3,5,27,28,29,35,36,37,38] [3] (e2 @hla @hlb) ?_
      refine AW.seq fun K5 hK5 => ?_
      -- cond 3
      refine AW.cn ?_ ?_
      · intro hb
        have hgu := words_getD (l := X) (i := k) (by omega)
        have hgw := words_getD (l := Y) (i := k) (by omega)
        have hps := wP_succ X Y k
        rw [hall2, Bool.true_and] at hps
        refine AW.skip ?_
        refine hK5 _ _ _ ?_; clear hK5
        refine AW.seq fun K6 hK6 => ?_
        refine AW.block ?_
        -- region 8
        refine AW.sg [3,5,7,8,27,28,29,35,36,37] [3] (e4 @hla @hlb @hgu @words_len) ?_
        -- region 9
        refine AW.sg [3,5,27,28,29,35,36,37,53] [3] (e4 @hla @hlb @hgb (e5 @rowB.eq_1 @hrb @hY @hgw @words_len)) ?_
        -- cond 4
        refine AW.cn ?_ ?_
        · intro hb
          rw [decide_eq_false hb] at hps
          -- region 10
          refine AW.sg [4] [] (e2 @hla @hlb) ?_
          -- ret 2
          rw [← hQl2, ← hQl1, ← hQr]
          refine AW.rt (e2 @hla @hlb) ?_
          have h1 : wP X Y X.length = false := range_all_false (j := k) (by omega) (decide_eq_false hb)
          have h2 : insT n a b = false := range_all_false (j := i) hin (by rw [hx, hy, ← hws, h1])
          exact Wk.of_eq (by rw [h2])
        · intro hb
          rw [decide_eq_true hb] at hps
          refine AW.skip ?_
          refine hK6 _ _ _ ?_; clear hK6
          -- region 11
          refine AW.rg [3,5,27,28,29,35,36,37] [3] (e2 @hla @hlb) ?_
          -- again 2
          rw [← hQl2]; change Exists _
          exact ⟨_, eO, k + 1, _, _, rfl, eD, eD, (⟨by omega, hps⟩)⟩
      · intro hb
        have hk2 : k = X.length := by omega
        subst hk2
        rw [hall2] at hws
        rw [hall, ← hws] at his
        -- exit 2
        refine AW.kx [3,27,28,29] [3] ?_
        rw [← hQl2]
        refine hK4 _ _ _ ?_; clear hK4
        -- region 12
        refine AW.rg [3,27,28,29] [3] (e2 @hla @hlb) ?_
        -- again 1
        rw [← hQl1]; change Exists _
        exact ⟨_, eO, i + 1, _, _, rfl, eD, eD, (⟨by omega, his⟩)⟩
    · intro hb
      have hi2 : i = n := by omega
      subst hi2
      -- exit 0
      refine AW.kx [] [] ?_
      rw [← hQl1]
      refine hK2 _ _ _ ?_; clear hK2
      -- region 13
      refine AW.sg [4] [] (e2 @hla @hlb) ?_
      -- ret 3
      rw [← hQr]
      refine AW.rt (e2 @hla @hlb) ?_
      exact Wk.of_eq (by rw [show insT i a b = true from hall])
end Go.Proofs.R

/- slices.Delete of one element, at pairs of ints (after the kit's walk of Delete at one-cell elements). -/
namespace Go.Proofs
open Go.RowKit Go.AM
set_option maxRecDepth 1000000
set_option maxHeartbeats 4000000
/-- A builtin append, by its run, as one step of a region that draws. -/
theorem Bk.step_append {P : Program} {ops : Array Oper} {o : Oper} {a : Act} {w : World} {K : Act → World → Prop} {Q : Exit → Act → World → Prop} {E : Prop}
    (hg : o.guard = none) (s x : Operand) (t : TypeId) (hop : o.op = Op.call { callee := Callee.builtin Builtin.append, args := #[s, x], argTypes := #[t, t] })
    (v1 v2 r : Value) (hs : a.eval s = v1) (hx : a.eval x = v2) (w1 : World) (hrun : (Builtin.append_ #[t, t] o.type #[v1, v2]).run P w = .ok r w1)
    (hK : K (a.put o.dst r) w1) : if Region.wanted o (yielded ops a.tmps) = true then Oper.wp P o a w K Q else E := by
  have hw : Region.wanted o (yielded ops a.tmps) = true := by simp [Region.wanted, hg]
  rw [if_pos hw]
  unfold Oper.wp
  simp [execOp, hop, resolve, invoke, builtin, hs, hx, hrun, Result.andThen]
  exact hK
theorem Bk.run_clear2 {P : Program} (w : World) (t e ty : TypeId) (z : Value) (ht : P.underlying t = some (.slice e)) (hv : ∀ w, (zeroValue e).run P w = .ok z w) (b o c : Nat) (cs : Array Value) (T : TypeId)
    (h : w.heap[b]? = some (.cells cs T (0, 0))) (hl : o + z.cells.size ≤ cs.size) (h1 : ∀ v ∈ z.cells.toList, v.oneCell' = true) :
    (Builtin.clear_ #[t] ty #[.slice (some ⟨b, o, none⟩) 1 c]).run P w = .ok (.tuple #[]) (Go.AM.setRow w b ((z.cells.toList.zipIdx 0).foldl (fun (cs : Array Value) (p : Value × Nat) => cs.setIfInBounds (o + p.2) p.1) cs) T) := by
  have hzc : (Builtin.zeroCells z.cells 1).toList = z.cells.toList := by
    unfold Builtin.zeroCells
    apply List.ext_getElem
    · simp
    · intro i h1 h2
      have : i < z.cells.size := by simpa using h2
      simp [Nat.mod_eq_of_lt this, this]
  have hst := run_storeCells (P := P) (b := b) (off := o) (T := T) z.cells.toList 0 w cs h (by simpa using hl) h1
  simp [Builtin.clear_, run_underlying ht, hv, hzc, hst]
theorem Bk.del_calls (b base cap N i j : Nat) (cs : Array Value) (T : TypeId) (w : World) (h : w.heap[b]? = some (.cells cs T (0, 0))) (hsz : base + N * 2 ≤ cs.size)
    (hone : ∀ t, t < N * 2 → ∃ v, cs[base + t]? = some v ∧ v.oneCell' = true) (hcap : N ≤ cap) (hm : N ≤ 1000000) (hi : i < N) (hj : j = i + 1) :
    Calls Try.prog 37 #[.slice (some ⟨b, base, none⟩) N cap, .int .i64 i, .int .i64 (j : Nat)] w fun e w' => e = .returned (.slice (some ⟨b, base, none⟩) (N - 1) cap) ∧
      ∃ cs', w' = Go.AM.setRow w.drew b cs' T ∧ cs'.size = cs.size ∧ ∀ t, t < (N - 1) * 2 → cs'[base + t]? = if t < i * 2 then cs[base + t]? else cs[base + t + 2]? := by
  have mixed := R.mixed
  have t25 : Try.prog.underlying 25 = some (.slice 38) := by kernel_rfl
  have hsl : slD Try.prog 25 = some (38, 2) := by kernel_rfl
  have hzv : ∀ w, (zeroValue 38).run Try.prog w = .ok (.agg #[.int .i64 0, .int .i64 0]) w := fun w => run_zeroValue (i := (Try.prog.info? 38).getD default) (by kernel_rfl) (by kernel_rfl)
  -- the cells that are moved to the left
  obtain ⟨nc, hnc⟩ : ∃ nc : Array Value, nc = ((List.range ((N - j) * 2)).map fun t => (cs[base + j * 2 + t]?).getD undef).toArray := ⟨_, rfl⟩
  have hncs : nc.size = (N - j) * 2 := by rw [hnc]; simp
  have hncg : ∀ t, t < (N - j) * 2 → nc[t]? = cs[base + j * 2 + t]? := fun t ht => by
    obtain ⟨v, hv, _⟩ := hone (j * 2 + t) (by omega)
    rw [← Nat.add_assoc] at hv
    rw [hnc, hv]
    simp [ht, hv]
  have hnco : ∀ v ∈ nc.toList, v.oneCell' = true := fun v hv => by
    obtain ⟨t, ht, e⟩ := List.getElem_of_mem hv
    have ht' : t < (N - j) * 2 := by simpa [hncs] using ht
    obtain ⟨u, hu, ho⟩ := hone (j * 2 + t) (by omega)
    have h1 := hncg t ht'
    rw [← Nat.add_assoc] at hu
    rw [hu] at h1
    have h2 : nc[t]? = some v := by rw [← e]; simp [show t < nc.size by simpa using ht]
    rw [h1] at h2
    obtain rfl := Option.some.inj h2
    exact ho
  obtain ⟨A, hA⟩ : ∃ A : Option Addr, A = (if cap = j then some (⟨b, base, none⟩ : Addr) else some ⟨b, base + j * 2, none⟩) := ⟨_, rfl⟩
  have hfirst : ∀ w' : World, w'.heap = w.heap → (Builtin.firstCells 2 (N - j) (.slice A (N - j) (cap - j))).run Try.prog w' = .ok nc w' := fun w' hw => by
    by_cases hc : cap = j
    · have h0 : N - j = 0 := by omega
      have hn0 : nc = #[] := by
        apply Array.eq_empty_of_size_eq_zero; rw [hncs, h0]
      rw [hA, if_pos hc, h0, hn0]
      simp [Builtin.firstCells, loadCells, loadCellsFrom]
    · rw [hA, if_neg hc]
      have hld := Go.AM.run_loadCells (P := Try.prog) (w := w') b (base + j * 2) ((N - j) * 2) (fun t => (cs[base + j * 2 + t]?).getD undef) (fun q hq => by
        obtain ⟨v, hv, _⟩ := hone (j * 2 + q) (by omega)
        rw [← Nat.add_assoc] at hv
        rw [Go.AM.cell?_of_heap (w := w) (by rw [hw]), hv]
        simp [World.cell?, h, hv])
      rw [← hnc] at hld
      simp only [Builtin.firstCells]
      exact hld
  obtain ⟨cs1, hcs1⟩ : ∃ cs1 : Array Value, cs1 = (nc.toList.zipIdx 0).foldl (fun (cs : Array Value) (p : Value × Nat) => cs.setIfInBounds (base + i * 2 + p.2) p.1) cs := ⟨_, rfl⟩
  have hs1 : cs1.size = cs.size := by rw [hcs1]; exact fillOne_size ..
  obtain ⟨cs2, hcs2⟩ : ∃ cs2 : Array Value, cs2 = ([Value.int .i64 0, Value.int .i64 0].zipIdx 0).foldl (fun (cs : Array Value) (p : Value × Nat) => cs.setIfInBounds (base + (N - 1) * 2 + p.2) p.1) cs1 := ⟨_, rfl⟩
  have hs2 : cs2.size = cs.size := by rw [hcs2, ← hs1]; exact fillOne_size ..
  have hblt := heap_lt h
  have happ : (Builtin.append_ #[25, 25] 25 #[.slice (some ⟨b, base, none⟩) i cap, .slice A (N - j) (cap - j)]).run Try.prog w.drew = .ok (.slice (some ⟨b, base, none⟩) (i + (N - j)) cap) (Go.AM.setRow w.drew b cs1 T) := by
    rw [run_append_in hsl hsl (hfirst w.drew rfl) (by omega)]
    simp only [Go.AM.add_none]
    rw [run_storeCells (P := Try.prog) (b := b) (off := base + i * 2) (T := T) nc.toList 0 w.drew cs h (by simp only [Array.length_toList, hncs]; omega) hnco]
    rw [← hcs1]
    rfl
  have hclr : ∀ ty, (Builtin.clear_ #[25] ty #[.slice (some ⟨b, base + (N - 1) * 2, none⟩) 1 (cap - (N - 1))]).run Try.prog (Go.AM.setRow w.drew b cs1 T) = .ok (.tuple #[]) (Go.AM.setRow w.drew b cs2 T) := fun ty => by
    rw [Bk.run_clear2 (Go.AM.setRow w.drew b cs1 T) 25 38 ty _ t25 hzv b (base + (N - 1) * 2) _ cs1 T (Go.AM.setRow_self hblt _ _) (by rw [hs1]; simp [Value.cells]; omega) (by simp [Value.cells, Value.oneCell'])]
    rw [Go.AM.setRow_setRow, hcs2]
    rfl
  have hget : ∀ t, t < (N - 1) * 2 → cs2[base + t]? = if t < i * 2 then cs[base + t]? else cs[base + t + 2]? := fun t ht => by
    rw [hcs2, fillOne_get, if_neg (by omega), hcs1, fillOne_get]
    simp only [Array.length_toList, hncs]
    split
    · rename_i hc
      rw [if_neg (by omega)]
      have := hncg (t - i * 2) (by omega)
      rw [show base + t - (base + i * 2 + 0) = t - i * 2 by omega]
      rw [show base + j * 2 + (t - i * 2) = base + t + 2 by omega] at this
      rw [← this]; simp
    · rename_i hc
      rw [if_pos (by omega)]
  rw [show N - 1 = i + (N - j) by omega] at hclr
  have hclr : ∀ ty, (Builtin.clear_ #[25] ty #[.slice (some ⟨b, base + (i + (N - j)) * 2, none⟩) (N - (i + (N - j))) (cap - (i + (N - j)))]).run Try.prog (Go.AM.setRow w.drew b cs1 T) = .ok (.tuple #[]) (Go.AM.setRow w.drew b cs2 T) := by
    rw [show N - (i + (N - j)) = 1 by omega]; exact hclr
  have hfin : Go.AM.setRow w.drew b cs2 T = Go.AM.setRow w.drew b cs2 T ∧ cs2.size = cs.size ∧ ∀ t, t < (N - 1) * 2 → cs2[base + t]? = if t < i * 2 then cs[base + t]? else cs[base + t + 2]? := ⟨rfl, hs2, hget⟩
  obtain ⟨W1, hW1⟩ : ∃ W1, W1 = Go.AM.setRow w.drew b cs1 T := ⟨_, rfl⟩
  obtain ⟨W2, hW2⟩ : ∃ W2, W2 = Go.AM.setRow w.drew b cs2 T := ⟨_, rfl⟩
  rw [← hW1] at happ hclr
  rw [← hW2] at hclr
  have hH : Hid (W2 = Go.AM.setRow w.drew b cs2 T) := hW2
  have hF : Aside (Go.AM.setRow w.drew b cs2 T = Go.AM.setRow w.drew b cs2 T ∧ cs2.size = cs.size ∧ ∀ t, t < (N - 1) * 2 → cs2[base + t]? = if t < i * 2 then cs[base + t]? else cs[base + t + 2]?) := hfin
  have hAp : Hid (_ = _) := happ
  clear hW1 hW2 hfin hget hcs1 hcs2 hs1 hs2 hncg hnco hfirst hnc hncs hone h hblt happ
  have hic : i ≤ cap := by omega
  have hjc : j ≤ cap := by omega
  have hjN : j ≤ N := by omega
  have hij : i ≤ j := by omega
  have hne : i < j := by omega
  have hJ : Aside (j = i + 1) := hj
  clear hj
  go_enter Try.func37, Try.ntmps37
  go_wp2_with fail
  go_region_law_o (refine Bk.step_append rfl (.tmp 22) (.tmp 25) 25 rfl (.slice (some ⟨b, base, none⟩) i cap) (.slice A (N - j) (cap - j)) _ (by simp [Act.eval, Act.put]) (by simp [Act.eval, Act.put, hA]) _ hAp.out ?_)
  go_wp2
  all_goals (go_ret; refine ⟨by rw [show N - 1 = i + (N - j) by have := hJ.out; omega]; rfl, cs2, hH.out, ?_⟩; exact hF.out.2)
end Go.Proofs

/- slices.Delete of one element: the root loses the row. -/
namespace Go.Proofs.R
open Go Go.AM
set_option maxRecDepth 100000
set_option maxHeartbeats 2000000
theorem pairs_get {ps : List (Int × Int)} {i : Nat} (hi : i < ps.length) : (ps.map pairV).getD i [] = [.int .i64 (ps[i]).1, .int .i64 (ps[i]).2] := by
  simp [List.getD_eq_getElem?_getD, hi, pairV]
theorem pairs_int {ps : List (Int × Int)} {i j : Nat} (hi : i < ps.length) (hj : j < 2) : ∃ z, ((ps.map pairV).getD i []).getD j .any = .int .i64 z := by
  rw [pairs_get hi]
  match j, hj with
  | 0, _ => exact ⟨_, rfl⟩
  | 1, _ => exact ⟨_, rfl⟩
theorem del_u (ps : List (Int × Int)) (hl : ps.length ≤ 1000000) (i : Nat) (hi : i < ps.length) (g v : Nat) :
    Upd Try.prog 37 [(0, some ⟨g, v, 2, ps.map pairV⟩)] [.sl ⟨0, g, none⟩ 0 ps.length none, .int .i64 i, .int .i64 ((i + 1 : Nat) : Int)] (fun k => .sl ⟨0, k, none⟩ 0 (ps.length - 1) none) (fun k => [(0, some ⟨k, k, 2, (ps.eraseIdx i).map pairV⟩)]) := by
  intro c B k ρ w F us hB hk hk1 hst hul hrel
  match us, hul with
  | [u0, u1, u2], _ =>
  have h0 : Rel ⟨ρ, [(0, some ⟨g, v, 2, ps.map pairV⟩)], c, w, F⟩ (.sl ⟨0, g, none⟩ 0 ps.length none) u0 := hrel 0 (by simp)
  have h1 : Rel ⟨ρ, [(0, some ⟨g, v, 2, ps.map pairV⟩)], c, w, F⟩ (.int .i64 i) u1 := hrel 1 (by simp)
  have h2 : Rel ⟨ρ, [(0, some ⟨g, v, 2, ps.map pairV⟩)], c, w, F⟩ (.int .i64 ((i + 1 : Nat) : Int)) u2 := hrel 2 (by simp)
  obtain rfl := h1.int_inv
  obtain rfl := h2.int_inv
  obtain ⟨a, cap, rfl, _, hok, hh⟩ := h0.sl_inv
  have hc : content [(0, some ⟨g, v, 2, ps.map pairV⟩)] ⟨0, g, none⟩ = some (2, ps.map pairV) := by simp [content, rcontent, noMap, sget, mapSz]
  have hp : pcontent [(0, some ⟨g, v, 2, ps.map pairV⟩)] (0, none) = some (2, ps.map pairV) := by simp [pcontent, sget]
  obtain ⟨hle, hd⟩ := hh _ _ hc
  have hln : (ps.map pairV).length = ps.length := by simp
  cases hρ : ρ (0, none) with
  | none =>
    have := hst.nils (0, none) _ _ hp hρ
    rw [this] at hln
    simp at hln; omega
  | some bb =>
  obtain ⟨b, base⟩ := bb
  have hd : Hdr w (ρ (0, none)) 2 0 ps.length (.slice a ps.length cap) := hd
  rw [hρ] at hd
  obtain ⟨a', cap', e1, hcap, hor⟩ := hd
  obtain ⟨rfl, _, rfl⟩ := Value.slice.inj e1
  obtain ⟨rfl, hbs⟩ : a = some ⟨b, base, none⟩ ∧ base + cap * 2 ≤ blockSize w b := by
    rcases hor with h | ⟨h, h'⟩
    · omega
    · exact ⟨by simpa using h, by simpa using h'⟩
  obtain ⟨cs, T, g1, g2, g3⟩ := (hst.rows _ _ _ _ _ hp hρ).cells (by decide)
  rw [hln] at g2 g3
  have hcell : ∀ q j, q < ps.length → j < 2 → ∃ z, ((ps.map pairV).getD q []).getD j .any = .int .i64 z ∧ cs[base + q * 2 + j]? = some (.int .i64 z) := fun q j hq hj => by
    obtain ⟨u, f1, f2⟩ := g3 q j hq hj
    obtain ⟨z, hz⟩ := pairs_int hq hj
    rw [hz] at f2
    have := (f2.rel (fun _ _ e => by cases e)).int_inv
    subst this
    exact ⟨z, hz, f1⟩
  have hbz : blockSize w b = cs.size := by simp [blockSize, g1]
  have hcalls := Bk.del_calls b base cap ps.length i (i + 1) cs T w g1 (by omega) (fun t ht => by
    obtain ⟨z, _, h⟩ := hcell (t / 2) (t % 2) (by omega) (by omega)
    exact ⟨_, by rw [show base + t = base + t / 2 * 2 + t % 2 by omega]; exact h, rfl⟩) hcap hl hi rfl
  refine hcalls.mono fun e w' ⟨he, cs', hw', hs', hg'⟩ => ?_
  have hel : (ps.eraseIdx i).length = ps.length - 1 := List.length_eraseIdx_of_lt hi
  have hell : ((ps.eraseIdx i).map pairV).length = ps.length - 1 := by rw [List.length_map, hel]
  have hblt := heap_lt g1
  have hwb : w'.heap[b]? = some (.cells cs' T (0, 0)) := by rw [hw']; exact Go.AM.setRow_self hblt _ _
  have hwo : ∀ q, q ≠ b → w'.heap[q]? = w.heap[q]? := fun q hq => by rw [hw']; exact Go.AM.setRow_ne hq _ _
  have hws : w'.heap.size = w.heap.size := by rw [hw']; exact Go.AM.setRow_size w.drew b _ _
  have hget : ∀ q j, q < ps.length - 1 → j < 2 → ∃ z, (((ps.eraseIdx i).map pairV).getD q []).getD j .any = .int .i64 z ∧ cs'[base + q * 2 + j]? = some (.int .i64 z) := fun q j hq hj => by
    have h1 := hg' (q * 2 + j) (by omega)
    rw [← Nat.add_assoc] at h1
    by_cases hqi : q < i
    · rw [if_pos (by omega)] at h1
      obtain ⟨z, f1, f2⟩ := hcell q j (by omega) hj
      refine ⟨z, ?_, by rw [h1, f2]⟩
      rw [← f1]
      congr 1
      simp only [List.getD_eq_getElem?_getD, List.getElem?_map, List.getElem?_eraseIdx, if_pos hqi]
    · rw [if_neg (by omega)] at h1
      obtain ⟨z, f1, f2⟩ := hcell (q + 1) j (by omega) hj
      refine ⟨z, ?_, by rw [h1, ← f2]; congr 1; omega⟩
      rw [← f1]
      congr 1
      simp only [List.getD_eq_getElem?_getD, List.getElem?_map, List.getElem?_eraseIdx, if_neg hqi]
  have hgo := hst.reroot k hk 0 2 (by decide) ((ps.eraseIdx i).map pairV) (some (b, base)) w' (fun q o sz' l e => by
      exfalso
      have hin := osl_in e
      rw [hell] at hin
      have hlen : o < 2 := by
        have h2 := hin.2
        rw [pairs_get (by omega)] at h2
        simpa using h2
      obtain ⟨z, hz, _⟩ := hget q o hin.1 hlen
      rw [hz] at e; cases e)
    (fun e he => by obtain ⟨p, _, rfl⟩ := List.mem_map.1 he; rfl) (by rw [hws]; exact Nat.le_refl _)
    (fun q _ hno => hwo q fun e => hno ⟨_, base, hp, by rw [e]; exact hρ⟩)
    (fun q _ => by
      by_cases hq : q = b
      · subst hq; simp only [blockSize, hwb, g1, hs']
      · exact blockSize_of_heap (hwo q hq))
    ⟨.inr ⟨_, base, hp, hρ⟩, cs', T, hwb, by rw [hell, hs']; omega, fun q j hq hj => by
      rw [hell] at hq
      obtain ⟨z, f1, f2⟩ := hget q j hq hj
      exact ⟨_, f2, by rw [f1]; exact CellOk.of_rel (fun _ _ e => by cases e) (.int _ _)⟩⟩
    (by rw [hw']; rfl) (by rw [hw']; rfl) (by rw [hw']; rfl) (by rw [hw']; exact Nat.le_succ _)
  have hfin := hgo.ok.goes_grow (s' := [(0, some ⟨k, k, 2, (ps.eraseIdx i).map pairV⟩)]) (c' := fun q => c q ∨ q = k ∨ q = k + 1) (w' := w') (fun id R e => by
      simp only [sget_cons, sget] at e ⊢
      split at e
      · rename_i h; rw [if_pos h]; exact e
      · cases e) (fun q hq => by rcases hq with h | h; exact .inl h; exact .inr (.inl h)) (.refl _ _)
  have hrl := root_hdr (v := .slice (some ⟨b, base, none⟩) ((ps.eraseIdx i).map pairV).length cap) rfl (x := ⟨upd ρ (0, none) (some (b, base)), (0, some ⟨k, k, 2, (ps.eraseIdx i).map pairV⟩) :: [(0, some ⟨g, v, 2, ps.map pairV⟩)], (fun q => c q ∨ q = k), w', F⟩) (by
    unfold Hdr
    refine ⟨_, cap, rfl, by rw [hell]; omega, .inr ⟨by simp, ?_⟩⟩
    simp only [blockSize, hwb, hs']
    omega)
  rw [hell] at hrl
  exact ⟨_, _, he, hgo.trans hfin, hrl.mono hfin.le⟩
end Go.Proofs.R

namespace Go.Proofs.R
open Go.AM Go
set_option maxRecDepth 100000
set_option maxHeartbeats 2000000
end Go.Proofs.R

namespace Go.Proofs.R
open Go.AM Go
set_option maxRecDepth 100000
set_option maxHeartbeats 2000000
end Go.Proofs.R

namespace Go.Proofs.R
open Go.AM Go
set_option maxRecDepth 100000
set_option maxHeartbeats 2000000
end Go.Proofs.R

/- A contract that makes memory answers as one that reads. -/
namespace Go.AM
theorem Upd.reads {P : Program} {f : FuncId} {args : List AV} {res : Nat → AV} {s1 : Nat → Store} {r : AV} (h : Upd P f [] args res s1) (hr : Wk (vwF (s1 0) 5 (res 0)) r) : Reads P f true args r := by
  intro w F us hF hgl hl hrel
  have hr' : ∀ i, i < args.length → Rel ⟨fun _ => none, [], clk 0, w, fun _ => False⟩ (args.getD i .any) (us.getD i undef) := fun i hi => .pure _ _ ((hrel i hi).mono fun b hb => ⟨⟨hb.1, fun ⟨π, y, base, h1, _⟩ => by simp [pcontent, sget] at h1, fun h => h⟩, rfl⟩)
  have hst : StOk ⟨fun _ => none, [], clk 0, w, fun _ => False⟩ := start_ok (fun _ h => h.elim) (hgl.mono fun b hb => ⟨⟨hb.1, fun h => h⟩, rfl⟩)
  refine (h (clk 0) 0 0 (fun _ => none) w (fun _ => False) us (fun g hg => hg) (fun hg => Nat.lt_irrefl _ hg) (fun hg => absurd hg (Nat.not_lt_zero _)) hst hl hr').mono fun e w' ⟨u, ρ', h1, h2, h3⟩ => ⟨u, h1, ?_, ?_⟩
  · exact ⟨h2.ext.os, h2.ext.tape, h2.ext.output, h2.ext.size, fun b hb _ => h2.ext.block b hb fun ⟨π, y, base, e1, _⟩ => by simp [pcontent, sget] at e1, h2.ext.drawn⟩
  · refine hr _ _ _ (vwF_sound h2.ok (fun b hb => ⟨?_, fun hlt => ?_⟩) 5 (res 0) u h3)
    · obtain ⟨π, y, base, k1, k2⟩ := hb
      exact h2.ok.live_lt k1 k2
    · simp only [if_true] at hlt
      exact (h2.le.imm b ⟨hlt, fun ⟨π, y, base, e1, _⟩ => by simp [pcontent, sget] at e1, fun h => h⟩).1.2.1 hb
/-- A contract that reads, at roots that are given away. -/
theorem Reads.upd {P : Program} {f : FuncId} {s0 : Store} {args args' : List AV} {r : AV} (h : Reads P f true args' r) (ha : args.map (vw s0 5) = args') : Upd P f s0 args (fun _ => r) (fun _ => []) := by
  subst ha
  intro c B k ρ w F us _ _ _ hst hl hrel
  have hargs : ∀ i, i < (args.map (vw s0 5)).length → RelP (immF w fun _ => False) w ((args.map (vw s0 5)).getD i .any) (us.getD i undef) := fun i hi => by
    rw [List.length_map] at hi
    rw [getD_map_vw (vw s0 5) _ _ .any _ hi]
    exact vw_sound hst (fun b hb _ => ⟨hb, fun e => e⟩) 5 _ _ (hrel i hi)
  refine (h w (fun _ => False) us (fun _ h => h.elim) (hst.gl.mono fun b hb => ⟨⟨hb.1, fun e => e⟩, rfl⟩) (by simpa using hl) hargs).mono fun e w' ⟨u, h1, h2, h3⟩ => ⟨u, ρ, h1, ?_, ?_⟩
  · exact hst.goes_grow (s' := []) (fun id R e => by simp [sget] at e) (fun g hg => .inl hg) h2
  · refine .pure _ _ (h3.mono fun b hb => ⟨⟨hb.1, fun ⟨π, y, base, e1, _⟩ => by simp [pcontent, sget] at e1, fun hf => ?_⟩, rfl⟩)
    simp only [if_true] at hb
    exact hb.2 (hst.apart b hf).1
end Go.AM

/- A reader's contract, for a root that is given away with the call. -/
namespace Go.AM
theorem Reads.updF {P : Program} {f : FuncId} {s0 : Store} {args args' : List AV} {r : AV} (h : Reads P f false args' r) (ha : args.map (vw s0 5) = args') : Upd P f s0 args (fun _ => r) (fun _ => []) := by
  subst ha
  intro c B k ρ w F us _ _ _ hst hl hrel
  have hargs : ∀ i, i < (args.map (vw s0 5)).length → RelP (immF w F) w ((args.map (vw s0 5)).getD i .any) (us.getD i undef) := fun i hi => by
    rw [List.length_map] at hi
    rw [getD_map_vw (vw s0 5) _ _ .any _ hi]
    exact vw_sound hst (fun b hb hf => ⟨hb, hf⟩) 5 _ _ (hrel i hi)
  refine (h w F us (fun b hb => (hst.apart b hb).1) (hst.gl.mono fun b hb => ⟨⟨hb.1, hb.2.2⟩, rfl⟩) (by simpa using hl) hargs).mono fun e w' ⟨u, h1, h2, h3⟩ => ⟨u, ρ, h1, ?_, ?_⟩
  · exact hst.goes_grow (s' := []) (fun id R e => by simp [sget] at e) (fun g hg => .inl hg) h2
  · refine .pure _ _ (h3.mono fun b hb => ⟨⟨hb.1, fun ⟨π, y, base, e1, _⟩ => by simp [pcontent, sget] at e1, fun hf => ?_⟩, rfl⟩)
    simp only [Bool.false_eq_true, if_false] at hb
    exact hb.2 hf
end Go.AM

namespace Go.Proofs.R
open Go.AM Go
set_option maxRecDepth 100000
set_option maxHeartbeats 4000000
theorem clone_p (ps : List (Int × Int)) (hl : ps.length ≤ 1000000) (hne : ps ≠ []) :
    Upd Try.prog 38 [] [.rsl 2 (ps.map pairV)] (fun k => .sl ⟨0, k, none⟩ 0 ps.length none) (fun k => [(0, some ⟨k, k, 2, ps.map pairV⟩)]) := by
  have hine : ps.map pairV ≠ [] := by cases ps with | nil => exact absurd rfl hne | cons a l => simp
  have hll : (ps.map pairV).length = ps.length := by simp
  have hsc : scP (ps.map pairV) := fun cs h a ha => by
    obtain ⟨p, _, rfl⟩ := List.mem_map.1 h
    simp only [pairV, List.mem_cons, List.not_mem_nil, or_false] at ha
    rcases ha with rfl | rfl <;> rfl
  refine Upd.of_body (rs := [.tmp 2]) Try.func38 rfl Try.ntmps38 rfl (by simp) ?_
  intro k0 k hk0 hk1
  generalize hQr : retQ _ _ _ = Qr
  -- block 1
  -- region 0
  refine AW.so 100 (fun _ => none) [0] [] (@hll) ?_
  refine AW.seq fun K1 hK1 => ?_
  -- region 1
  refine AW.so 100 (fun _ => none) [0,4] [] (@hll) ?_
  repeat with_reducible refine cj ?_ ?_
  all_goals try first | (exact hine) | omega
  -- cond 1
  refine AW.cn ?_ ?_
  · intro hb
    exfalso; simp at hb
  · intro hb
    refine AW.skip ?_
    refine hK1 _ _ _ ?_; clear hK1
    -- region 3
    refine AW.so 100 (fun _ => none) [2] [107] (@hll) ?_
    repeat with_reducible refine cj ?_ ?_
    all_goals try first | (exact hsc) | omega | (simp [scP, scalar]; done) | exact scP_words _ | exact scP_ints _ | exact scP_bools _
    -- ret 2
    rw [← hQr]
    refine AW.rt (@hll) ?_
    refine ⟨[(107, 0, true)], ?_⟩
    simp only [go_sem, reduceIte, Nat.reduceEqDiff, renC_pairs]
theorem make_up (n : Nat) (ns : List (Int × Int)) (hl2 : ns.length ≤ 1000000) (hn : n ≤ 512) (hin : ∀ p ∈ ns, inP n p) (g v : Nat) {N : Nat} (hN : N = ns.length) :
    Upd Try.prog 11 [(0, some ⟨g, v, 2, ns.map pairV⟩)] [.int .i64 n, .sl ⟨0, g, none⟩ 0 N none] (fun _ => .tup [relB (putL (zeroT n) ns), .int .i64 ((0 : Nat) : Int)]) (fun _ => []) := by
  subst hN
  have h := make_g n ns (by omega) hn hin
  refine h.updF ?_
  have hc : content [(0, some ⟨g, v, 2, ns.map pairV⟩)] ⟨0, g, none⟩ = some (2, ns.map pairV) := by simp [content, rcontent, noMap, sget, mapSz]
  rw [List.map_cons, List.map_cons, List.map_nil, vw_int, vw_sl, hc]
  simp only [List.drop_zero]
  rw [List.take_of_length_le (by simp), vwc_pairs]
end Go.Proofs.R

namespace Go.Proofs.R
open Go.AM Go
set_option maxRecDepth 100000
set_option maxHeartbeats 8000000
theorem least_0 (rs us : List USet) (hl : longR rs) (hl2 : longR us) (h : [rs, us].any greatB = true ∨ 24 < rs.length ∨ validR rs = false) : Reads Try.prog 7 false [relV rs, relV us] (.bool true) := by
  have haw := awake_r
  have hgr : Reads Try.prog 10 true [.rsl 1 [[.rsl 2 (rs.map rowV)], [.rsl 2 (us.map rowV)]]] (.bool ([rs, us].any greatB)) := Reads.flat (great_r [rs, us] (by simp) (by simpa using ⟨hl, hl2⟩)) rfl
  have hv1 := rrvalid_r rs hl.1 hl.2
  have hln : (rs.map rowV).length = rs.length := by simp
  have hll := hl.1
  generalize [rs, us].any greatB = gb at *
  generalize validR rs = vb at *
  unfold relV at *
  refine Reads.body (rs := [.tmp 4]) Try.func7 rfl Try.ntmps7 rfl (by simp) ?_
  generalize hQr : retQ _ _ _ = Qr
  -- block 1
  -- region 0
  refine AW.sg [2,3] [2,3] trivial ?_
  refine AW.seq fun K1 hK1 => ?_
  -- region 1
  refine AW.so 0 (fun ii => if ii = 0 then some (.reads false (.bool true)) else none) [2,3,25] [2,3] trivial ?_
  repeat with_reducible refine cj ?_ ?_
  all_goals try first | (exact haw) | omega | exact ent (by kernel_rfl)
  -- cond 1
  refine AW.cn ?_ ?_
  · intro hb
    simp at hb
  · intro hb
    refine AW.skip ?_
    refine hK1 _ _ _ ?_; clear hK1
    refine AW.seq fun K2 hK2 => ?_
    -- region 3
    refine AW.so 0 (fun ii => if ii = 3 then some (.reads true (.bool gb)) else if ii = 12 then some (.reads false (.bool vb)) else none) [2,3,40] [2,3] (@hln) ?_
    repeat with_reducible refine cj ?_ ?_
    all_goals try first | (first | exact hgr | (intro hh; exact ⟨hh, hv1⟩) | exact hv1) | (intros; (repeat' apply And.intro) <;> first | assumption | (first | exact hgr | (intro hh; exact ⟨hh, hv1⟩) | exact hv1)) | omega | exact ent (by kernel_rfl) | (intro hgd; exact absurd hgd (by decide)) | rfl | (simp only [go_sem, reduceIte, reduceCtorEq, Nat.reduceAdd, Nat.reduceMul, Nat.reduceEqDiff, Nat.reduceLT, Nat.reduceLeDiff, Nat.reduceSub, Nat.reducePow, Nat.reduceBEq, Int.reduceToNat, List.reduceReplicate, hln]; done) | (intro _hgd; simp_all [go_sem]; done)
    -- cond 2
    refine AW.cn ?_ ?_
    · intro hb
      -- region 4
      refine AW.sg [4] [] trivial ?_
      -- ret 2
      rw [← hQr]
      refine AW.rt trivial ?_
      exact Wk.refl _
    · intro hb
      exfalso; rcases h with h | h | h; (subst h; simp at hb); omega; (subst h; simp at hb)
theorem least_g (n : Nat) (t : List (List Bool)) (hs : Sq n t) (hn : n ≤ 24) (us : List USet) (hl2 : longR us) (hok2 : ∀ x ∈ us, okW x.W) (hg : [t.map SB, us].any greatB = false) : Reads Try.prog 7 false [relB t, relV us] (.bool true) := by
  have hn5 : n ≤ 512 := by omega
  have haw := awake_r
  have hl1 : longR (t.map SB) := ⟨by simp [hs.len]; omega, fun x hx => by
    obtain ⟨b, hb, rfl⟩ := List.mem_map.1 hx
    have := hs.row b hb
    have hwn := wordsN_rng (n := (b.length : Int)) (by omega)
    show (setW b b.length).length ≤ _
    rw [setW_len']; omega⟩
  have hgr : Reads Try.prog 10 true [.rsl 1 [[.rsl 2 ((t.map SB).map rowV)], [.rsl 2 (us.map rowV)]]] (.bool ([t.map SB, us].any greatB)) := Reads.flat (great_r [t.map SB, us] (by simp) (by simpa using ⟨hl1, hl2⟩)) rfl
  rw [hg, ← tabR_SB] at hgr
  have hv1 := rrvalid_g n t hs hn5
  have hvu := rrvalid_r us hl2.1 hl2.2
  have hlu := hl2.1
  have hln : (us.map rowV).length = us.length := by simp
  have hcs := hs.warsh
  have hclo := closure_g n t hs hn5
  have hcl2 := closure_g n _ hcs hn5
  rw [warsh_idem hs] at hcl2
  have hcmp := compose_g n _ _ hcs hcs hn5
  have hvc := rrvalid_g n _ hcs hn5
  have hsame := same_g n _ hcs hn5
  have hin1 := inside_r n t _ hs hcs hn5
  rw [ins_warsh hs] at hin1
  have hin2 := inside_r n _ _ (Sq.comp (a := warsh n t) hcs) hcs hn5
  rw [ins_comp hs] at hin2
  obtain ⟨b3, hins, hb3⟩ : ∃ b3, (validR us = true → us.length = n → Reads Try.prog 36 false [relB t, relV us] (.bool b3)) ∧ (validR us = true → us.length = n → b3 = true → ∃ u, us.map rowV = tabR u ∧ Sq n u ∧ insT n t u = true) := by
    by_cases h : validR us = true ∧ us.length = n
    · obtain ⟨u, hu, hsu, hnu⟩ := rel_of hok2 h.1
      rw [h.2] at hsu
      have ea : us.map rowV = tabR u := by rw [tabR_SB, ← hu]
      refine ⟨insT n t u, fun _ _ => ?_, fun _ _ h3 => ⟨u, ea, hsu, h3⟩⟩
      unfold relV
      rw [ea]
      exact inside_r n t u hs hsu hn5
    · exact ⟨false, fun h1 h2 => absurd ⟨h1, h2⟩ h, fun h1 h2 => absurd ⟨h1, h2⟩ h⟩
  have hcu := fun u (hsu : Sq n u) => compose_g n u u hsu hsu hn5
  have hi3 := fun u (hsu : Sq n u) => inside_r n _ u (Sq.comp (a := u) hsu) hsu hn5
  have hi4 := fun u (hsu : Sq n u) => inside_r n _ u hcs hsu hn5
  have hle := fun u (hsu : Sq n u) (h1 : insT n t u = true) (h2 : insT n (compT n u u) u = true) => ins_least hs hsu h1 h2
  have hac := acyclic_g n t hs hn5
  obtain ⟨T2, e2, hred, hrA, hrB⟩ : ∃ (T2 : List (List Bool)) (e2 : Nat), Reads Try.prog 22 false [relB t] (.tup [relB T2, .int .i64 e2]) ∧ (acyc n t = true → e2 = 0 ∧ T2 = rdT n t) ∧ (acyc n t = false → e2 = 10) := by
    by_cases ha : acyc n t = true
    · exact ⟨rdT n t, 0, reduction_g n t hs hn5 ha, fun _ => ⟨rfl, rfl⟩, fun h => by rw [ha] at h; cases h⟩
    · have ha' : acyc n t = false := by simpa using ha
      exact ⟨[], 10, reduction_c n t hs hn5 ha', fun h => absurd h ha, fun _ => rfl⟩
  have hrs := rd_sq hs
  have hcd := closure_g n _ hrs hn5
  have hpd := pairs_g n _ hrs hn5
  have hind := inside_r n _ t hrs hs hn5
  rw [rd_ins hs] at hind
  have hrw := rd_warsh hs
  have hlost := fun k hk => less_lost hs (k := k) hk
  have hpl : (pairsT (rdT n t) n).length ≤ 24 * 24 := by
    have h1 := pairsAt_le (rdT n t) n n
    have h2 : n * n ≤ 24 * 24 := Nat.mul_le_mul hn hn
    unfold pairsT; omega
  have hmk := fun k g v (hk : k < (pairsT (rdT n t) n).length) => make_up n ((pairsT (rdT n t) n).eraseIdx k) (by rw [List.length_eraseIdx_of_lt hk]; omega) hn5 less_in g v (N := (pairsT (rdT n t) n).length - 1) (List.length_eraseIdx_of_lt hk).symm
  have hlsq := fun k => less_sq (n := n) (d := rdT n t) (k := k)
  have hcll := fun k => closure_g n (lessT n (rdT n t) k) (hlsq k) hn5
  have hsml := fun k => same_r n n _ _ (hlsq k).warsh hcs hn5 hn5
  have hlt : ∀ k, putL (zeroT n) ((pairsT (rdT n t) n).eraseIdx k) = lessT n (rdT n t) k := fun k => rfl
  generalize hL : lessT n (rdT n t) = L at *
  generalize hP : pairsT (rdT n t) n = P at *
  have hdel := fun k hk g v => del_u P (by omega) k hk g v
  have hcln := fun h => clone_p P (by omega) h
  have hlP : (P.map pairV).length = P.length := by simp
  have hltb : (tabR t).length = n := by rw [tabR_len, hs.len]
  have hltc : (tabR (warsh n t)).length = n := by rw [tabR_len, hcs.len]
  generalize hC : warsh n t = C at *
  generalize hac0 : acyc n t = ac at *
  unfold relB relV at *
  refine Reads.body (rs := [.tmp 4]) Try.func7 rfl Try.ntmps7 rfl (by simp) ?_
  generalize hQr : retQ _ _ _ = Qr
  -- block 2
  -- region 0
  refine AW.sg [2,3] [2,3] trivial ?_
  refine AW.seq fun K1 hK1 => ?_
  -- region 1
  refine AW.so 0 (fun ii => if ii = 0 then some (.reads false (.bool true)) else none) [2,3,25] [2,3] trivial ?_
  repeat with_reducible refine cj ?_ ?_
  all_goals try first | (exact haw) | omega | exact ent (by kernel_rfl)
  -- cond 1
  refine AW.cn ?_ ?_
  · intro hb
    simp at hb
  · intro hb
    refine AW.skip ?_
    refine hK1 _ _ _ ?_; clear hK1
    refine AW.seq fun K2 hK2 => ?_
    -- region 3
    refine AW.so 0 (fun ii => if ii = 3 then some (.reads true (.bool false)) else if ii = 12 then some (.reads false (.bool true)) else none) [2,3,40] [2,3] (@hltb) ?_
    repeat with_reducible refine cj ?_ ?_
    all_goals try first | (first | exact hgr | (intro hh; exact ⟨hh, hv1⟩) | exact hv1) | (intros; (repeat' apply And.intro) <;> first | assumption | (first | exact hgr | (intro hh; exact ⟨hh, hv1⟩) | exact hv1)) | omega | exact ent (by kernel_rfl) | (intro hgd; exact absurd hgd (by decide)) | rfl | (simp only [go_sem, reduceIte, reduceCtorEq, Nat.reduceAdd, Nat.reduceMul, Nat.reduceEqDiff, Nat.reduceLT, Nat.reduceLeDiff, Nat.reduceSub, Nat.reducePow, Nat.reduceBEq, Int.reduceToNat, List.reduceReplicate, hltb]; done) | (intro _hgd; simp_all [go_sem]; done)
    -- cond 2
    refine AW.cn ?_ ?_
    · intro hb
      exfalso; first | omega | (simp at hb; omega)
    · intro hb
      refine AW.skip ?_
      refine hK2 _ _ _ ?_; clear hK2
      -- region 5
      refine AW.so 0 (fun ii => if ii = 1 then some (.reads false (.tup [.agg [.rsl 2 (tabR C)], .int .i64 ((0 : Nat) : Int)])) else none) [2,3,5,6] [2,3,5] trivial ?_
      repeat with_reducible refine cj ?_ ?_
      all_goals try first | (exact hclo) | omega | exact ent (by kernel_rfl)
      -- region 6
      refine AW.so 0 (fun ii => if ii = 1 then some (.reads false (.tup [.agg [.rsl 2 (tabR C)], .int .i64 ((0 : Nat) : Int)])) else none) [2,3,5,6,7,8] [2,3,5,7] trivial ?_
      repeat with_reducible refine cj ?_ ?_
      all_goals try first | (exact hcl2) | omega | exact ent (by kernel_rfl)
      -- region 7
      refine AW.so 0 (fun ii => if ii = 2 then some (.reads false (.tup [.agg [.rsl 2 (tabR (compT n C C))], .int .i64 ((0 : Nat) : Int)])) else none) [2,3,5,6,7,8,9,10] [2,3,5,7,9] trivial ?_
      repeat with_reducible refine cj ?_ ?_
      all_goals try first | (exact hcmp) | omega | exact ent (by kernel_rfl)
      refine AW.seq fun K3 hK3 => ?_
      refine AW.seq fun K4 hK4 => ?_
      -- region 8
      refine AW.regionK 0 (fun ii => if ii = 12 then some (.reads false (.bool true)) else if ii = 27 then some (.reads false (.bool true)) else if ii = 33 then some (.reads false (.bool true)) else if ii = 39 then some (.reads false (.bool true)) else none) [2, 3, 5, 98] [2, 3, 5] ?_
      simp (maxSteps := 2000000) only [go_sem, reduceIte, reduceCtorEq, Nat.reduceAdd, Nat.reduceMul, Nat.reduceEqDiff, Nat.reduceLT, Nat.reduceLeDiff, Nat.reduceSub, Nat.reducePow, Nat.reduceBEq, Int.reduceToNat, List.reduceReplicate, hltb, hltc]
      repeat with_reducible refine cj ?_ ?_
      all_goals try first | (first | (intro hh; exact ⟨hh, hvc⟩) | (intro hh; exact ⟨hh, hsame⟩) | (intro hh; exact ⟨hh, hin1⟩) | (intro hh; exact ⟨hh, hin2⟩)) | (intros; (repeat' apply And.intro) <;> first | assumption | (first | (intro hh; exact ⟨hh, hvc⟩) | (intro hh; exact ⟨hh, hsame⟩) | (intro hh; exact ⟨hh, hin1⟩) | (intro hh; exact ⟨hh, hin2⟩))) | omega | exact ent (by kernel_rfl) | (intro hgd; exact absurd hgd (by decide)) | rfl | (simp only [go_sem, reduceIte, reduceCtorEq, Nat.reduceAdd, Nat.reduceMul, Nat.reduceEqDiff, Nat.reduceLT, Nat.reduceLeDiff, Nat.reduceSub, Nat.reducePow, Nat.reduceBEq, Int.reduceToNat, List.reduceReplicate, hltb, hltc]; done) | (intro _hgd; simp_all [go_sem]; done)
      refine hK4 _ _ _ ?_; clear hK4
      -- cond 3
      refine AW.cn ?_ ?_
      · intro hb
        exfalso; simp at hb
      · intro hb
        refine AW.skip ?_
        refine hK3 _ _ _ ?_; clear hK3
        refine AW.seq fun K5 hK5 => ?_
        refine AW.seq fun K6 hK6 => ?_
        -- region 10
        refine AW.regionK 0 (fun ii => if ii = 1 then some (.reads false (.bool (validR us))) else if ii = 14 then some (.reads false (.bool b3)) else none) [2, 3, 5, 114] [2, 3, 5] ?_
        simp only [go_sem, reduceIte, reduceCtorEq, Nat.reduceAdd, Nat.reduceMul, Nat.reduceEqDiff, Nat.reduceLT, Nat.reduceLeDiff, Nat.reduceSub, Nat.reducePow, Nat.reduceBEq, Int.reduceToNat, List.reduceReplicate, hltb, hln]
        repeat with_reducible refine cj ?_ ?_
        all_goals try first | (first | exact hvu | (intro hh; refine ⟨hh, ?_⟩; rw [Bool.and_eq_true, decide_eq_true_eq] at hh; exact hins hh.1 (by omega))) | (intros; (repeat' apply And.intro) <;> first | assumption | (first | exact hvu | (intro hh; refine ⟨hh, ?_⟩; rw [Bool.and_eq_true, decide_eq_true_eq] at hh; exact hins hh.1 (by omega)))) | omega | exact ent (by kernel_rfl) | (intro hgd; exact absurd hgd (by decide)) | rfl | (simp only [go_sem, reduceIte, reduceCtorEq, Nat.reduceAdd, Nat.reduceMul, Nat.reduceEqDiff, Nat.reduceLT, Nat.reduceLeDiff, Nat.reduceSub, Nat.reducePow, Nat.reduceBEq, Int.reduceToNat, List.reduceReplicate, hltb, hln]; done) | (intro _hgd; simp_all [go_sem]; done)
        refine hK6 _ _ _ ?_; clear hK6
        have hJ4 : ∀ (g2 v2 g5 v5 : Nat) (kk : Nat), K5 [(2, .ptr ⟨2, g2, none⟩ 0 0), (5, .ptr ⟨5, g5, none⟩ 0 0)] [(2, some ⟨g2, v2, 1, [[.rsl 2 (tabR t)]]⟩), (5, some ⟨g5, v5, 1, [[.rsl 2 (tabR C)]]⟩)] kk := by
          intro g2 v2 g5 v5 kk
          refine hK5 _ _ _ ?_; clear hK5
          -- region 14
          refine AW.so 0 (fun ii => if ii = 1 then some (.reads false (.tup [.agg [.rsl 2 (tabR T2)], .int .i64 e2])) else none) [2,5,13,14] [2,5,13] trivial ?_
          repeat with_reducible refine cj ?_ ?_
          all_goals try first | (exact hred) | omega | exact ent (by kernel_rfl)
          refine AW.seq fun K12 hK12 => ?_
          -- region 15
          refine AW.so 0 (fun ii => if ii = 1 then some (.reads false (.bool ac)) else none) [2,5,13,14,141] [2,5,13] trivial ?_
          repeat with_reducible refine cj ?_ ?_
          all_goals try first | (exact hac) | omega | exact ent (by kernel_rfl)
          -- cond 6
          refine AW.cn ?_ ?_
          · intro hb
            -- region 16
            refine AW.sg [4] [] trivial ?_
            -- ret 5
            rw [← hQr]
            refine AW.rt trivial ?_
            exact Wk.of_eq (by rw [hrB hb]; rfl)
          · intro hb
            obtain ⟨rfl, rfl⟩ := hrA hb
            rw [hrw hb] at hcd
            refine AW.skip ?_
            refine hK12 _ _ _ ?_; clear hK12
            -- region 17
            refine AW.so 0 (fun ii => if ii = 1 then some (.reads false (.tup [.agg [.rsl 2 (tabR C)], .int .i64 ((0 : Nat) : Int)])) else none) [2,5,13,14,15,16] [2,5,13,15] trivial ?_
            repeat with_reducible refine cj ?_ ?_
            all_goals try first | (exact hcd) | omega | exact ent (by kernel_rfl)
            -- region 18
            refine AW.so 0 (fun ii => if ii = 1 then some (.reads false (.tup [.rsl 2 (P.map pairV), .int .i64 ((0 : Nat) : Int)])) else none) [2,5,13,14,15,16,17,18] [2,5,13,15] trivial ?_
            repeat with_reducible refine cj ?_ ?_
            all_goals try first | (exact hpd) | omega | exact ent (by kernel_rfl)
            refine AW.seq fun K13 hK13 => ?_
            -- region 19
            refine AW.so 0 (fun ii => if ii = 13 then some (.reads false (.bool true)) else if ii = 19 then some (.reads false (.bool true)) else none) [2,5,17,175] [2,5] trivial ?_
            repeat with_reducible refine cj ?_ ?_
            all_goals try first | (first | (intro hh; exact ⟨hh, hsame⟩) | (intro hh; exact ⟨hh, hind⟩)) | (intros; (repeat' apply And.intro) <;> first | assumption | (first | (intro hh; exact ⟨hh, hsame⟩) | (intro hh; exact ⟨hh, hind⟩))) | omega | exact ent (by kernel_rfl) | (intro hgd; exact absurd hgd (by decide)) | rfl | exact gD | (intro _hgd; simp_all [go_sem]; done)
            -- cond 7
            refine AW.cn ?_ ?_
            · intro hb
              exfalso; simp at hb
            · intro hb
              refine AW.skip ?_
              refine hK13 _ _ _ ?_; clear hK13
              refine AW.seq fun K14 hK14 => ?_
              -- region 21
              refine AW.sg [2,5,17,177,178] [2,5] (@hlP) ?_
              refine AW.block ?_
              -- loop 1
              refine AW.loopE (fun mm ee ss kk => ∃ (k g2 v2 g5 v5 : Nat), P.length - k = mm ∧ ee = [(2, .ptr ⟨2, g2, none⟩ 0 0), (5, .ptr ⟨5, g5, none⟩ 0 0), (17, .rsl 2 (P.map pairV)), (177, .int .i64 P.length), (178, .int .i64 (k : Nat))] ∧ ss = [(2, some ⟨g2, v2, 1, [[.rsl 2 (tabR t)]]⟩), (5, some ⟨g5, v5, 1, [[.rsl 2 (tabR C)]]⟩)] ∧ (k ≤ P.length)) ?_ ?_
              -- init 1
              · exact ⟨_, 0, _, _, _, _, rfl, eD, eD, eT⟩
              rintro mm ee ss kk ⟨k, g2, v2, g5, v5, rfl, rfl, rfl, hI⟩
              generalize hQl1 : thenQ _ _ = Ql1
              -- region 22
              refine AW.sg [2,5,17,177,178,179] [2,5] trivial ?_
              refine AW.seq fun K15 hK15 => ?_
              -- cond 8
              refine AW.cn ?_ ?_
              · intro hb
                have hkP : k < P.length := by omega
                have d1 := hcln (by rintro rfl; simp at hkP)
                have d2 := fun g v => hdel k hkP g v
                have d3 := fun g v => hmk k g v hkP
                have d4 := hcll k
                have d5 := hsml k
                have d6 := hlost k hkP
                rw [decide_eq_false d6] at d5
                rw [hlt k] at d3
                generalize L k = Lk at *
                have hk1 : ((k + 1 : Nat) : Int) = (k : Int) + 1 := by omega
                rw [hk1] at d2
                refine AW.skip ?_
                refine hK15 _ _ _ ?_; clear hK15
                refine AW.seq fun K16 hK16 => ?_
                refine AW.block ?_
                -- region 23
                refine AW.sg [2,5,17,19,177,178] [2,5] trivial ?_
                -- region 24
                refine AW.sd mixed 0 (fun ii => if ii = 4 then some (.upd [] (fun kk => [(0, some ⟨kk, kk, 2, P.map pairV⟩)]) (fun kk => .sl ⟨0, kk, none⟩ 0 P.length none)) else if ii = 8 then some (.upd [186] (fun kk => [(0, some ⟨kk, kk, 2, (P.eraseIdx k).map pairV⟩)]) (fun kk => .sl ⟨0, kk, none⟩ 0 (P.length - 1) none)) else if ii = 9 then some (.upd [186] (fun _ => []) (fun _ => .tup [.agg [.rsl 2 (tabR Lk)], .int .i64 ((0 : Nat) : Int)])) else none) [2,5,17,20,21,177,178] [2,5,20] (@hltb) ?_
                repeat with_reducible refine cj ?_ ?_
                all_goals try first | (first | exact d1 | exact d2 _ _ | exact d3 _ _) | omega | exact chk (by kernel_rfl) | exact ent (by kernel_rfl)
                -- region 25
                refine AW.so 0 (fun ii => if ii = 1 then some (.reads false (.tup [.agg [.rsl 2 (tabR (warsh n Lk))], .int .i64 ((0 : Nat) : Int)])) else none) [2,5,17,21,22,23,177,178] [2,5,22] trivial ?_
                repeat with_reducible refine cj ?_ ?_
                all_goals try first | (exact d4) | omega | exact ent (by kernel_rfl)
                -- region 26
                refine AW.so 0 (fun ii => if ii = 9 then some (.reads false (.bool false)) else none) [2,5,17,177,178,209] [2,5] trivial ?_
                repeat with_reducible refine cj ?_ ?_
                all_goals try first | ((intro hh; exact ⟨hh, d5⟩)) | (intros; (repeat' apply And.intro) <;> first | assumption | ((intro hh; exact ⟨hh, d5⟩))) | omega | exact ent (by kernel_rfl) | (intro hgd; exact absurd hgd (by decide)) | rfl | exact gD | (intro _hgd; simp_all [go_sem]; done)
                -- cond 9
                refine AW.cn ?_ ?_
                · intro hb
                  exfalso; simp at hb
                · intro hb
                  refine AW.skip ?_
                  refine hK16 _ _ _ ?_; clear hK16
                  -- region 28
                  refine AW.rg [2,5,17,177,178] [2,5] trivial ?_
                  -- again 1
                  rw [← hQl1]; change Exists _
                  exact ⟨_, eO, k + 1, _, _, _, _, rfl, eD, eD, eT⟩
              · intro hb
                -- exit 0
                refine AW.kx [] [] ?_
                rw [← hQl1]
                refine hK14 _ _ _ ?_; clear hK14
                -- region 29
                refine AW.sg [4] [] trivial ?_
                -- ret 8
                rw [← hQr]
                refine AW.rt trivial ?_
                exact Wk.refl _
        -- cond 4
        refine AW.cn ?_ ?_
        · intro hb
          obtain ⟨⟨q1, q2⟩, q3⟩ := hb
          obtain ⟨u, ea, hsu, hi5⟩ := hb3 q1 (by omega) q3
          rw [ea]
          have k1 := hcu u hsu
          have k2 := hi3 u hsu
          have k3 := hi4 u hsu
          have k4 := hle u hsu hi5
          -- region 11
          refine AW.so 0 (fun ii => if ii = 2 then some (.reads false (.tup [.agg [.rsl 2 (tabR (compT n u u))], .int .i64 ((0 : Nat) : Int)])) else none) [2,3,5,11,12] [2,3,5,11] trivial ?_
          repeat with_reducible refine cj ?_ ?_
          all_goals try first | (exact k1) | omega | exact ent (by kernel_rfl)
          -- region 12
          refine AW.so 0 (fun ii => if ii = 5 then some (.reads false (.bool (insT n (compT n u u) u))) else if ii = 10 then some (.reads false (.bool (insT n C u))) else none) [2,5,133] [2,5] trivial ?_
          repeat with_reducible refine cj ?_ ?_
          all_goals try first | (first | (intro hh; exact ⟨hh, k2⟩) | (intro hh; exact ⟨hh, k3⟩)) | (intros; (repeat' apply And.intro) <;> first | assumption | (first | (intro hh; exact ⟨hh, k2⟩) | (intro hh; exact ⟨hh, k3⟩))) | omega | exact ent (by kernel_rfl) | (intro hgd; exact absurd hgd (by decide)) | rfl | exact gD | (intro _hgd; simp_all [go_sem]; done)
          -- cond 5
          refine AW.cn ?_ ?_
          · intro hb
            exfalso; rw [k4 (by simp_all)] at hb; simp at hb
          · intro hb
            refine AW.keep [2, 5] [2, 5] ?_
            simp only [go_sem, reduceIte, Nat.reduceEqDiff]
            refine AW.skip ?_
            exact hJ4 _ _ _ _ _
        · intro hb
          refine AW.kp [2,5] [2,5] ?_
          refine AW.skip ?_
          exact hJ4 _ _ _ _ _
theorem law_least (rs us : List USet) (hl : longR rs) (hl2 : longR us) (hok : ∀ x ∈ rs, okW x.W) (hok2 : ∀ x ∈ us, okW x.W) : Reads Try.prog 7 false [relV rs, relV us] (.bool true) := by
  by_cases h : [rs, us].any greatB = true ∨ 24 < rs.length ∨ validR rs = false
  · exact least_0 rs us hl hl2 h
  · have h1 : [rs, us].any greatB = false := by
      cases e : [rs, us].any greatB
      · rfl
      · exact absurd (.inl e) h
    have h3 : validR rs = true := by
      cases e : validR rs
      · exact absurd (.inr (.inr e)) h
      · rfl
    have h2 : rs.length ≤ 24 := Nat.le_of_not_lt fun e => h (.inr (.inl e))
    obtain ⟨t, ht, hs, hn⟩ := rel_of hok h3
    have e : relV rs = relB t := by rw [relB_SB, ← ht]
    rw [e]
    rw [ht] at h1
    exact least_g _ t hs h2 us hl2 hok2 h1
end Go.Proofs.R

/- Arguments that are read as data, as pure trees. -/
namespace Go.AM

inductive F2 {α β : Type} (R : α → β → Prop) : List α → List β → Prop
  | nil : F2 R [] []
  | cons {a b l r} (h : R a b) (t : F2 R l r) : F2 R (a :: l) (b :: r)

/-- The shape of a type's cells. -/
def Fit (P : Program) : Nat → TypeId → List AV → Prop
  | 0, _, _ => False
  | f + 1, t, avs => match P.underlying t with
    | some .bool => ∃ b, avs = [.bool b]
    | some (.int k) => ∃ n, avs = [.int k n] ∧ k.min ≤ n ∧ n ≤ k.max
    | some .string => ∃ s, avs = [.str s]
    | some (.slice e) => P.cellsOf e = 0 ∨ ∃ es, avs = [.rsl (P.cellsOf e) es] ∧ es.length ≤ maxLen ∧ ∀ x ∈ es, x.length = P.cellsOf e ∧ Fit P f e x
    | some (.struct fs) => ∃ parts : List (List AV), avs = parts.flatten ∧ F2 (fun (fl : Field) p => p.length = P.cellsOf fl.type ∧ Fit P f fl.type p) fs.toList parts
    | some (.array n e) => ∃ parts : List (List AV), avs = parts.flatten ∧ parts.length = n ∧ ∀ p ∈ parts, p.length = P.cellsOf e ∧ Fit P f e p
    | _ => True

abbrev immW (w : World) : Nat → Prop := immF w fun _ => False
def Match (w : World) (avs : List AV) (cs : List Value) : Prop := avs.length = cs.length ∧ ∀ i, i < avs.length → RelP (immW w) w (avs.getD i .any) (cs.getD i undef)

theorem Match.append {w : World} {a a' : List AV} {c c' : List Value} (h : Match w a c) (h' : Match w a' c') : Match w (a ++ a') (c ++ c') := by
  obtain ⟨h1, h2⟩ := h
  obtain ⟨k1, k2⟩ := h'
  refine ⟨by simp [h1, k1], fun i hi => ?_⟩
  rw [getD_append, getD_append, ← h1]
  by_cases hlt : i < a.length
  · rw [if_pos hlt, if_pos hlt]; exact h2 i hlt
  · rw [if_neg hlt, if_neg hlt]
    exact k2 _ (by simp at hi; omega)
theorem Match.one {w : World} {a : AV} {u : Value} (h : RelP (immW w) w a u) : Match w [a] [u] := ⟨rfl, fun i hi => by
  match i, hi with
  | 0, _ => exact h⟩

theorem mapM_some {α β : Type} {f : α → Option β} : ∀ {l : List α} {r : List β}, l.mapM f = some r → F2 (fun a b => f a = some b) l r
  | [], r, h => by
    simp only [List.mapM_nil, Option.pure_def, Option.some.injEq] at h
    subst h; exact .nil
  | a :: l, r, h => by
    rw [List.mapM_cons] at h
    cases ha : f a with
    | none => simp [ha] at h
    | some b =>
      cases hl : l.mapM f with
      | none => simp [ha, hl] at h
      | some r' =>
        simp [ha, hl] at h
        subst h
        exact .cons ha (mapM_some hl)

theorem range_mapM {β : Type} {f : Nat → Option β} {n : Nat} {r : List β} (h : (List.range n).mapM f = some r) : r.length = n ∧ ∀ i, i < n → ∃ b, r[i]? = some b ∧ f i = some b := by
  have h2 := mapM_some h
  have key : ∀ {l : List Nat} {r : List β}, F2 (fun a b => f a = some b) l r → r.length = l.length ∧ ∀ (i a : Nat), l[i]? = some a → ∃ b, r[i]? = some b ∧ f a = some b := by
    intro l r h
    induction h with
    | nil => exact ⟨rfl, by simp⟩
    | cons h t ih =>
      refine ⟨by simp [ih.1], fun i a ha => ?_⟩
      cases i with
      | zero => simp only [List.getElem?_cons_zero, Option.some.injEq] at ha; subst ha; exact ⟨_, rfl, h⟩
      | succ i => simpa using ih.2 i a (by simpa using ha)
  obtain ⟨k1, k2⟩ := key h2
  refine ⟨by simpa using k1, fun i hi => k2 i i (by simp [hi])⟩

theorem cells?_spec {w : World} {a : Addr} {n : Nat} {cs : List Value} (h : w.cells? 0 a n = some cs) : cs.length = n ∧ ∀ j, j < n → w.cell? (a.add j) = some (cs.getD j undef) := by
  simp only [World.cells?, Nat.zero_le, if_true] at h
  obtain ⟨h1, h2⟩ := range_mapM h
  refine ⟨h1, fun j hj => ?_⟩
  obtain ⟨b, e1, e2⟩ := h2 j hj
  rw [e2, List.getD_eq_getElem?_getD, e1]; rfl

theorem cell?_spot {w : World} {a : Addr} {v : Value} (h : w.cell? a = some v) : a.spot = none ∧ a.block < w.heap.size := by
  unfold World.cell? at h
  split at h
  · rename_i c _ _ hh
    split at h
    · cases h
    · rename_i hs
      exact ⟨by simpa using hs, heap_lt hh⟩
  · cases h

theorem chunks_struct {P : Program} (cs : List Value) : ∀ (fs : List Field) (o : Nat), (∀ (j : Nat) f, fs[j]? = some f → f.offset = o + ((fs.take j).map fun f => P.cellsOf f.type).sum) →
    (fs.map fun f => (cs.drop f.offset).take (P.cellsOf f.type)).flatten = (cs.drop o).take ((fs.map fun f => P.cellsOf f.type).sum)
  | [], o, _ => by simp
  | f :: fs, o, h => by
    have h0 := h 0 f rfl
    simp at h0
    have ih := chunks_struct (P := P) cs fs (o + P.cellsOf f.type) fun j g hj => by
      have := h (j + 1) g (by simpa using hj)
      rw [this]
      simp [Nat.add_assoc]
    simp only [List.map_cons, List.flatten_cons, List.sum_cons, ih, h0]
    rw [List.take_add, List.drop_drop]

theorem chunks_array (cs : List Value) (m : Nat) : ∀ n, ((List.range n).map fun i => (cs.drop (i * m)).take m).flatten = cs.take (n * m)
  | 0 => by simp
  | n + 1 => by
    rw [List.range_succ, List.map_append, List.flatten_append, chunks_array cs m n, Nat.succ_mul, List.take_add]
    simp

theorem match_flatten {α : Type} {w : World} {g : α → List Value} {p : α → List AV → Prop} : ∀ {l : List α} {parts : List (List AV)}, F2 (fun a x => p a x ∧ Match w x (g a)) l parts → Match w parts.flatten (l.map g).flatten
  | _, _, .nil => ⟨rfl, by simp⟩
  | _, _, .cons h t => by
    simp only [List.flatten_cons, List.map_cons]
    exact h.2.append (match_flatten t)

theorem forall2_imp {α β : Type} {R S : α → β → Prop} (h : ∀ a b, R a b → S a b) : ∀ {l : List α} {r : List β}, F2 R l r → F2 S l r
  | _, _, .nil => .nil
  | _, _, .cons h1 t => .cons (h _ _ h1) (forall2_imp h t)
theorem forall2_len {α β : Type} {R : α → β → Prop} : ∀ {l : List α} {r : List β}, F2 R l r → l.length = r.length
  | _, _, .nil => rfl
  | _, _, .cons _ t => by simp [forall2_len t]
theorem forall2_right {α β : Type} {R : α → β → Prop} {Q : β → Prop} (h : ∀ a b, R a b → Q b) : ∀ {l : List α} {r : List β}, F2 R l r → ∀ b ∈ r, Q b
  | _, _, .nil, b, hb => by cases hb
  | _, _, .cons h1 t, b, hb => by
    rcases List.mem_cons.1 hb with rfl | hb
    · exact h _ _ h1
    · exact forall2_right h t b hb

theorem fit_of_trod {H : Type} {enc : TypeId × Value → H} {P : Program} {w : World} (hl : laidOutB P = true) : ∀ (n : Nat) (t : TypeId) (cs : List Value) (x : DataW H × List MemPlace), t < P.types.size →
    DataW.trod enc P w 0 (fun _ => true) true n t cs = some x → ∃ avs, Fit P n t avs ∧ Match w avs cs := by
  intro n
  induction n with
  | zero => intro t cs x _ h; simp [DataW.trod] at h
  | succ n ih =>
    intro t cs x ht h
    have hany : (match P.underlying t with | some .bool | some (.int _) | some .string | some (.slice _) | some (.struct _) | some (.array _ _) => False | _ => True) → ∃ avs, Fit P (n + 1) t avs ∧ Match w avs cs := fun hh => by
      refine ⟨List.replicate cs.length .any, ?_, by simp, fun i hi => ?_⟩
      · unfold Fit
        split <;> simp_all
      · have : (List.replicate cs.length AV.any).getD i .any = .any := by
          simp only [List.getD_eq_getElem?_getD]
          cases h : (List.replicate cs.length AV.any)[i]? with
          | none => rfl
          | some y => simp [List.getElem?_replicate] at h; simp [h.2]
        rw [this]; exact .any _
    by_cases hh : (match P.underlying t with | some .bool | some (.int _) | some .string | some (.slice _) | some (.struct _) | some (.array _ _) => False | _ => True)
    · exact hany hh
    cases hu : P.underlying t with
    | none => exact absurd (by rw [hu]; trivial) hh
    | some d =>
      rw [hu] at hh
      cases d <;> first | exact absurd trivial hh | skip
      case bool =>
        unfold DataW.trod at h
        rw [hu] at h
        rcases cs with _ | ⟨c, _ | ⟨c2, rest⟩⟩ <;> (try cases c) <;> simp at h
        exact ⟨[.bool _], by unfold Fit; rw [hu]; exact ⟨_, rfl⟩, .one (.bool _)⟩
      case int k =>
        unfold DataW.trod at h
        rw [hu] at h
        rcases cs with _ | ⟨c, _ | ⟨c2, rest⟩⟩ <;> (try cases c) <;> simp at h
        rename_i k' m
        obtain ⟨⟨rfl, h1⟩, _⟩ := h
        exact ⟨[.int k' m], by unfold Fit; rw [hu]; exact ⟨_, rfl, by simpa [Lit.wf] using h1⟩, .one (.int _ _)⟩
      case string =>
        unfold DataW.trod at h
        rw [hu] at h
        rcases cs with _ | ⟨c, _ | ⟨c2, rest⟩⟩ <;> (try cases c) <;> simp at h
        exact ⟨[.str _], by unfold Fit; rw [hu]; exact ⟨_, rfl⟩, .one (.str _)⟩
      case slice e =>
        have he := kid_slice hl ht hu
        unfold DataW.trod at h
        rw [hu] at h
        have hbad : ∀ c c2 rest, cs ≠ c :: c2 :: rest := fun c c2 rest e => by subst e; cases c <;> simp at h
        rcases cs with _ | ⟨c, _ | ⟨c2, rest⟩⟩
        · simp at h
        rotate_left
        · exact absurd rfl (hbad _ _ _)
        cases c <;> first | (simp at h; done) | skip
        rename_i a len cap
        cases a with
        | none =>
          rcases len with _ | len <;> rcases cap with _ | cap <;> first | (simp at h; done) | skip
          exact ⟨[.rsl (P.cellsOf e) []], by unfold Fit; rw [hu]; exact .inr ⟨[], rfl, by simp, by simp⟩, .one (.rnil _ _ _)⟩
        | some a =>
          dsimp only at h
          split at h
          · rename_i hb
            cases hm : (List.range len).mapM (fun i => (w.cells? 0 (a.add (i * P.cellsOf e)) (P.cellsOf e)).bind (DataW.trod enc P w 0 (fun _ => true) true n e)) with
            | none => rw [hm] at h; simp at h
            | some elems =>
              obtain ⟨k1, k2⟩ := range_mapM hm
              have k3 : ∀ i, i < len → ∃ avs cs', w.cells? 0 (a.add (i * P.cellsOf e)) (P.cellsOf e) = some cs' ∧ Fit P n e avs ∧ Match w avs cs' := fun i hi => by
                obtain ⟨b, _, e2⟩ := k2 i hi
                cases hc : w.cells? 0 (a.add (i * P.cellsOf e)) (P.cellsOf e) with
                | none => rw [hc] at e2; simp at e2
                | some cs' =>
                  rw [hc] at e2
                  obtain ⟨avs, h1, h2⟩ := ih e cs' b he e2
                  exact ⟨avs, cs', rfl, h1, h2⟩
              classical
              let F : Nat → List AV := fun i => if hi : i < len then Classical.choose (k3 i hi) else []
              let es := (List.range len).map F
              have hlen : es.length = len := by simp [es]
              have hget : ∀ i, i < len → es.getD i [] = F i := fun i hi => by simp [es, List.getD_eq_getElem?_getD, hi]
              have hF : ∀ i, i < len → ∃ cs', w.cells? 0 (a.add (i * P.cellsOf e)) (P.cellsOf e) = some cs' ∧ Fit P n e (F i) ∧ Match w (F i) cs' := fun i hi => by
                have := Classical.choose_spec (k3 i hi)
                simp only [F, dif_pos hi]
                exact this
              have hes : ∀ x ∈ es, x.length = P.cellsOf e ∧ Fit P n e x := fun x hx => by
                simp only [es, List.mem_map, List.mem_range] at hx
                obtain ⟨i, hi, rfl⟩ := hx
                obtain ⟨cs', h1, h2, h3⟩ := hF i hi
                exact ⟨h3.1.trans (cells?_spec h1).1, h2⟩
              rcases Nat.eq_zero_or_pos (P.cellsOf e) with hz | hz
              · exact ⟨[.any], by unfold Fit; rw [hu]; exact .inl hz, .one (.any _)⟩
              refine ⟨[.rsl (P.cellsOf e) es], by unfold Fit; rw [hu]; exact .inr ⟨es, rfl, by rw [hlen]; omega, hes⟩, .one ?_⟩
              rcases Nat.eq_zero_or_pos len with h0 | h0
              · have : es = [] := List.length_eq_zero_iff.1 (by omega)
                rw [this, h0]; exact .rnil _ _ _
              · have hcell : ∀ i j, i < len → j < P.cellsOf e → ∃ v, w.cell? ((a.add (i * P.cellsOf e)).add j) = some v ∧ RelP (immW w) w ((es.getD i []).getD j .any) v := fun i j hi hj => by
                  obtain ⟨cs', h1, h2, h3⟩ := hF i hi
                  obtain ⟨g1, g2⟩ := cells?_spec h1
                  refine ⟨_, g2 j hj, ?_⟩
                  rw [hget i hi]
                  exact h3.2 j (by rw [h3.1, g1]; exact hj)
                obtain ⟨v0, g1, _⟩ := hcell 0 0 h0 hz
                simp only [Nat.zero_mul, Addr.add, if_true] at g1
                obtain ⟨hs, hblk⟩ := cell?_spot g1
                obtain ⟨b, off, sp⟩ := a
                simp only at hs
                subst hs
                have hadd : ∀ i j, ((⟨b, off, none⟩ : Addr).add (i * P.cellsOf e)).add j = ⟨b, off + i * P.cellsOf e + j, none⟩ := fun i j => by
                  simp only [Addr.add]
                  split <;> split <;> simp_all
                rw [← hlen]
                refine .rsl _ es b off cap (fun i j => (w.cell? ⟨b, off + i * P.cellsOf e + j, none⟩).getD undef) (by omega) ⟨hblk, fun h => h⟩ (fun x hx => (hes x hx).1) (fun i j hi hj => ?_) (fun i j hi hj => ?_)
                · obtain ⟨v, e1, _⟩ := hcell i j (by omega) hj
                  rw [hadd] at e1
                  simp [e1]
                · obtain ⟨v, e1, e2⟩ := hcell i j (by omega) hj
                  rw [hadd] at e1
                  simpa [e1] using e2
          · cases h
      case struct fs =>
        obtain ⟨hk1, hk2, hk3⟩ := kid_struct hl ht hu
        unfold DataW.trod at h
        rw [hu] at h
        dsimp only at h
        split at h
        · rename_i hlen
          cases hm : (fs.toList.mapM fun f => DataW.trod enc P w 0 (fun _ => true) true n f.type ((cs.drop f.offset).take (P.cellsOf f.type))) with
          | none => rw [hm] at h; simp at h
          | some xs =>
            have h2 := mapM_some hm
            have h3 : ∃ parts : List (List AV), F2 (fun (fl : Field) p => (p.length = P.cellsOf fl.type ∧ Fit P n fl.type p) ∧ Match w p ((cs.drop fl.offset).take (P.cellsOf fl.type))) fs.toList parts := by
              have hall : ∀ f ∈ fs.toList, f.type < P.types.size ∧ f.offset + P.cellsOf f.type ≤ cs.length := fun f hf => by
                refine ⟨hk1 f hf, ?_⟩
                obtain ⟨j, hj, rfl⟩ := List.mem_iff_getElem.1 hf
                have h5 := hk3 j fs.toList[j] (List.getElem?_eq_getElem hj)
                rw [h5, hlen, hk2]
                have h6 : (fs.toList.map fun f => P.cellsOf f.type).sum = ((fs.toList.take j).map fun f => P.cellsOf f.type).sum + ((fs.toList.drop j).map fun f => P.cellsOf f.type).sum := by
                  rw [← List.sum_append, ← List.map_append, List.take_append_drop]
                rw [h6, List.drop_eq_getElem_cons hj]
                simp
              clear hm h hk1 hk2 hk3
              generalize fs.toList = l at h2 hall
              induction h2 with
              | nil => exact ⟨[], .nil⟩
              | cons h1 t ih2 =>
                rename_i f y l' r'
                obtain ⟨parts, hp⟩ := ih2 fun f hf => hall f (List.mem_cons_of_mem _ hf)
                obtain ⟨g1, g2⟩ := hall f (List.mem_cons_self ..)
                obtain ⟨avs, k1, k2⟩ := ih _ _ _ g1 h1
                exact ⟨avs :: parts, .cons ⟨⟨by rw [k2.1]; simp; omega, k1⟩, k2⟩ hp⟩
            obtain ⟨parts, hp⟩ := h3
            refine ⟨parts.flatten, by unfold Fit; rw [hu]; exact ⟨parts, rfl, forall2_imp (fun _ _ h => h.1) hp⟩, ?_⟩
            have h4 := match_flatten hp
            rw [chunks_struct cs fs.toList 0 (fun j f hj => by simpa using hk3 j f hj)] at h4
            rw [← hk2, ← hlen] at h4
            simpa using h4
        · cases h
      case array m e =>
        obtain ⟨he, hsz⟩ := kid_array hl ht hu
        unfold DataW.trod at h
        rw [hu] at h
        dsimp only at h
        split at h
        · rename_i hlen
          cases hm : ((List.range m).mapM fun i => DataW.trod enc P w 0 (fun _ => true) true n e ((cs.drop (i * P.cellsOf e)).take (P.cellsOf e))) with
          | none => rw [hm] at h; simp at h
          | some xs =>
            have h2 := mapM_some hm
            have h3 : ∃ parts : List (List AV), F2 (fun (i : Nat) p => (p.length = P.cellsOf e ∧ Fit P n e p) ∧ Match w p ((cs.drop (i * P.cellsOf e)).take (P.cellsOf e))) (List.range m) parts := by
              have hall : ∀ i ∈ List.range m, (i + 1) * P.cellsOf e ≤ cs.length := fun i hi => by
                rw [hlen, hsz]
                exact Nat.mul_le_mul_right _ (by have := List.mem_range.1 hi; omega)
              clear hm h hsz
              generalize List.range m = l at h2 hall
              induction h2 with
              | nil => exact ⟨[], .nil⟩
              | cons h1 t ih2 =>
                rename_i i y l' r'
                obtain ⟨parts, hp⟩ := ih2 fun f hf => hall f (List.mem_cons_of_mem _ hf)
                have g2 := hall i (List.mem_cons_self ..)
                obtain ⟨avs, k1, k2⟩ := ih _ _ _ he h1
                rw [Nat.succ_mul] at g2
                exact ⟨avs :: parts, .cons ⟨⟨by rw [k2.1]; simp; omega, k1⟩, k2⟩ hp⟩
            obtain ⟨parts, hp⟩ := h3
            refine ⟨parts.flatten, by unfold Fit; rw [hu]; exact ⟨parts, rfl, by have := forall2_len hp; simpa using this.symm, forall2_right (fun _ _ h => h.1) hp⟩, ?_⟩
            have h4 := match_flatten (g := fun i => (cs.drop (i * P.cellsOf e)).take (P.cellsOf e)) hp
            rw [chunks_array, ← hsz, ← hlen] at h4
            simpa using h4
        · cases h

end Go.AM

/- A law's contract out of a contract over pure trees. -/
namespace Go.AM
open Go.RowKit Go.WideShapes Go.ChangeShapes

def aggT (P : Program) (t : TypeId) : Bool :=
  match P.underlying t with
  | some (.struct _) | some (.array _ _) => true
  | _ => false
def supT (P : Program) (t : TypeId) : Bool :=
  match P.underlying t with
  | some .bool | some (.int _) | some .string | some (.slice _) | some (.struct _) | some (.array _ _) => true
  | _ => false
def argAV (P : Program) (t : TypeId) (avs : List AV) : AV := if aggT P t then .agg avs else avs.getD 0 .any
def argsAV (P : Program) : List TypeId → List (List AV) → List AV
  | t :: ts, a :: avs => argAV P t a :: argsAV P ts avs
  | _, _ => []

theorem match_arg {P : Program} {w : World} {t : TypeId} {v : Value} {avs : List AV} {base : Nat} (hs : supT P t = true) (hok : Value.okWide P w .any base t v) (h : Match w avs v.cells.toList) : RelP (immW w) w (argAV P t avs) v := by
  have hone : (∀ cs, v ≠ .agg cs) → aggT P t = false → RelP (immW w) w (argAV P t avs) v := fun hv ha => by
    have hc : v.cells.toList = [v] := by
      cases v <;> first | rfl | exact absurd rfl (hv _)
    rw [hc] at h
    unfold argAV
    rw [ha]
    exact h.2 0 (by rw [h.1]; simp)
  have hagg : (∃ cs, v = .agg cs) → aggT P t = true → RelP (immW w) w (argAV P t avs) v := fun ⟨cs, e⟩ ha => by
    subst e
    unfold argAV
    rw [ha]
    obtain ⟨l⟩ := cs
    exact .agg _ _ h.1 h.2
  cases hu : P.underlying t with
  | none => simp [supT, hu] at hs
  | some d =>
    cases d <;> first | (simp [supT, hu] at hs; done) | skip
    case bool => obtain ⟨b, rfl⟩ := okWide_bool hu hok; exact hone (by simp) (by simp [aggT, hu])
    case int => obtain ⟨b, rfl⟩ := okWide_int hu hok; exact hone (by simp) (by simp [aggT, hu])
    case string => obtain ⟨b, rfl⟩ := okWide_string hu hok; exact hone (by simp) (by simp [aggT, hu])
    case slice => obtain ⟨b, _, _, rfl⟩ := okWide_slice hu hok; exact hone (by simp) (by simp [aggT, hu])
    case struct => obtain ⟨cs, rfl, _⟩ := okWide_struct hu hok; exact hagg ⟨_, rfl⟩ (by simp [aggT, hu])
    case array =>
      unfold Value.okWide at hok
      rw [hu] at hok
      obtain ⟨cs, rfl, _⟩ := hok
      exact hagg ⟨_, rfl⟩ (by simp [aggT, hu])

theorem args_match {H : Type} {enc : TypeId × Value → H} {P : Program} {w : World} {base : Nat} (hl : laidOutB P = true) : ∀ {ts : List TypeId} {vs : List Value} {ds : List (DataW H)} {ps : List MemPlace}, (∀ t ∈ ts, t < P.types.size ∧ supT P t = true) →
    (∀ (j : Nat) t v, ts[j]? = some t → vs[j]? = some v → Value.okWide P w .any base t v) → DataW.TrodAll enc P w 0 (fun _ => true) true ts vs ds ps →
    ∃ ass, F2 (fun t avs => ∃ n, Fit P n t avs) ts ass ∧ (argsAV P ts ass).length = vs.length ∧ ∀ i, i < vs.length → RelP (immW w) w ((argsAV P ts ass).getD i .any) (vs.getD i undef)
  | [], vs, ds, ps, _, _, h => by
    obtain ⟨rfl, _, _⟩ := trodAll_nil h
    exact ⟨[], .nil, rfl, by simp⟩
  | t :: ts, vs, ds, ps, hts, hv, h => by
    obtain ⟨v, vs', d, ds', p, q, rfl, rfl, rfl, ⟨n, h1⟩, h2⟩ := trodAll_cons h
    obtain ⟨avs, k1, k2⟩ := fit_of_trod hl n t _ _ (hts t (List.mem_cons_self ..)).1 h1
    obtain ⟨ass, j1, j2, j3⟩ := args_match hl (fun t ht => hts t (List.mem_cons_of_mem _ ht)) (fun j t v e1 e2 => hv (j + 1) t v (by simpa using e1) (by simpa using e2)) h2
    refine ⟨avs :: ass, .cons ⟨n, k1⟩ j1, by simp [argsAV, j2], fun i hi => ?_⟩
    cases i with
    | zero => simpa [argsAV] using match_arg (hts t (List.mem_cons_self ..)).2 (hv 0 t v rfl rfl) k2
    | succ i => simpa [argsAV] using j3 i (by simpa using hi)

theorem Ext.below {w w' : World} (h : Ext (fun _ => False) w w') : Below w.heap.size w w' := ⟨h.os, h.tape, h.output, h.size, fun k hk => h.block k hk fun e => e⟩

theorem trodAll_below {H : Type} {enc : TypeId × Value → H} {P : Program} {W W' : World} (hl : laidOutB P = true) (hb : Below W.heap.size W W') {sp : Nat → Bool} : ∀ {ts : List TypeId} {vs : List Value} {ds : List (DataW H)} {ps : List MemPlace},
    (∀ t ∈ ts, t < P.types.size ∧ P.readableRec t = true) → DataW.TrodAll enc P W 0 (fun _ => true) true ts vs ds ps → (∀ p ∈ ps, p.block < W.heap.size ∧ sp p.block = true) → DataW.TrodAll enc P W' 0 sp true ts vs ds ps
  | [], vs, ds, ps, _, h, _ => by
    obtain ⟨rfl, rfl, rfl⟩ := trodAll_nil h
    rfl
  | t :: ts, vs, ds, ps, hts, h, hp => by
    obtain ⟨v, vs', d, ds', p, q, rfl, rfl, rfl, h1, h2⟩ := trodAll_cons h
    obtain ⟨g1, g2⟩ := hts t (List.mem_cons_self ..)
    exact ⟨p, q, WideElems.Trod_stays hl g2 g1 h1 (fun x hx => hb.same (hp x (List.mem_append_left _ hx)).1) (fun x hx => (hp x (List.mem_append_left _ hx)).2),
      trodAll_below hl hb (fun t ht => hts t (List.mem_cons_of_mem _ ht)) h2 (fun x hx => hp x (List.mem_append_right _ hx)), rfl⟩

theorem trodAll_len {H : Type} {enc : TypeId × Value → H} {P : Program} {w : World} {b : Nat} {sp : Nat → Bool} {hd : Bool} : ∀ {ts : List TypeId} {vs : List Value} {ds : List (DataW H)} {ps : List MemPlace}, DataW.TrodAll enc P w b sp hd ts vs ds ps → vs.length = ts.length ∧ ds.length = ts.length
  | [], vs, ds, ps, h => by
    obtain ⟨rfl, rfl, rfl⟩ := trodAll_nil h
    exact ⟨rfl, rfl⟩
  | t :: ts, vs, ds, ps, h => by
    obtain ⟨v, vs', d, ds', p, q, rfl, rfl, rfl, _, h2⟩ := trodAll_cons h
    have := trodAll_len h2
    exact ⟨by simp [this.1], by simp [this.2]⟩

/-- What the form asks of a law's call, out of a contract over pure trees. -/
theorem law_contract {H : Type} {enc : TypeId × Value → H} {P : Program} {fn : Func} {f : FuncId} {s : ChangeSpec} (hl : laidOutB P = true) {ts : List TypeId} {T : TypeId} (hps : fn.params.toList = ts) (hrs : fn.resultTypes = #[T]) (hT : P.underlying T = some .bool)
    (hts : ts.all (fun t => decide (t < P.types.size) && supT P t && P.readableRec t) = true) (hvars : s.vars = []) (hs : ∀ ds : List (DataW H), ds.length = ts.length → s.fn H ds = { results := [.lit (.bool true)], args := ds })
    (hread : ∀ ass, F2 (fun t avs => ∃ n, Fit P n t avs) ts ass → Reads P f false (argsAV P ts ass) (.bool true))
    {W : World} {base : Nat} {args : Array Value} {ds gs : List (DataW H)} {before : List MemPlace} (hval : ∀ (j : Nat) t v, fn.params[j]? = some t → args[j]? = some v → Value.okWide P W .any base t v)
    (hW : DataW.Whole enc P fn.params.toList s.vars false W args.toList ds gs before) (hgl : GL (immF W fun _ => False) W) :
    Calls P f args W fun e W' => ∃ v, e = .returned v ∧ s.post enc P fn false true false false W args v W' := by
  have hts' : ∀ t ∈ ts, t < P.types.size ∧ supT P t = true ∧ P.readableRec t = true := fun t ht => by
    have := List.all_eq_true.1 hts t ht
    simpa [and_assoc] using this
  have hW' := hW
  obtain ⟨p, q, hA, hV, rfl, hfz, hnd⟩ := hW
  rw [hvars] at hV
  obtain ⟨rfl, rfl⟩ := trodVars_none hV
  rw [hps] at hA
  obtain ⟨hl1, hl2⟩ := trodAll_len hA
  obtain ⟨ass, j1, j2, j3⟩ := args_match hl (fun t ht => ⟨(hts' t ht).1, (hts' t ht).2.1⟩) (fun j t v e1 e2 => hval j t v (by rw [← hps] at e1; simpa using e1) (by simpa using e2)) hA
  have hc := hread ass j1 W (fun _ => False) args.toList (fun _ h => h.elim) hgl j2.symm (fun i hi => j3 i (by omega))
  rw [show args.toList.toArray = args by simp] at hc
  refine hc.mono fun e W' ⟨u, h1, h2, h3⟩ => ⟨u, h1, ?_⟩
  have hu : u = .bool true := by cases h3; rfl
  subst hu
  have hb := h2.below
  have hlt : ∀ x ∈ p, x.block < W.heap.size := fun x hx => hW'.lt x (by simpa using hx)
  have hsf := hs ds hl2
  have hres : ∀ (b : Nat) (sp : Nat → Bool) (hd : Bool), DataW.TrodAll enc P W' b sp hd fn.resultTypes.toList ((Value.bool true).resultList fn.resultTypes.size) (s.fn H (ds ++ [])).results [] := fun b sp hd => by
    rw [hrs, List.append_nil, hsf]
    exact trodAll_mk1 (shut_bool hT true)
  have hargs : ∀ sp : Nat → Bool, (∀ x ∈ p, sp x.block = true) → DataW.TrodAll enc P W' 0 sp true fn.params.toList args.toList (s.fn H (ds ++ [])).args p := fun sp hsp => by
    rw [List.append_nil, hsf, hps]
    exact trodAll_below hl hb (fun t ht => ⟨(hts' t ht).1, (hts' t ht).2.2⟩) hA fun x hx => ⟨hlt x hx, hsp x hx⟩
  have hvs : ∀ sp : Nat → Bool, DataW.TrodVars enc P W' sp s.vars (s.fn H (ds ++ [])).vars [] := fun sp => by
    rw [List.append_nil, hsf, hvars]; rfl
  refine ⟨ds, [], p ++ [], [], p, [], hW', hres _ _ _, hargs _ (fun x hx => by simpa using hlt x hx), hvs _, World.keptBut_mono (fun x hx => ⟨hx, ?_⟩) (hb.frame (· ∈ p ++ [])), fun _ => ?_⟩
  · simpa using hx
  · refine ⟨ok_one hrs rfl (okWide_bool_mk hT _), _, _, ([] ++ p) ++ [], ⟨[] ++ p, [], trodAll_append (hargs _ (fun _ _ => rfl)) (hres _ _ _), hvs _, rfl, ?_, ?_⟩, ?_⟩
    · intro b off hp
      have hin : MemPlace.cell b off ∈ p := by simpa using hp
      rw [hb.frozen (hlt _ hin)]
      exact hfz b off (by simpa using hin)
    · intro ha; cases ha
    · intro x hx _
      simpa using hx

end Go.AM

/- The shapes of arguments. -/
namespace Go.AM
theorem fit_int {P : Program} {t : TypeId} {k : IntKind} (hu : P.underlying t = some (.int k)) {f : Nat} {x : List AV} (h : Fit P f t x) : ∃ n, x = [.int k n] ∧ k.min ≤ n ∧ n ≤ k.max := by
  cases f with
  | zero => exact h.elim
  | succ f => unfold Fit at h; rw [hu] at h; exact h
theorem fit_slice {P : Program} {t e : TypeId} {m : Nat} (hu : P.underlying t = some (.slice e)) (hm : P.cellsOf e = m) (h0 : m ≠ 0) {f : Nat} {x : List AV} (h : Fit P f t x) : ∃ es f', x = [.rsl m es] ∧ es.length ≤ maxLen ∧ ∀ y ∈ es, Fit P f' e y := by
  cases f with
  | zero => exact h.elim
  | succ f =>
    unfold Fit at h; rw [hu] at h
    rcases h with h | ⟨es, h1, h2, h3⟩
    · exact absurd (hm ▸ h) h0
    · rw [hm] at h1; exact ⟨es, f, h1, h2, fun y hy => (h3 y hy).2⟩
theorem fit_struct {P : Program} {t : TypeId} {fs : Array Field} (hu : P.underlying t = some (.struct fs)) {f : Nat} {x : List AV} (h : Fit P f t x) : ∃ f' parts, x = List.flatten parts ∧ F2 (fun (fl : Field) p => Fit P f' fl.type p) fs.toList parts := by
  cases f with
  | zero => exact h.elim
  | succ f =>
    unfold Fit at h; rw [hu] at h
    obtain ⟨parts, h1, h2⟩ := h
    exact ⟨f, parts, h1, forall2_imp (fun _ _ h => h.2) h2⟩
theorem F2.two {α β : Type} {R : α → β → Prop} {a b : α} {l : List β} (h : F2 R [a, b] l) : ∃ x y, l = [x, y] ∧ R a x ∧ R b y := by
  cases h with | cons h1 t => cases t with | cons h2 t => cases t with | nil => exact ⟨_, _, rfl, h1, h2⟩
theorem exists_mapP {α β : Type} {f : α → β} {p : α → Prop} : ∀ {l : List β}, (∀ x ∈ l, ∃ a, x = f a ∧ p a) → ∃ m : List α, l = m.map f ∧ ∀ a ∈ m, p a
  | [], _ => ⟨[], rfl, fun _ h => by cases h⟩
  | x :: l, h => by
    obtain ⟨a, rfl, ha⟩ := h x (List.mem_cons_self ..)
    obtain ⟨m, rfl, hm⟩ := exists_mapP fun y hy => h y (List.mem_cons_of_mem _ hy)
    exact ⟨a :: m, rfl, fun b hb => by rcases List.mem_cons.1 hb with rfl | hb; exact ha; exact hm b hb⟩
theorem okW_of {W : List Int} (h : ∀ w ∈ W, 0 ≤ w ∧ w ≤ 18446744073709551615) : okW W := fun i => by
  by_cases hi : i < W.length
  · have := h _ (mem_getD hi 0); omega
  · rw [List.getD_eq_getElem?_getD, List.getElem?_eq_none (by omega)]; simp
end Go.AM

/- The shapes of the relation laws' arguments. -/
namespace Go.AM
open Go.Proofs
theorem fit_words {f : Nat} {x : List AV} (h : Fit Try.prog f 61 x) : ∃ W : List Int, x = [.rsl 1 (words W)] ∧ W.length ≤ 9223372036854775807 ∧ okW W := by
  obtain ⟨es, f2, rfl, h5, h6⟩ := fit_slice (m := 1) Try.underlying61 (by kernel_rfl) (by decide) h
  obtain ⟨ws, rfl, hw⟩ := exists_mapP (f := fun x : Int => [AV.int .u64 x]) (p := fun w => 0 ≤ w ∧ w ≤ 18446744073709551615) fun y hy => by
    obtain ⟨n, e, h1, h2⟩ := fit_int Try.underlying71 (h6 y hy)
    exact ⟨n, e, by simpa [IntKind.min, IntKind.signed] using h1, by simpa [IntKind.max, IntKind.signed, IntKind.bits] using h2⟩
  exact ⟨ws, rfl, by simpa [maxLen] using h5, okW_of hw⟩
theorem fit_set {f : Nat} {x : List AV} (h : Fit Try.prog f 63 x) : ∃ y : USet, x = rowV y ∧ y.W.length ≤ 9223372036854775807 ∧ okW y.W := by
  obtain ⟨f', parts, rfl, h2⟩ := fit_struct Try.underlying63 h
  obtain ⟨a, b, rfl, h3, h4⟩ := F2.two h2
  obtain ⟨i, rfl, _⟩ := fit_int Try.underlying3 h3
  obtain ⟨W, rfl, h5, h6⟩ := fit_words h4
  exact ⟨⟨i, W⟩, rfl, h5, h6⟩
theorem F2.one {α β : Type} {R : α → β → Prop} {a : α} {l : List β} (h : F2 R [a] l) : ∃ x, l = [x] ∧ R a x := by
  cases h with | cons h1 t => cases t with | nil => exact ⟨_, rfl, h1⟩
theorem fit_rel {f : Nat} {x : List AV} (h : Fit Try.prog f 24 x) : ∃ rs : List USet, x = [.rsl 2 (rs.map rowV)] ∧ (rs.length ≤ 9223372036854775807 ∧ ∀ y ∈ rs, y.W.length ≤ 9223372036854775807) ∧ ∀ y ∈ rs, okW y.W := by
  obtain ⟨f', parts, rfl, h2⟩ := fit_struct Try.underlying24 h
  obtain ⟨a, rfl, h3⟩ := F2.one h2
  obtain ⟨es, f2, rfl, h5, h6⟩ := fit_slice (m := 2) Try.underlying22 (by kernel_rfl) (by decide) h3
  obtain ⟨rs, rfl, hr⟩ := exists_mapP (f := rowV) (p := fun y => y.W.length ≤ 9223372036854775807 ∧ okW y.W) fun y hy => fit_set (h6 y hy)
  exact ⟨rs, rfl, ⟨by simpa [maxLen] using h5, fun y hy => (hr y hy).1⟩, fun y hy => (hr y hy).2⟩
theorem gl_none {imm : Nat → Prop} {w : World} : GL imm w := fun g cs e => by cases e
end Go.AM

