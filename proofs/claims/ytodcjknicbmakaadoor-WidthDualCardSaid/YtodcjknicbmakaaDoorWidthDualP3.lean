/- Lemmas and contracts, part 3: an abstract machine over the model, and the functions that the statement reaches. -/
import Derived.Test.YtodcjknicbmakaaDoorWidthDualP2
import Derived.Test.YtodcjknicbmakaaDoorProg
import Derived.KernelRfl
set_option linter.unusedVariables false
set_option linter.unusedSimpArgs false
open Nat renaming reduceAdd → zA, reduceMul → zM, reduceEqDiff → zE, reduceLT → zL, reduceLeDiff → zD, reduceSub → zS, reducePow → zP, reduceBEq → zB
open Int renaming reduceToNat → zI
open List renaming reduceReplicate → zR
/- Lists of plain values as pure trees. -/
namespace Go.AM
def ints (l : List Int) : List (List AV) := l.map fun x => [.int .i64 x]
def words (l : List Int) : List (List AV) := l.map fun x => [.int .u64 x]
def ybc (l : List Bool) : List (List AV) := l.map fun x => [.bool x]
structure USet where
  N : Int
  W : List Int
end Go.AM
namespace Go.AM
theorem yac (l : List Int) : (ints l).length = l.length := by simp [ints]
theorem ints_take (l : List Int) (n : Nat) : (ints l).take n = ints (l.take n) := by simp [ints, List.map_take]
theorem ints_drop (l : List Int) (n : Nat) : (ints l).drop n = ints (l.drop n) := by simp [ints, List.map_drop]
theorem ypr (l : List Int) (i : Nat) (x : Int) : (ints l).set i [.int .i64 x] = ints (l.set i x) := by simp [ints, List.map_set]
theorem ints_upd (l : List Int) (i : Nat) (x : Int) : (ints l).set i (((ints l).getD i []).set 0 (.int .i64 x)) = ints (l.set i x) := by
  by_cases h : i < l.length
  · rw [← ypr]; congr 1; simp [ints, List.getD_eq_getElem?_getD, h]
  · rw [List.set_eq_of_length_le (by rw [yac]; omega), List.set_eq_of_length_le (by omega)]
theorem Reads.old {P : Program} {f : FuncId} {args : List AV} {r : AV} (h : Reads P f true args r) : Reads P f false args r := by
  intro w F us hF hgl hl hr
  refine (h w F us hF hgl hl hr).mono fun e w' ⟨u, h1, h2, h3⟩ => ⟨u, h1, h2, ?_⟩
  exact h3.mono fun b hb => ⟨⟨hb.1, fun hf => hb.2 (hF b hf)⟩, rfl⟩
theorem getV {α : Type} {f : α → List AV} {l : List α} {j : Nat} {x : α} (h : l[j]? = some x) : (l.map f).getD j [] = f x := by
  simp [List.getD_eq_getElem?_getD, h]
theorem getI {α : Type} {l : List α} {j : Nat} (h : j < l.length) : ∃ x, l[j]? = some x := ⟨_, List.getElem?_eq_getElem h⟩
theorem yeq {α : Type} {p : α → Bool} {l : List α} {j : Nat} {x : α} (h : l[j]? = some x) : (l.take (j + 1)).all p = ((l.take j).all p && p x) := by
  obtain ⟨hj, rfl⟩ := List.getElem?_eq_some_iff.1 h
  rw [List.take_succ_eq_append_getElem hj, List.all_append]; simp
theorem yiy {α : Type} {p : α → Bool} {l : List α} {j : Nat} {x : α} (h : l[j]? = some x) (hp : p x = false) : l.all p = false := by
  rw [List.all_eq_false]; exact ⟨x, List.mem_of_getElem? h, by simp [hp]⟩
theorem ydu (l : List Int) : (words l).length = l.length := by simp [words]
theorem ybo {l : List Int} {i : Nat} (h : i < l.length) : (words l).getD i [] = [.int .u64 (l.getD i 0)] := by
  simp [words, List.getD_eq_getElem?_getD, h]
theorem ynk (l : List Int) (i : Nat) (x : Int) : (words l).set i [.int .u64 x] = words (l.set i x) := by simp [words, List.map_set]
theorem words_upd (l : List Int) (i : Nat) (x : Int) : (words l).set i (((words l).getD i []).set 0 (.int .u64 x)) = words (l.set i x) := by
  by_cases h : i < l.length
  · rw [← ynk]; congr 1; simp [words, List.getD_eq_getElem?_getD, h]
  · rw [List.set_eq_of_length_le (by rw [ydu]; omega), List.set_eq_of_length_le (by omega)]
theorem words_take (l : List Int) (n : Nat) : (words l).take n = words (l.take n) := by simp [words, List.map_take]
theorem yap (l : List Bool) : (ybc l).length = l.length := by simp [ybc]
theorem yc0 {l : List Bool} {i : Nat} (h : i < l.length) : (ybc l).getD i [] = [.bool (l.getD i false)] := by
  simp [ybc, List.getD_eq_getElem?_getD, h]
theorem ynl (l : List Bool) (i : Nat) (x : Bool) : (ybc l).set i [.bool x] = ybc (l.set i x) := by simp [ybc, List.map_set]
theorem bools_upd (l : List Bool) (i : Nat) (x : Bool) : (ybc l).set i (((ybc l).getD i []).set 0 (.bool x)) = ybc (l.set i x) := by
  by_cases h : i < l.length
  · rw [← ynl]; congr 1; simp [ybc, List.getD_eq_getElem?_getD, h]
  · rw [List.set_eq_of_length_le (by rw [yap]; omega), List.set_eq_of_length_le (by omega)]
theorem bools_take (l : List Bool) (n : Nat) : (ybc l).take n = ybc (l.take n) := by simp [ybc, List.map_take]
section
variable (s : yao) (d : Nat)
theorem yre (l : List Int) : (ints l).map (fun cs => cs.map (vw s d)) = ints l := yid s d _ l
theorem yps (l : List Int) : (ints l).map (fun cs => cs.map (vwc s d)) = ints l := ygv s d _ l
theorem ypt (l : List Int) : (ints l).map (fun cs => cs.map (vwF s d)) = ints l := ygw s d _ l
theorem vwcF_ints (l : List Int) : (ints l).map (fun cs => cs.map (vwcF s d)) = ints l := yfl s d _ l
theorem ypu (l : List Int) : (words l).map (fun cs => cs.map (vw s d)) = words l := yid s d _ l
theorem vwc_words (l : List Int) : (words l).map (fun cs => cs.map (vwc s d)) = words l := ygv s d _ l
theorem ynm (l : List Int) : (words l).map (fun cs => cs.map (vwF s d)) = words l := ygw s d _ l
theorem vwcF_words (l : List Int) : (words l).map (fun cs => cs.map (vwcF s d)) = words l := yfl s d _ l
theorem vwc_bools (l : List Bool) : (ybc l).map (fun cs => cs.map (vwc s d)) = ybc l := yix s d l
theorem vwcF_bools (l : List Bool) : (ybc l).map (fun cs => cs.map (vwcF s d)) = ybc l := yg9 s d l
variable (m : Ref → Option Ref)
theorem yie (k : IntKind) (x : Int) : ren m d (.int k x) = .int k x := by cases d <;> rfl
theorem ypv (x : Bool) : ren m d (.bool x) = .bool x := by cases d <;> rfl
theorem ren_ints (l : List Int) : (ints l).map (fun row => row.map (ren m d)) = ints l := by simp [ints, yie]
theorem yb6 (l : List Int) : (ints l).map (fun row => row.map (renC m d)) = ints l := by simp [ints, renC, yie]
theorem ynn (l : List Int) : (words l).map (fun row => row.map (ren m d)) = words l := by simp [words, yie]
theorem yk7 (l : List Int) : (words l).map (fun row => row.map (renC m d)) = words l := by simp [words, renC, yie]
theorem ren_bools (l : List Bool) : (ybc l).map (fun row => row.map (ren m d)) = ybc l := by simp [ybc, ypv]
theorem yfy (l : List Bool) : (ybc l).map (fun row => row.map (renC m d)) = ybc l := by simp [ybc, renC, ypv]
end
attribute [go_sem] yre yps ypt vwcF_ints ypu vwc_words ynm vwcF_words vwc_bools vwcF_bools ren_ints yb6 ynn yk7 ren_bools yfy
  yac ypr ints_upd ints_take ydu ynk words_upd words_take yap ynl bools_upd bools_take List.take_length Int.toNat_natCast List.length_map List.length_replicate Nat.sub_zero Nat.sub_self List.getD_nil
end Go.AM
namespace Go.AM
def ysj {α : Type} (f : α → List AV) : Prop := ∀ x i sz q, (f x).getD i .any ≠ .osl sz q
theorem ykc {α : Type} {f : α → List AV} (h : ysj f) (l : List α) : yf6 (l.map f) := fun i j sz q e => by
  by_cases hi : i < l.length
  · rw [getV (List.getElem?_eq_getElem hi)] at e
    exact h _ _ _ _ e
  · have e0 : (l.map f).getD i [] = [] := by simp [List.getD_eq_getElem?_getD, List.getElem?_eq_none (by simpa using hi : l.length ≤ i)]
    rw [e0] at e
    simp at e
theorem yk8 (k : IntKind) : ysj (α := Int) fun x : Int => [AV.int k x] := fun x i sz q e => by
  rcases i with _ | i <;> simp at e
theorem yk9 (l : List Int) : yf6 (ints l) := ykc (yk8 _) l
theorem ylz (l : List Int) (x : Int) : ints l ++ [[.int .i64 x]] = ints (l ++ [x]) := by simp [ints]
theorem yer {l : List Int} {i : Nat} {x : Int} (h : l[i]? = some x) : (ints l).getD i [] = [.int .i64 x] := getV h
theorem ybv {l : List Int} {i : Nat} (h : i < l.length) : (ints l).getD i [] = [.int .i64 (l.getD i 0)] := by
  simp [ints, List.getD_eq_getElem?_getD, h]
theorem yb1 {α : Type} {l : List α} {i : Nat} (h : i < l.length) (d : α) : l.getD i d ∈ l := by
  rw [List.getD_eq_getElem?_getD, List.getElem?_eq_getElem h]; exact List.getElem_mem h
theorem getD_of {α : Type} {l : List α} {i : Nat} {x : α} (h : l[i]? = some x) (d : α) : l.getD i d = x := by
  rw [List.getD_eq_getElem?_getD, h]; rfl
theorem ybj (l : List Int) : scP (ints l) := fun cs h a ha => by
  simp only [ints, List.mem_map] at h
  obtain ⟨x, _, rfl⟩ := h
  simp at ha; subst ha; rfl
theorem ybe (l : List Int) : scP (words l) := fun cs h a ha => by
  simp only [words, List.mem_map] at h
  obtain ⟨x, _, rfl⟩ := h
  simp at ha; subst ha; rfl
theorem ybf (l : List Bool) : scP (ybc l) := fun cs h a ha => by
  simp only [ybc, List.mem_map] at h
  obtain ⟨x, _, rfl⟩ := h
  simp at ha; subst ha; rfl
def ya6 (p : Int × Int) : List AV := [.int .i64 p.1, .int .i64 p.2]
theorem vwc_pairs (s : yao) (d : Nat) (l : List (Int × Int)) : (l.map ya6).map (fun cs => cs.map (vwc s d)) = l.map ya6 := by simp [ya6, yj9]
theorem yif (s : yao) (d : Nat) (l : List (Int × Int)) : (l.map ya6).map (fun cs => cs.map (vwcF s d)) = l.map ya6 := by simp [ya6, yg8]
theorem renC_pairs (m : Ref → Option Ref) (d : Nat) (l : List (Int × Int)) : (l.map ya6).map (fun cs => cs.map (renC m d)) = l.map ya6 := by simp [ya6, renC, yie]
attribute [go_sem] vwc_pairs yif renC_pairs
theorem noOsl_words (l : List Int) : yf6 (words l) := ykc (yk8 _) l
end Go.AM

/- Sets as words. -/
namespace Go.AM
/-- A bit is set. -/
def ye5 (W : List Int) (i : Int) : List Int := W.set (i.tdiv 64).toNat (bOr .u64 (W.getD (i.tdiv 64).toNat 0) (bShl .u64 1 (i.tmod 64)))
def ybb (n : Int) : Int := (n + 64 - 1).tdiv 64
theorem ya8 {n : Int} (h0 : 0 ≤ n) : 0 ≤ ybb n ∧ n ≤ 64 * ybb n ∧ 64 * ybb n ≤ n + 63 := by
  unfold ybb; rw [Int.tdiv_eq_ediv_of_nonneg (by omega)]; omega
theorem ydv {i n : Int} (h0 : 0 ≤ i) (h1 : i < n) : 0 ≤ i.tdiv 64 ∧ i.tdiv 64 < ybb n ∧ 0 ≤ i.tmod 64 ∧ i.tmod 64 < 64 := by
  have := ya8 (n := n) (by omega)
  rw [Int.tdiv_eq_ediv_of_nonneg h0, Int.tmod_eq_emod_of_nonneg h0]; omega
def setW (l : List Bool) (j : Nat) : List Int := (List.range j).foldl (fun W i => if l.getD i false = true then ye5 W (i : Int) else W) (List.replicate (ybb l.length).toNat 0)
theorem ykd (l : List Bool) (j : Nat) : setW l (j + 1) = if l.getD j false = true then ye5 (setW l j) (j : Int) else setW l j := by
  unfold setW; rw [List.range_succ, List.foldl_append]; rfl
theorem yji (l : List Bool) (j : Nat) : (setW l j).length = (ybb l.length).toNat := by
  induction j with
  | zero => simp [setW]
  | succ j ih => rw [ykd]; split <;> simp [ye5, ih]
def hasW (W : List Int) (i : Int) : Bool := decide ((bShr .u64 (W.getD (i.tdiv 64).toNat 0) (i.tmod 64)).tmod 2 = 1)
def okW (W : List Int) : Prop := ∀ i, 0 ≤ W.getD i 0 ∧ W.getD i 0 < 18446744073709551616
theorem yfz {w k : Nat} (hk : k < 64) : bShr .u64 (w : Int) (k : Int) = ((w >>> k : Nat) : Int) := by
  unfold bShr
  have : min (k : Int).toNat IntKind.u64.bits = k := by simp [IntKind.bits]; omega
  rw [this, Nat.shiftRight_eq_div_pow, Int.fdiv_eq_ediv_of_nonneg _ (by exact_mod_cast Nat.zero_le _)]
  norm_cast
theorem yes {W : List Int} {i : Int} (h0 : 0 ≤ i) (hW : 0 ≤ W.getD (i.tdiv 64).toNat 0) : hasW W i = (W.getD (i.tdiv 64).toNat 0).toNat.testBit (i.toNat % 64) := by
  unfold hasW
  obtain ⟨w, hw⟩ : ∃ w : Nat, W.getD (i.tdiv 64).toNat 0 = w := ⟨_, (Int.toNat_of_nonneg hW).symm⟩
  obtain ⟨m, rfl⟩ : ∃ m : Nat, i = m := ⟨_, (Int.toNat_of_nonneg h0).symm⟩
  have e : (m : Int).tmod 64 = ((m % 64 : Nat) : Int) := by rw [Int.tmod_eq_emod_of_nonneg (by omega)]; rfl
  rw [hw, e, yfz (by omega), Int.toNat_natCast, Int.toNat_natCast, Nat.testBit_eq_decide_div_mod_eq, Nat.shiftRight_eq_div_pow]
  generalize w / 2 ^ (m % 64) = d
  rw [Int.tmod_eq_emod_of_nonneg (by omega)]
  congr 1
  apply propext
  omega
theorem yop {a b : Nat} (ha : a < 18446744073709551616) (hb : b < 18446744073709551616) : bOr .u64 (a : Int) (b : Int) = ((a ||| b : Nat) : Int) := by
  unfold bOr
  have e : (BitVec.ofInt IntKind.u64.bits (a : Int) ||| BitVec.ofInt IntKind.u64.bits (b : Int)).toNat = a ||| b := by
    show (BitVec.ofInt 64 (a : Int) ||| BitVec.ofInt 64 (b : Int) : BitVec 64).toNat = _
    rw [BitVec.toNat_or, BitVec.ofInt_natCast, BitVec.ofInt_natCast, BitVec.toNat_ofNat, BitVec.toNat_ofNat, Nat.mod_eq_of_lt (by omega), Nat.mod_eq_of_lt (by omega)]
  rw [e]
  have : a ||| b < 2 ^ 64 := Nat.or_lt_two_pow (by omega) (by omega)
  simp [IntKind.wrap, IntKind.signed, IntKind.bits]
  omega
theorem bShl_nat {k : Nat} (hk : k < 64) : bShl .u64 1 (k : Int) = ((2 ^ k : Nat) : Int) := by
  unfold bShl
  have : min (k : Int).toNat IntKind.u64.bits = k := by simp [IntKind.bits]; omega
  rw [this]
  have h : (2 : Nat) ^ k < 2 ^ 64 := Nat.pow_lt_pow_right (by decide) hk
  have h2 : (1 : Int) * 2 ^ k = ((2 ^ k : Nat) : Int) := by rw [Int.one_mul]; norm_cast
  rw [h2]
  generalize 2 ^ k = p at h ⊢
  have h3 : p < 18446744073709551616 := by simpa using h
  simp [IntKind.wrap, IntKind.signed, IntKind.bits]
  omega
theorem okW.set {W : List Int} (h : okW W) {i : Int} (h0 : 0 ≤ i) : okW (ye5 W i) ∧ ∀ j : Int, 0 ≤ j → (j.tdiv 64).toNat < W.length → hasW (ye5 W i) j = (decide (i = j) || hasW W j) := by
  have hq : (i.tmod 64) = ((i.toNat % 64 : Nat) : Int) := by rw [Int.tmod_eq_emod_of_nonneg h0]; omega
  generalize hk : (i.tdiv 64).toNat = k
  obtain ⟨w, hw⟩ : ∃ w : Nat, W.getD k 0 = w := ⟨_, (Int.toNat_of_nonneg (h k).1).symm⟩
  have hw2 : w < 18446744073709551616 := by have := (h k).2; omega
  have hp : 2 ^ (i.toNat % 64) < 18446744073709551616 := by
    have : (2 : Nat) ^ (i.toNat % 64) < 2 ^ 64 := Nat.pow_lt_pow_right (by decide) (Nat.mod_lt _ (by decide))
    simpa using this
  have hv : bOr .u64 (W.getD k 0) (bShl .u64 1 (i.tmod 64)) = ((w ||| 2 ^ (i.toNat % 64) : Nat) : Int) := by
    rw [hq, hw, bShl_nat (Nat.mod_lt _ (by decide)), yop hw2 hp]
  have hor : w ||| 2 ^ (i.toNat % 64) < 18446744073709551616 := by
    have : w ||| 2 ^ (i.toNat % 64) < 2 ^ 64 := Nat.or_lt_two_pow (by omega) (by omega)
    simpa using this
  have hs : ye5 W i = W.set k ((w ||| 2 ^ (i.toNat % 64) : Nat) : Int) := by unfold ye5; rw [hk, hv]
  have hok : okW (ye5 W i) := by
    intro j
    rw [hs]
    by_cases hj : j = k ∧ k < W.length
    · rw [hj.1, List.getD_eq_getElem?_getD, List.getElem?_set_self hj.2]; simp; omega
    · have : (W.set k ((w ||| 2 ^ (i.toNat % 64) : Nat) : Int)).getD j 0 = W.getD j 0 := by
        rw [List.getD_eq_getElem?_getD, List.getD_eq_getElem?_getD]
        by_cases hjk : k = j
        · subst hjk
          rw [List.getElem?_eq_none (by simp; omega), List.getElem?_eq_none (by omega)]
        · rw [List.getElem?_set_ne hjk]
      rw [this]; exact h j
  refine ⟨hok, fun j hj hl => ?_⟩
  rw [yes hj (hok _).1, yes hj (h _).1]
  rw [hs]
  have hjq : (j.tdiv 64).toNat = j.toNat / 64 := by rw [Int.tdiv_eq_ediv_of_nonneg hj]; omega
  have hiq : k = i.toNat / 64 := by rw [← hk, Int.tdiv_eq_ediv_of_nonneg h0]; omega
  rw [hjq] at hl ⊢
  by_cases hjk : j.toNat / 64 = k
  · rw [hjk] at hl ⊢
    rw [List.getD_eq_getElem?_getD, List.getElem?_set_self hl, Option.getD_some, Int.toNat_natCast, Nat.testBit_or, Nat.testBit_two_pow, hw, Int.toNat_natCast, Bool.or_comm]
    congr 1
    by_cases e : i = j
    · subst e; simp
    · have : i.toNat % 64 ≠ j.toNat % 64 := by omega
      simp [e, this]
  · rw [List.getD_eq_getElem?_getD, List.getElem?_set_ne (fun e => hjk e.symm), ← List.getD_eq_getElem?_getD]
    have e : i ≠ j := by rintro rfl; exact hjk hiq.symm
    simp [e]
theorem yf0 (n : Nat) : okW (List.replicate n 0) := fun i => by
  rw [List.getD_eq_getElem?_getD, List.getElem?_replicate]; split <;> simp
theorem ypw (b : List Bool) : ∀ j, j ≤ b.length → okW (setW b j) ∧ ∀ i : Nat, i < b.length → hasW (setW b j) i = (decide (i < j) && b.getD i false)
  | 0, _ => ⟨by unfold setW; exact yf0 _, fun i hi => by
      have : hasW (List.replicate (ybb b.length).toNat 0) i = false := by
        rw [yes (by omega) (yf0 _ _).1]
        have : (List.replicate (ybb b.length).toNat (0 : Int)).getD ((i : Int).tdiv 64).toNat 0 = 0 := by
          rw [List.getD_eq_getElem?_getD, List.getElem?_replicate]; split <;> rfl
        rw [this]; simp
      simpa [setW] using this⟩
  | j + 1, hj => by
    obtain ⟨h1, h2⟩ := ypw b j (by omega)
    rw [ykd]
    by_cases hb : b.getD j false = true
    · rw [if_pos hb]
      obtain ⟨h3, h4⟩ := h1.set (i := (j : Int)) (by omega)
      refine ⟨h3, fun i hi => ?_⟩
      rw [h4 i (by omega) (by rw [yji]; have := ydv (i := (i : Int)) (n := b.length) (by omega) (by omega); omega), h2 i hi]
      by_cases e : j = i
      · subst e; rw [hb]; simp
      · have : ((j : Int) = (i : Int)) = False := by simp; omega
        simp only [this, decide_false, Bool.false_or]
        congr 1
        simp; omega
    · rw [if_neg hb]
      refine ⟨h1, fun i hi => ?_⟩
      rw [h2 i hi]
      by_cases e : j = i
      · subst e
        have : b.getD j false = false := by simpa using hb
        rw [this]; simp
      · congr 1
        simp; omega
theorem setW_mem {b : List Bool} {i : Int} (h0 : 0 ≤ i) (h1 : i < b.length) : hasW (setW b b.length) i = b.getD i.toNat false := by
  obtain ⟨m, rfl⟩ : ∃ m : Nat, i = m := ⟨_, (Int.toNat_of_nonneg h0).symm⟩
  rw [(ypw b b.length (Nat.le_refl _)).2 m (by omega)]
  have : m < b.length := by omega
  simp [this]
theorem ydj {a b : Nat} (ha : a < 18446744073709551616) (hb : b < 18446744073709551616) : bAnd .u64 (a : Int) (b : Int) = ((a &&& b : Nat) : Int) := by
  unfold bAnd
  have e : (BitVec.ofInt IntKind.u64.bits (a : Int) &&& BitVec.ofInt IntKind.u64.bits (b : Int)).toNat = a &&& b := by
    show (BitVec.ofInt 64 (a : Int) &&& BitVec.ofInt 64 (b : Int) : BitVec 64).toNat = _
    rw [BitVec.toNat_and, BitVec.ofInt_natCast, BitVec.ofInt_natCast, BitVec.toNat_ofNat, BitVec.toNat_ofNat, Nat.mod_eq_of_lt (by omega), Nat.mod_eq_of_lt (by omega)]
  rw [e]
  have : a &&& b < 2 ^ 64 := Nat.and_lt_two_pow _ (by omega)
  simp [IntKind.wrap, IntKind.signed, IntKind.bits]
  omega
/-- A bit, as the program asks for it. -/
def bitW (M i : Int) : Int := bAnd .u64 (bShr .u64 M i) 1
theorem bitW_nat {m i : Nat} (hm : m < 18446744073709551616) (hi : i < 64) : bitW m i = if m.testBit i then 1 else 0 := by
  unfold bitW
  have hs : m >>> i ≤ m := by rw [Nat.shiftRight_eq_div_pow]; exact Nat.div_le_self _ _
  rw [yfz hi, show (1 : Int) = ((1 : Nat) : Int) from rfl, ydj (by omega) (by decide), Nat.and_one_is_mod, Nat.testBit_eq_decide_div_mod_eq, Nat.shiftRight_eq_div_pow]
  generalize m / 2 ^ i = d
  rcases Nat.mod_two_eq_zero_or_one d with h | h <;> simp [h]
theorem yhb (b : List Bool) : ∀ j, j ≤ b.length → okW (setW b j) ∧ ∀ i : Nat, ((i : Int).tdiv 64).toNat < (ybb b.length).toNat → hasW (setW b j) i = (decide (i < j) && b.getD i false)
  | 0, _ => ⟨by unfold setW; exact yf0 _, fun i hi => by
      have : hasW (List.replicate (ybb b.length).toNat 0) i = false := by
        rw [yes (by omega) (yf0 _ _).1]
        have : (List.replicate (ybb b.length).toNat (0 : Int)).getD ((i : Int).tdiv 64).toNat 0 = 0 := by
          rw [List.getD_eq_getElem?_getD, List.getElem?_replicate]; split <;> rfl
        rw [this]; simp
      simpa [setW] using this⟩
  | j + 1, hj => by
    obtain ⟨h1, h2⟩ := yhb b j (by omega)
    rw [ykd]
    by_cases hb : b.getD j false = true
    · rw [if_pos hb]
      obtain ⟨h3, h4⟩ := h1.set (i := (j : Int)) (by omega)
      refine ⟨h3, fun i hi => ?_⟩
      rw [h4 i (by omega) (by rw [yji]; exact hi), h2 i hi]
      by_cases e : j = i
      · subst e; rw [hb]; simp
      · have : ((j : Int) = (i : Int)) = False := by simp; omega
        simp only [this, decide_false, Bool.false_or]
        congr 1
        simp; omega
    · rw [if_neg hb]
      refine ⟨h1, fun i hi => ?_⟩
      rw [h2 i hi]
      by_cases e : j = i
      · subst e
        have : b.getD j false = false := by simpa using hb
        rw [this]; simp
      · congr 1
        simp; omega
theorem ypx {W : List Int} (hW : okW W) {i : Int} (h0 : 0 ≤ i) : decide (bAnd .u64 (bShr .u64 (W.getD (i.tdiv 64).toNat 0) (i.tmod 64)) 1 = 1) = hasW W i := by
  rw [yes h0 (hW _).1]
  obtain ⟨w, hw⟩ : ∃ w : Nat, W.getD (i.tdiv 64).toNat 0 = w := ⟨_, (Int.toNat_of_nonneg (hW _).1).symm⟩
  have hw2 := (hW (i.tdiv 64).toNat).2
  rw [hw] at hw2 ⊢
  have e : i.tmod 64 = ((i.toNat % 64 : Nat) : Int) := by rw [Int.tmod_eq_emod_of_nonneg h0]; omega
  have := bitW_nat (m := w) (i := i.toNat % 64) (by omega) (Nat.mod_lt _ (by decide))
  unfold bitW at this
  rw [e, this, Int.toNat_natCast]
  cases w.testBit (i.toNat % 64) <;> simp
def topB (N : Int) (W : List Int) : Bool := decide (N.tmod 64 = 0) || decide (bShr .u64 (W.getD (W.length - 1) 0) (N.tmod 64) = 0)
def validS (N : Int) (W : List Int) : Bool := decide (0 ≤ N) && decide (N ≤ 512) && decide ((W.length : Int) = ybb N) && topB N W
theorem yfn {N : Int} {W : List Int} (h : validS N W = true) : 0 ≤ N ∧ N ≤ 512 ∧ (W.length : Int) = ybb N := by
  simp only [validS, Bool.and_eq_true, decide_eq_true_eq] at h; exact ⟨h.1.1.1, h.1.1.2, h.1.2⟩
/-- Who says that a member is one. -/
def memS (N : Int) (W : List Int) (i : Int) : Bool := validS N W && decide (0 ≤ i) && decide (i < N) && hasW W i
theorem yig (N : Int) : (N + 63).tdiv 64 = ybb N := by unfold ybb; congr 1; omega
theorem yrf {N : Int} {W : List Int} (h0 : 0 ≤ N) (hl : (W.length : Int) = ybb N) (hm : N.tmod 64 ≠ 0) : (N.tdiv 64).toNat = W.length - 1 ∧ N.tdiv 64 < W.length := by
  unfold ybb at hl
  rw [Int.tdiv_eq_ediv_of_nonneg (by omega)] at hl ⊢
  rw [Int.tmod_eq_emod_of_nonneg h0] at hm
  omega
theorem shr_zero {w k : Nat} (h : ∀ i, k ≤ i → w.testBit i = false) : w >>> k = 0 := by
  refine Nat.eq_of_testBit_eq fun i => ?_
  rw [Nat.testBit_shiftRight, Nat.zero_testBit]
  exact h _ (by omega)
theorem yci {b : List Bool} (hb : b.length ≤ 512) : validS b.length (setW b b.length) = true := by
  obtain ⟨ho, hh⟩ := yhb b b.length (Nat.le_refl _)
  have hwn := ya8 (n := (b.length : Int)) (by omega)
  have hl := yji b b.length
  simp only [validS, Bool.and_eq_true, decide_eq_true_eq]
  refine ⟨⟨⟨by omega, by omega⟩, by rw [hl]; omega⟩, ?_⟩
  simp only [topB, Bool.or_eq_true, decide_eq_true_eq]
  by_cases hm : (b.length : Int).tmod 64 = 0
  · exact .inl hm
  · right
    have hix := yrf (N := (b.length : Int)) (W := setW b b.length) (by omega) (by rw [hl]; omega) hm
    rw [Int.tmod_eq_emod_of_nonneg (by omega)] at hm ⊢
    rw [Int.tdiv_eq_ediv_of_nonneg (by omega)] at hix
    generalize hW : setW b b.length = W at *
    have hw := ho (W.length - 1)
    obtain ⟨w, hw1⟩ : ∃ w : Nat, W.getD (W.length - 1) 0 = w := ⟨_, (Int.toNat_of_nonneg hw.1).symm⟩
    rw [hw1] at hw ⊢
    rw [show ((b.length : Int) % 64) = ((b.length % 64 : Nat) : Int) by omega, yfz (Nat.mod_lt _ (by decide)), shr_zero]
    · rfl
    · intro i hi
      by_cases h64 : i < 64
      · have hq : (((64 * (W.length - 1) + i : Nat) : Int).tdiv 64).toNat = W.length - 1 := by rw [Int.tdiv_eq_ediv_of_nonneg (by omega)]; omega
        have := hh (64 * (W.length - 1) + i) (by rw [hq]; omega)
        rw [yes (by omega) (by rw [hq, hw1]; omega), hq, hw1, Int.toNat_natCast, Int.toNat_natCast, show (64 * (W.length - 1) + i) % 64 = i by omega] at this
        rw [this]
        have : ¬ 64 * (W.length - 1) + i < b.length := by omega
        simp [this]
      · refine Nat.testBit_lt_two_pow (Nat.lt_of_lt_of_le (m := 2 ^ 64) (by simp only [zP]; omega) (Nat.pow_le_pow_right (by decide) (by omega)))
end Go.AM

/- The first that a test finds. -/
namespace Go.AM
def ixf {α : Type} (p : α → Bool) (l : List α) : Int := if l.any p then (l.findIdx p : Nat) else -1
theorem yla {α : Type} {p : α → Bool} {l : List α} {j : Nat} {x : α} (hx : l[j]? = some x) (hp : p x = true) (h : (l.take j).any p = false) : ixf p l = j := by
  obtain ⟨hj, rfl⟩ := List.getElem?_eq_some_iff.1 hx
  have h1 : l.any p = true := List.any_eq_true.2 ⟨_, List.getElem_mem hj, hp⟩
  unfold ixf
  rw [if_pos h1, (List.findIdx_eq hj).2 ⟨hp, fun i hi => ?_⟩]
  have : ¬ p (l[i]'(by omega)) = true := fun hh => by
    have : (l.take j).any p = true := List.any_eq_true.2 ⟨l[i]'(by omega), by rw [List.mem_take_iff_getElem]; exact ⟨i, by omega, rfl⟩, hh⟩
    rw [this] at h; cases h
  simpa using this
theorem yhc {α : Type} {p : α → Bool} {l : List α} (h : l.any p = false) : ixf p l = -1 := by unfold ixf; rw [if_neg (by rw [h]; simp)]
theorem yco {α : Type} {p : α → Bool} {l : List α} {j : Nat} {x : α} (hx : l[j]? = some x) : (l.take (j + 1)).any p = ((l.take j).any p || p x) := by
  obtain ⟨hj, rfl⟩ := List.getElem?_eq_some_iff.1 hx
  rw [List.take_succ_eq_append_getElem hj, List.any_append]; simp
theorem ypy {α : Type} (p : α → Bool) (l : List α) : (decide (0 ≤ ixf p l)) = l.any p := by
  unfold ixf
  cases h : l.any p <;> simp
end Go.AM

/- Sets as words, and as lists of truths. -/
namespace Go.AM
theorem yd0 {a b : List Int} (hl : a.length = b.length) (h : ∀ k, k < a.length → a.getD k 0 = b.getD k 0) : a = b := by
  refine List.ext_getElem hl fun i h1 h2 => ?_
  have := h i h1
  simpa [List.getD_eq_getElem?_getD, h1, h2] using this
theorem getD_extB {a b : List Bool} (hl : a.length = b.length) (h : ∀ k, k < a.length → a.getD k false = b.getD k false) : a = b := by
  refine List.ext_getElem hl fun i h1 h2 => ?_
  have := h i h1
  simpa [List.getD_eq_getElem?_getD, h1, h2] using this
theorem yrg (i : Nat) : ((i : Int).tdiv 64).toNat = i / 64 := by rw [Int.tdiv_eq_ediv_of_nonneg (by omega)]; omega
theorem yd1 {W : List Int} (hW : okW W) (i : Nat) : hasW W i = (W.getD (i / 64) 0).toNat.testBit (i % 64) := by
  rw [yes (by omega) (hW _).1, yrg, Int.toNat_natCast]
/-- Words are told by their bits. -/
theorem yhd {a b : List Int} (ha : okW a) (hb : okW b) (hl : a.length = b.length) (h : ∀ i : Nat, i < 64 * a.length → hasW a i = hasW b i) : a = b := by
  refine yd0 hl fun k hk => ?_
  have h1 := ha k
  have h2 := hb k
  have : (a.getD k 0).toNat = (b.getD k 0).toNat := by
    refine Nat.eq_of_testBit_eq fun i => ?_
    by_cases hi : i < 64
    · have := h (64 * k + i) (by omega)
      rw [yd1 ha, yd1 hb, show (64 * k + i) / 64 = k by omega, show (64 * k + i) % 64 = i by omega] at this
      exact this
    · have hp : 2 ^ 64 ≤ 2 ^ i := Nat.pow_le_pow_right (by decide) (by omega)
      simp only [zP] at hp
      rw [Nat.testBit_lt_two_pow (by omega), Nat.testBit_lt_two_pow (by omega)]
  omega
theorem ydb (b : List Bool) : okW (setW b b.length) := (yhb b b.length (Nat.le_refl _)).1
theorem ya1 (b : List Bool) : (setW b b.length).length = (ybb b.length).toNat := yji b b.length
theorem ycp (b : List Bool) {i : Nat} (hi : i / 64 < (setW b b.length).length) : hasW (setW b b.length) i = b.getD i false := by
  rw [ya1] at hi
  rw [(yhb b b.length (Nat.le_refl _)).2 i (by rw [yrg]; exact hi)]
  by_cases h : i < b.length
  · simp [h]
  · rw [Go.AM.getD_out (by omega)]; simp
theorem div_words {n i : Nat} (h : i < n) : i / 64 < (ybb n).toNat := by
  have := ya8 (n := (n : Int)) (by omega)
  omega
/-- A valid set is that of its members. -/
theorem yoq {N : Int} {W : List Int} (hW : okW W) (hv : validS N W = true) : ∃ b : List Bool, (b.length : Int) = N ∧ W = setW b b.length := by
  obtain ⟨h0, h1, h2⟩ := yfn hv
  have hwn := ya8 (n := N) h0
  obtain ⟨b, hb⟩ : ∃ b : List Bool, b = (List.range N.toNat).map fun i => hasW W (i : Nat) := ⟨_, rfl⟩
  have hbl : b.length = N.toNat := by rw [hb]; simp
  have hbN : (b.length : Int) = N := by omega
  refine ⟨b, hbN, yhd hW (ydb b) (by rw [ya1, hbN]; omega) fun i hi => ?_⟩
  rw [ycp b (by rw [ya1, hbN]; omega)]
  by_cases h : i < N.toNat
  · rw [hb]; simp [List.getD_eq_getElem?_getD, h]
  · rw [Go.AM.getD_out (by omega), yd1 hW]
    simp only [validS, topB, Bool.and_eq_true, Bool.or_eq_true, decide_eq_true_eq] at hv
    have ht := hv.2
    by_cases hm : N.tmod 64 = 0
    · exfalso
      rw [Int.tmod_eq_emod_of_nonneg h0] at hm
      omega
    · have ht := ht.resolve_left hm
      have hix := yrf h0 h2 hm
      rw [Int.tmod_eq_emod_of_nonneg h0] at hm ht
      have hw := hW (W.length - 1)
      rw [show N % 64 = ((N.toNat % 64 : Nat) : Int) by omega] at ht
      obtain ⟨w, hw1⟩ : ∃ w : Nat, W.getD (W.length - 1) 0 = w := ⟨_, (Int.toNat_of_nonneg hw.1).symm⟩
      rw [hw1, yfz (Nat.mod_lt _ (by decide))] at ht
      rw [Int.tdiv_eq_ediv_of_nonneg h0] at hix
      have hq : i / 64 = W.length - 1 := by omega
      rw [hq, hw1, Int.toNat_natCast]
      have hz : w >>> (N.toNat % 64) = 0 := by exact_mod_cast ht
      have := congrArg (fun x => x.testBit (i % 64 - N.toNat % 64)) hz
      simp only [Nat.testBit_shiftRight, Nat.zero_testBit] at this
      rwa [show N.toNat % 64 + (i % 64 - N.toNat % 64) = i % 64 by omega] at this
theorem ylb (W : List Int) (i : Int) : (ye5 W i).length = W.length := by simp [ye5]
theorem yno (b : List Bool) (i j : Nat) (x : Bool) : (b.set i x).getD j false = if i = j ∧ i < b.length then x else b.getD j false := by
  by_cases h : i = j
  · subst h
    by_cases h2 : i < b.length
    · rw [Go.AM.getD_set_eq h2, if_pos ⟨rfl, h2⟩]
    · rw [List.set_eq_of_length_le (by omega), if_neg (by omega)]
  · rw [Go.AM.getD_set_ne h, if_neg (by rintro ⟨a, _⟩; exact h a)]
theorem setBit_setW (b : List Bool) {i : Nat} (h : i < b.length) : ye5 (setW b b.length) (i : Int) = setW (b.set i true) b.length := by
  have h1 := (ydb b).set (i := (i : Int)) (by omega)
  have hl : (b.set i true).length = b.length := by simp
  have h2 := ydb (b.set i true)
  have h3 := fun (j : Nat) => ycp (b.set i true) (i := j)
  have h4 := ya1 (b.set i true)
  rw [hl] at h2 h3 h4
  refine yhd h1.1 h2 (by rw [ylb, ya1, h4]) fun j hj => ?_
  rw [ylb, ya1] at hj
  rw [h1.2 j (by omega) (by rw [yrg, ya1]; omega), h3 _ (by omega), ycp b (by rw [ya1]; omega), yno]
  by_cases e : i = j
  · subst e; simp [h]
  · have : ((i : Int) = (j : Int)) = False := by simp; omega
    simp [e, this]
theorem setW_zero (n : Nat) : setW (List.replicate n false) n = List.replicate (ybb n).toNat 0 := by
  have hl : (List.replicate n false).length = n := by simp
  have h2 := ydb (List.replicate n false)
  have h3 := fun (j : Nat) => ycp (List.replicate n false) (i := j)
  have h4 := ya1 (List.replicate n false)
  rw [hl] at h2 h3 h4
  refine yhd h2 (yf0 _) (by rw [h4]; simp) fun j hj => ?_
  rw [h3 _ (by omega), yd1 (yf0 _)]
  have e1 : (List.replicate n false).getD j false = false := by rw [List.getD_eq_getElem?_getD, List.getElem?_replicate]; split <;> rfl
  have e2 : (List.replicate (ybb n).toNat (0 : Int)).getD (j / 64) 0 = 0 := by rw [List.getD_eq_getElem?_getD, List.getElem?_replicate]; split <;> rfl
  rw [e1, e2]; simp
/-- A word is made of two. -/
theorem ypz (f : Int → Int → Int) {A B : List Int} (hl : A.length = B.length) {k : Nat} (hk : k < A.length) : (List.zipWith f A B).getD k 0 = f (A.getD k 0) (B.getD k 0) := by
  simp [List.getD_eq_getElem?_getD, List.getElem?_zipWith, hk, show k < B.length by omega]
theorem yjj (f : Bool → Bool → Bool) {a b : List Bool} (hl : a.length = b.length) {k : Nat} (hk : k < a.length) : (List.zipWith f a b).getD k false = f (a.getD k false) (b.getD k false) := by
  simp [List.getD_eq_getElem?_getD, List.getElem?_zipWith, hk, show k < b.length by omega]
structure BitOp (f : Int → Int → Int) (g : Bool → Bool → Bool) : Prop where
  rng : ∀ a b : Int, 0 ≤ a → a < 18446744073709551616 → 0 ≤ b → b < 18446744073709551616 → 0 ≤ f a b ∧ f a b < 18446744073709551616
  bit : ∀ (a b : Int) (i : Nat), 0 ≤ a → a < 18446744073709551616 → 0 ≤ b → b < 18446744073709551616 → i < 64 → (f a b).toNat.testBit i = g (a.toNat.testBit i) (b.toNat.testBit i)
  zer : g false false = false
theorem ynp {f : Int → Int → Int} {g : Bool → Bool → Bool} (hf : BitOp f g) {a b : List Bool} (hl : a.length = b.length) : List.zipWith f (setW a a.length) (setW b b.length) = setW (List.zipWith g a b) a.length := by
  have hzl : (List.zipWith g a b).length = a.length := by simp; omega
  have ha := ydb a
  have hb := ydb b
  have hla := ya1 a
  have hlb := ya1 b
  have h2 := ydb (List.zipWith g a b)
  have h3 := fun (j : Nat) => ycp (List.zipWith g a b) (i := j)
  have h4 := ya1 (List.zipWith g a b)
  rw [hzl] at h2 h3 h4
  have hll : (setW a a.length).length = (setW b b.length).length := by rw [hla, hlb, hl]
  have hok : okW (List.zipWith f (setW a a.length) (setW b b.length)) := fun k => by
    by_cases hk : k < (setW a a.length).length
    · rw [ypz f hll hk]
      exact hf.rng _ _ (ha k).1 (ha k).2 (hb k).1 (hb k).2
    · rw [Go.AM.getD_out (by simp; omega)]; simp
  refine yhd hok h2 (by rw [List.length_zipWith, ← hll, hla, h4]; omega) fun i hi => ?_
  simp only [List.length_zipWith] at hi
  have hia : i / 64 < (setW a a.length).length := by omega
  rw [yd1 hok, ypz f hll hia, hf.bit _ _ _ (ha _).1 (ha _).2 (hb _).1 (hb _).2 (Nat.mod_lt _ (by decide)), ← yd1 ha, ← yd1 hb, ycp a hia, ycp b (by omega), h3 _ (by omega)]
  by_cases h : i < a.length
  · rw [yjj g hl h]
  · rw [Go.AM.getD_out (by omega), Go.AM.getD_out (by omega), Go.AM.getD_out (by omega), hf.zer]
theorem yiz {a : Int} (h : 0 ≤ a) : ∃ n : Nat, a = n := ⟨a.toNat, by omega⟩
theorem bitOp_or : BitOp (bOr .u64) (· || ·) := by
  refine ⟨fun a b h1 h2 h3 h4 => ?_, fun a b i h1 h2 h3 h4 _ => ?_, rfl⟩
  · obtain ⟨m, rfl⟩ := yiz h1; obtain ⟨n, rfl⟩ := yiz h3
    rw [yop (by omega) (by omega)]
    have : m ||| n < 2 ^ 64 := Nat.or_lt_two_pow (by omega) (by omega)
    simp only [zP] at this; omega
  · obtain ⟨m, rfl⟩ := yiz h1; obtain ⟨n, rfl⟩ := yiz h3
    rw [yop (by omega) (by omega), Int.toNat_natCast, Nat.testBit_or]; rfl
theorem ylc {a b : Nat} (ha : a < 18446744073709551616) (hb : b < 18446744073709551616) : ygl .u64 (a : Int) (b : Int) = ((BitVec.ofNat 64 a &&& ~~~ BitVec.ofNat 64 b).toNat : Int) := by
  unfold ygl
  have e : (BitVec.ofInt IntKind.u64.bits (a : Int) &&& ~~~ BitVec.ofInt IntKind.u64.bits (b : Int)).toNat = (BitVec.ofNat 64 a &&& ~~~ BitVec.ofNat 64 b).toNat := by
    show (BitVec.ofInt 64 (a : Int) &&& ~~~ BitVec.ofInt 64 (b : Int) : BitVec 64).toNat = _
    rw [BitVec.ofInt_natCast, BitVec.ofInt_natCast]
  rw [e]
  have := (BitVec.ofNat 64 a &&& ~~~ BitVec.ofNat 64 b).isLt
  generalize (BitVec.ofNat 64 a &&& ~~~ BitVec.ofNat 64 b).toNat = x at *
  simp only [zP] at this
  simp [IntKind.wrap, IntKind.signed, IntKind.bits]
  omega
theorem bitOp_andNot : BitOp (ygl .u64) (fun x y => x && !y) := by
  refine ⟨fun a b h1 h2 h3 h4 => ?_, fun a b i h1 h2 h3 h4 hi => ?_, rfl⟩
  · obtain ⟨m, rfl⟩ := yiz h1; obtain ⟨n, rfl⟩ := yiz h3
    rw [ylc (by omega) (by omega)]
    have := (BitVec.ofNat 64 m &&& ~~~ BitVec.ofNat 64 n).isLt
    simp only [zP] at this; omega
  · obtain ⟨m, rfl⟩ := yiz h1; obtain ⟨n, rfl⟩ := yiz h3
    rw [ylc (by omega) (by omega), Int.toNat_natCast, BitVec.testBit_toNat, BitVec.getLsbD_and, BitVec.getLsbD_not, BitVec.getLsbD_ofNat, BitVec.getLsbD_ofNat]
    simp [hi]
end Go.AM

/- Relations as tables of truths. -/
namespace Go.AM
def rowV (x : USet) : List AV := [.int .i64 x.N, .rsl 1 (words x.W)]
def rowB (b : List Bool) : List AV := [.int .i64 b.length, .rsl 1 (words (setW b b.length))]
def rowO (b : List Bool) : List AV := [.int .i64 b.length, .osl 1 (words (setW b b.length))]
def tabR (t : List (List Bool)) : List (List AV) := t.map rowB
def tabO (t : List (List Bool)) : List (List AV) := t.map rowO
def SB (b : List Bool) : USet := ⟨b.length, setW b b.length⟩
theorem tabR_SB (t : List (List Bool)) : tabR t = (t.map SB).map rowV := by simp [tabR, rowB, SB, rowV]
def relB (t : List (List Bool)) : AV := .agg [.rsl 2 (tabR t)]
def relV (rs : List USet) : AV := .agg [.rsl 2 (rs.map rowV)]
theorem yih (t : List (List Bool)) : relB t = relV (t.map SB) := by rw [relB, relV, tabR_SB]
structure Sq (n : Nat) (t : List (List Bool)) : Prop where
  len : t.length = n
  row : ∀ b ∈ t, b.length = n
def rowT (t : List (List Bool)) (i : Nat) : List Bool := t.getD i []
def atT (t : List (List Bool)) (i j : Nat) : Bool := (rowT t i).getD j false
theorem Sq.rowLen {n : Nat} {t : List (List Bool)} (h : Sq n t) {i : Nat} (hi : i < n) : (rowT t i).length = n := h.row _ (yb1 (by rw [h.len]; exact hi) _)
theorem Sq.set {n : Nat} {t : List (List Bool)} (h : Sq n t) (i : Nat) {b : List Bool} (hb : b.length = n) : Sq n (t.set i b) :=
  ⟨by simp [h.len], fun c hc => by rcases List.mem_or_eq_of_mem_set hc with h1 | h1; exact h.row c h1; rw [h1, hb]⟩
theorem Sq.rep (n : Nat) : Sq n (List.replicate n (List.replicate n false)) := ⟨by simp, fun b hb => by rw [List.eq_of_mem_replicate hb]; simp⟩
theorem yl0 (t : List (List Bool)) (i k : Nat) (b : List Bool) : rowT (t.set i b) k = if i = k ∧ i < t.length then b else rowT t k := by
  unfold rowT
  by_cases h : i = k
  · subst h
    by_cases h2 : i < t.length
    · rw [Go.AM.getD_set_eq h2, if_pos ⟨rfl, h2⟩]
    · rw [List.set_eq_of_length_le (by omega), if_neg (by omega)]
  · rw [Go.AM.getD_set_ne h, if_neg (by rintro ⟨a, _⟩; exact h a)]
theorem yl1 {t : List (List Bool)} {i : Nat} {b : List Bool} (h : t[i]? = some b) : rowT t i = b := getD_of h _
theorem yjk {t : List (List Bool)} {i : Nat} (h : i < t.length) : t[i]? = some (rowT t i) := by unfold rowT; simp [List.getD_eq_getElem?_getD, h]
theorem atT_rep (n i j : Nat) : atT (List.replicate n (List.replicate n false)) i j = false := by
  unfold atT rowT
  rw [List.getD_eq_getElem?_getD (l := List.replicate n (List.replicate n false)), List.getElem?_replicate]
  split
  · simp only [Option.getD_some]; rw [List.getD_eq_getElem?_getD, List.getElem?_replicate]; split <;> rfl
  · rfl
theorem yrh {n : Nat} {t u : List (List Bool)} (ht : Sq n t) (hu : Sq n u) (h : ∀ i j, i < n → j < n → atT t i j = atT u i j) : t = u := by
  refine List.ext_getElem (by rw [ht.len, hu.len]) fun i h1 h2 => ?_
  have hi : i < n := by rw [← ht.len]; exact h1
  have e1 : rowT t i = t[i] := yl1 (List.getElem?_eq_getElem h1)
  have e2 : rowT u i = u[i] := yl1 (List.getElem?_eq_getElem h2)
  rw [← e1, ← e2]
  refine getD_extB (by rw [ht.rowLen hi, hu.rowLen hi]) fun k hk => h i k hi (by rw [ht.rowLen hi] at hk; exact hk)
def yc9 (rs : List USet) : Bool := decide (rs.length ≤ 512) && rs.all fun x => decide (x.N = rs.length) && validS x.N x.W
theorem yri {α β : Type} {f : α → β} {p : α → Prop} : ∀ {l : List β}, (∀ x ∈ l, ∃ a, x = f a ∧ p a) → ∃ m : List α, l = m.map f ∧ ∀ a ∈ m, p a
  | [], _ => ⟨[], rfl, fun _ h => by cases h⟩
  | x :: l, h => by
    obtain ⟨a, rfl, ha⟩ := h x (List.mem_cons_self ..)
    obtain ⟨m, rfl, hm⟩ := yri fun y hy => h y (List.mem_cons_of_mem _ hy)
    exact ⟨a :: m, rfl, fun b hb => by rcases List.mem_cons.1 hb with rfl | hb; exact ha; exact hm b hb⟩
/-- A valid relation is a table. -/
theorem ysk {rs : List USet} (hok : ∀ x ∈ rs, okW x.W) (hv : yc9 rs = true) : ∃ t, rs = t.map SB ∧ Sq rs.length t ∧ rs.length ≤ 512 := by
  simp only [yc9, Bool.and_eq_true, decide_eq_true_eq, List.all_eq_true] at hv
  obtain ⟨h1, h2⟩ := hv
  obtain ⟨t, ht, hb⟩ := yri (f := SB) (p := fun b => b.length = rs.length) (l := rs) fun x hx => by
    obtain ⟨b, g1, g2⟩ := yoq (hok x hx) (h2 x hx).2
    have := (h2 x hx).1
    refine ⟨b, ?_, by omega⟩
    obtain ⟨N, W⟩ := x
    simp only [SB] at *
    rw [g1, g2]
  exact ⟨t, ht, ⟨by rw [ht]; simp, hb⟩, h1⟩
theorem ynq {n : Nat} {t : List (List Bool)} (h : Sq n t) (hn : n ≤ 512) : yc9 (t.map SB) = true := by
  simp only [yc9, Bool.and_eq_true, decide_eq_true_eq, List.all_eq_true, List.length_map, h.len]
  refine ⟨hn, fun x hx => ?_⟩
  obtain ⟨b, hb, rfl⟩ := List.mem_map.1 hx
  have hbl := h.row b hb
  exact ⟨by simp [SB, hbl], yci (by omega)⟩
section
variable (s : yao) (d : Nat) (m : Ref → Option Ref)
theorem yl2 (t : List (List Bool)) : (tabO t).map (fun cs => cs.map (vwc s (d + 1))) = tabR t := by simp [tabO, tabR, rowO, rowB, yon, yj9, ypu]
theorem vwcF_tabO (t : List (List Bool)) : (tabO t).map (fun cs => cs.map (vwcF s (d + 1))) = tabR t := by simp [tabO, tabR, rowO, rowB, yjh, yg8, ynm]
theorem yas (t : List (List Bool)) : (tabO t).map (fun row => row.map (renC m d)) = tabO t := by simp [tabO, rowO, renC, yie, ynn]
end
theorem yb2 (t : List (List Bool)) : (tabO t).length = t.length := by simp [tabO]
theorem ybt (t : List (List Bool)) : (tabR t).length = t.length := by simp [tabR]
theorem yf1 {t : List (List Bool)} {i : Nat} (h : i < t.length) : (tabO t).getD i [] = rowO (rowT t i) := getV (yjk h)
theorem yeu {t : List (List Bool)} {i : Nat} (h : i < t.length) : (tabR t).getD i [] = rowB (rowT t i) := getV (yjk h)
theorem yl3 (t : List (List Bool)) (i : Nat) (b : List Bool) : (tabO t).set i (rowO b) = tabO (t.set i b) := by simp [tabO, List.map_set]
theorem tabO_app (t : List (List Bool)) (b : List Bool) : tabO t ++ [rowO b] = tabO (t ++ [b]) := by simp [tabO]
theorem yl4 {b : List Bool} {j : Nat} (h : j < b.length) : hasW (setW b b.length) (j : Int) = b.getD j false := ycp b (by rw [ya1]; exact div_words h)
/-! ### Truths in rows, for the reference. -/
def yii (t : List (List Bool)) : List (List AV) := t.map fun b => [.rsl 1 (ybc b)]
def ygx (t : List (List Bool)) : List (List AV) := t.map fun b => [.osl 1 (ybc b)]
section
variable (s : yao) (d : Nat) (m : Ref → Option Ref)
end
theorem ynr (t : List (List Bool)) : (ygx t).length = t.length := by simp [ygx]
theorem yns (t : List (List Bool)) : (yii t).length = t.length := by simp [yii]
theorem yke {t : List (List Bool)} {i : Nat} (h : i < t.length) : (yii t).getD i [] = [.rsl 1 (ybc (rowT t i))] := getV (f := fun b => [AV.rsl 1 (ybc b)]) (yjk h)
theorem rowsO_app (t : List (List Bool)) (b : List Bool) : ygx t ++ [[.osl 1 (ybc b)]] = ygx (t ++ [b]) := by simp [ygx]
end Go.AM

/- Counting the bits of a word, and finding the lowest one. -/
namespace Go.AM
theorem yhe {r s a b : Nat} (hr : r < 256) (hs : s < 256) : (r + 256 * a) &&& (s + 256 * b) = (r &&& s) + 256 * (a &&& b) := by
  apply Nat.eq_of_testBit_eq
  intro i
  have h1 := Nat.testBit_two_pow_mul_add a (i := 8) (b := r) hr i
  have h2 := Nat.testBit_two_pow_mul_add b (i := 8) (b := s) hs i
  have h3 := Nat.testBit_two_pow_mul_add (a &&& b) (i := 8) (b := r &&& s) (Nat.lt_of_le_of_lt Nat.and_le_left hr) i
  rw [show r + 256 * a = 2 ^ 8 * a + r by omega, show s + 256 * b = 2 ^ 8 * b + s by omega, show (r &&& s) + 256 * (a &&& b) = 2 ^ 8 * (a &&& b) + (r &&& s) by omega, Nat.testBit_and, h1, h2, h3]
  split <;> simp [Nat.testBit_and]
def byv : List Nat → Nat
  | [] => 0
  | r :: l => r + 256 * byv l
def g1 (r : Nat) : Nat := (r >>> 1 &&& 0x55) + (r &&& 0x55)
def g2 (r : Nat) : Nat := (r >>> 2 &&& 0x33) + (r &&& 0x33)
def g3 (r : Nat) : Nat := (r >>> 4 + r) &&& 0x0f
def f1 (M x : Nat) : Nat := (x >>> 1 &&& M) + (x &&& M)
def f2 (M x : Nat) : Nat := (x >>> 2 &&& M) + (x &&& M)
def f3 (M x : Nat) : Nat := (x >>> 4 + x) &&& M
def popB (r : Nat) : Nat := ((List.range 8).filter fun j => r.testBit j).length
theorem b1 : ∀ r, r < 256 → ∀ c, c < 2 → (r >>> 1 + 128 * c) &&& 0x55 = r >>> 1 &&& 0x55 := by decide +kernel
theorem b2 : ∀ r, r < 256 → ∀ c, c < 4 → (r >>> 2 + 64 * c) &&& 0x33 = r >>> 2 &&& 0x33 := by decide +kernel
theorem b3 : ∀ r, r < 69 → ∀ c, c < 5 → r >>> 4 ≤ 4 → (r >>> 4 + 16 * c + r) &&& 0x0f = (r >>> 4 + r) &&& 0x0f ∧ r >>> 4 + 16 * c + r < 256 := by decide +kernel
theorem bg1 : ∀ r, r < 256 → g1 r < 256 := by decide +kernel
theorem bg2 : ∀ r, r < 256 → g2 (g1 r) < 69 ∧ g2 (g1 r) % 16 < 5 := by decide +kernel
theorem bg3 : ∀ r, r < 256 → g3 (g2 (g1 r)) = popB r ∧ popB r ≤ 8 := by decide +kernel
theorem ysl : ∀ l : List Nat, (∀ r ∈ l, r < 256) → f1 (byv (l.map fun _ => 0x55)) (byv l) = byv (l.map g1)
  | [], _ => rfl
  | r :: l, h => by
    have ih := ysl l fun x hx => h x (by simp [hx])
    have hr := h r (by simp)
    generalize hm : byv (l.map fun _ => 0x55) = m at ih
    generalize ha : byv l = a at ih
    show ((r + 256 * byv l) >>> 1 &&& (0x55 + 256 * byv (l.map fun _ => 0x55))) + ((r + 256 * byv l) &&& (0x55 + 256 * byv (l.map fun _ => 0x55))) = g1 r + 256 * byv (l.map g1)
    rw [hm, ha, ← ih]
    have e : (r + 256 * a) >>> 1 = (r >>> 1 + 128 * (a % 2)) + 256 * (a >>> 1) := by simp only [Nat.shiftRight_eq_div_pow]; omega
    have hb := b1 r hr (a % 2) (Nat.mod_lt _ (by decide))
    have hl : r >>> 1 + 128 * (a % 2) < 256 := by simp only [Nat.shiftRight_eq_div_pow]; omega
    rw [e, yhe hl (by decide), yhe hr (by decide), hb]
    unfold f1 g1; omega
theorem ysm : ∀ l : List Nat, (∀ r ∈ l, r < 256) → f2 (byv (l.map fun _ => 0x33)) (byv l) = byv (l.map g2)
  | [], _ => rfl
  | r :: l, h => by
    have ih := ysm l fun x hx => h x (by simp [hx])
    have hr := h r (by simp)
    generalize hm : byv (l.map fun _ => 0x33) = m at ih
    generalize ha : byv l = a at ih
    show ((r + 256 * byv l) >>> 2 &&& (0x33 + 256 * byv (l.map fun _ => 0x33))) + ((r + 256 * byv l) &&& (0x33 + 256 * byv (l.map fun _ => 0x33))) = g2 r + 256 * byv (l.map g2)
    rw [hm, ha, ← ih]
    have e : (r + 256 * a) >>> 2 = (r >>> 2 + 64 * (a % 4)) + 256 * (a >>> 2) := by simp only [Nat.shiftRight_eq_div_pow]; omega
    have hb := b2 r hr (a % 4) (Nat.mod_lt _ (by decide))
    have hl : r >>> 2 + 64 * (a % 4) < 256 := by simp only [Nat.shiftRight_eq_div_pow]; omega
    rw [e, yhe hl (by decide), yhe hr (by decide), hb]
    unfold f2 g2; omega
theorem byv_mod : ∀ l : List Nat, (∀ r ∈ l, r % 16 < 5) → byv l % 16 < 5
  | [], _ => by decide
  | r :: l, h => by
    have := h r (by simp)
    show (r + 256 * byv l) % 16 < 5
    omega
theorem ysn : ∀ l : List Nat, (∀ r ∈ l, r < 69 ∧ r % 16 < 5) → f3 (byv (l.map fun _ => 0x0f)) (byv l) = byv (l.map g3)
  | [], _ => rfl
  | r :: l, h => by
    have ih := ysn l fun x hx => h x (by simp [hx])
    have hr := (h r (by simp)).1
    have hmod := byv_mod l fun x hx => (h x (by simp [hx])).2
    generalize hm : byv (l.map fun _ => 0x0f) = m at ih
    generalize ha : byv l = a at ih hmod
    show ((r + 256 * byv l) >>> 4 + (r + 256 * byv l)) &&& (0x0f + 256 * byv (l.map fun _ => 0x0f)) = g3 r + 256 * byv (l.map g3)
    rw [hm, ha, ← ih]
    have hr4 : r >>> 4 ≤ 4 := by simp only [Nat.shiftRight_eq_div_pow]; omega
    have e : (r + 256 * a) >>> 4 + (r + 256 * a) = (r >>> 4 + 16 * (a % 16) + r) + 256 * (a >>> 4 + a) := by simp only [Nat.shiftRight_eq_div_pow]; omega
    obtain ⟨hb, hl⟩ := b3 r hr (a % 16) hmod hr4
    rw [e, yhe hl (by decide), hb]
    rfl
theorem sum8 (a b c d e f g h : Nat) (ha : a ≤ 8) (hb : b ≤ 8) (hc : c ≤ 8) (hd : d ≤ 8) (he : e ≤ 8) (hf : f ≤ 8) (hg : g ≤ 8) (hh : h ≤ 8) (y y1 y2 y3 : Nat) (hy : y = byv [a, b, c, d, e, f, g, h])
    (h1 : y1 = y + y / 256) (h2 : y2 = y1 + y1 / 65536) (h3 : y3 = y2 + y2 / 4294967296) : y3 % 128 = a + b + c + d + e + f + g + h ∧ y3 < 18446744073709551616 := by
  simp only [byv, Nat.mul_zero, Nat.add_zero] at hy
  have e1 : y / 256 = b + 256 * (c + 256 * (d + 256 * (e + 256 * (f + 256 * (g + 256 * h))))) := by omega
  have e2 : y1 = (a + b) + 256 * ((b + c) + 256 * ((c + d) + 256 * ((d + e) + 256 * ((e + f) + 256 * ((f + g) + 256 * ((g + h) + 256 * h)))))) := by rw [h1, e1, hy]; omega
  clear h1 e1 hy
  have e3 : y1 / 65536 = (c + d) + 256 * ((d + e) + 256 * ((e + f) + 256 * ((f + g) + 256 * ((g + h) + 256 * h)))) := by omega
  have e4 : y2 = (a + b + c + d) + 256 * ((b + c + d + e) + 256 * ((c + d + e + f) + 256 * ((d + e + f + g) + 256 * ((e + f + g + h) + 256 * ((f + g + h) + 256 * ((g + h) + 256 * h)))))) := by rw [h2, e3, e2]; omega
  clear h2 e2 e3
  have e5 : y2 / 4294967296 = (e + f + g + h) + 256 * ((f + g + h) + 256 * ((g + h) + 256 * h)) := by omega
  have e6 : y3 = (a + b + c + d + e + f + g + h) + 256 * ((b + c + d + e + f + g + h) + 256 * ((c + d + e + f + g + h) + 256 * ((d + e + f + g + h) + 256 * ((e + f + g + h) + 256 * ((f + g + h) + 256 * ((g + h) + 256 * h)))))) := by rw [h3, e5, e4]; omega
  clear h3 e4 e5
  omega
/-- The bits of a word. -/
def yf9 (x : Nat) : List Nat := (List.range 64).filter fun j => x.testBit j
def ydw (x : Nat) : List Nat := (List.range 8).map fun k => x / 256 ^ k % 256
theorem ykf (x : Nat) : ydw x = [x % 256, x / 256 % 256, x / 65536 % 256, x / 16777216 % 256, x / 4294967296 % 256, x / 1099511627776 % 256, x / 281474976710656 % 256, x / 72057594037927936 % 256] := by
  simp [ydw, List.range_succ]
theorem byv_bytes {x : Nat} (h : x < 18446744073709551616) : byv (ydw x) = x := by
  rw [ykf]; simp only [byv]; omega
theorem ye6 (p : Nat → Bool) (a : Nat) : ∀ b, ((List.range (a + b)).filter p).length = ((List.range a).filter p).length + ((List.range b).filter fun j => p (a + j)).length
  | 0 => by simp
  | b + 1 => by
    rw [← Nat.add_assoc, List.range_succ, List.filter_append, List.length_append, ye6 p a b, List.range_succ, List.filter_append, List.length_append]
    have e : ([a + b].filter p).length = ([b].filter fun j => p (a + j)).length := by
      simp only [List.filter_cons, List.filter_nil]; cases p (a + b) <;> rfl
    omega
theorem popB_byte (x k : Nat) : popB (x / 256 ^ k % 256) = ((List.range 8).filter fun j => x.testBit (8 * k + j)).length := by
  unfold popB
  congr 1
  refine List.filter_congr fun j hj => ?_
  have hj := List.mem_range.1 hj
  rw [show (256 : Nat) = 2 ^ 8 by rfl, Nat.testBit_mod_two_pow, ← Nat.pow_mul, Nat.testBit_div_two_pow]
  simp [hj]; congr 1; omega
theorem bitsW_len (x : Nat) : (yf9 x).length = ((ydw x).map popB).sum := by
  have e : (ydw x).map popB = (List.range 8).map fun k => ((List.range 8).filter fun j => x.testBit (8 * k + j)).length := by
    unfold ydw; rw [List.map_map]; refine List.map_congr_left fun k _ => popB_byte x k
  rw [e]
  have h := fun k => ye6 (fun j => x.testBit j) (8 * k) 8
  generalize hd : (fun k => ((List.range 8).filter fun j => x.testBit (8 * k + j)).length) = d
  have hdk : ∀ k, ((List.range 8).filter fun j => x.testBit (8 * k + j)).length = d k := fun k => by rw [← hd]
  generalize hc : (fun m => ((List.range m).filter fun j => x.testBit j).length) = c
  have hck : ∀ m, ((List.range m).filter fun j => x.testBit j).length = c m := fun m => by rw [← hc]
  have h' : ∀ k, c (8 * k + 8) = c (8 * k) + d k := fun k => by rw [← hck, ← hck, ← hdk]; exact h k
  have h0 : c 8 = c 0 + d 0 := h' 0
  have h1 : c 16 = c 8 + d 1 := h' 1
  have h2 : c 24 = c 16 + d 2 := h' 2
  have h3 : c 32 = c 24 + d 3 := h' 3
  have h4 : c 40 = c 32 + d 4 := h' 4
  have h5 : c 48 = c 40 + d 5 := h' 5
  have h6 : c 56 = c 48 + d 6 := h' 6
  have h7 : c 64 = c 56 + d 7 := h' 7
  have hz : c 0 = 0 := by rw [← hck]; rfl
  have hs : ((List.range 8).map d).sum = d 0 + d 1 + d 2 + d 3 + d 4 + d 5 + d 6 + d 7 := by
    show d 0 + (d 1 + (d 2 + (d 3 + (d 4 + (d 5 + (d 6 + (d 7 + 0))))))) = _
    omega
  rw [hs]
  show ((List.range 64).filter fun j => x.testBit j).length = _
  rw [hck]; omega
/-- What the counting computes. -/
def popN (x : Nat) : Nat :=
  let a := f1 0x5555555555555555 x
  let b := f2 0x3333333333333333 a
  let y := f3 0x0f0f0f0f0f0f0f0f b
  let y1 := y + y / 256
  let y2 := y1 + y1 / 65536
  (y2 + y2 / 4294967296) % 128
theorem yso {B : Nat} : ∀ l : List Nat, (∀ r ∈ l, r ≤ B) → byv l ≤ B * byv (l.map fun _ => 1)
  | [], _ => Nat.le_refl _
  | r :: l, h => by
    have ih := yso l fun x hx => h x (by simp [hx])
    have hr := h r (by simp)
    show r + 256 * byv l ≤ B * (1 + 256 * byv (l.map fun _ => 1))
    rw [Nat.mul_add, Nat.mul_one, Nat.mul_left_comm]
    omega
theorem yor {B a b c d e f g h : Nat} (ha : a ≤ B) (hb : b ≤ B) (hc : c ≤ B) (hd : d ≤ B) (he : e ≤ B) (hf : f ≤ B) (hg : g ≤ B) (hh : h ≤ B) : byv [a, b, c, d, e, f, g, h] ≤ B * 72340172838076673 := by
  have := yso (B := B) [a, b, c, d, e, f, g, h] fun r hr => by
    simp only [List.mem_cons, List.not_mem_nil, or_false] at hr
    rcases hr with rfl | rfl | rfl | rfl | rfl | rfl | rfl | rfl <;> assumption
  have e : byv ([a, b, c, d, e, f, g, h].map fun _ => 1) = 72340172838076673 := by simp [byv]
  rw [e] at this; exact this
theorem ynt {x : Nat} (h : x < 18446744073709551616) : f1 0x5555555555555555 x < 18446744073709551616 ∧ f2 0x3333333333333333 (f1 0x5555555555555555 x) < 5000000000000000000 ∧ f3 0x0f0f0f0f0f0f0f0f (f2 0x3333333333333333 (f1 0x5555555555555555 x)) ≤ 578721382704613384 ∧ popN x = (yf9 x).length := by
  have hl : (ydw x).length = 8 := by simp [ydw]
  have hb : ∀ r ∈ ydw x, r < 256 := fun r hr => by
    simp only [ydw, List.mem_map] at hr
    obtain ⟨k, _, rfl⟩ := hr
    exact Nat.mod_lt _ (by decide)
  have hv := byv_bytes h
  have hm : ∀ (l : List Nat) (c : Nat), l.length = 8 → byv (l.map fun _ => c) = byv [c, c, c, c, c, c, c, c] := fun l c hl => by
    rw [List.map_const', hl]; rfl
  have e1 := ysl (ydw x) hb
  rw [hm _ _ hl, hv, show byv [0x55, 0x55, 0x55, 0x55, 0x55, 0x55, 0x55, 0x55] = 0x5555555555555555 by decide] at e1
  have e2 := ysm ((ydw x).map g1) fun r hr => by
    obtain ⟨s, hs, rfl⟩ := List.mem_map.1 hr
    exact bg1 s (hb s hs)
  rw [hm _ _ (by simp [hl]), ← e1, show byv [0x33, 0x33, 0x33, 0x33, 0x33, 0x33, 0x33, 0x33] = 0x3333333333333333 by decide, List.map_map] at e2
  have e3 := ysn ((ydw x).map (g2 ∘ g1)) fun r hr => by
    obtain ⟨s, hs, rfl⟩ := List.mem_map.1 hr
    exact bg2 s (hb s hs)
  rw [hm _ _ (by simp [hl]), ← e2, show byv [0x0f, 0x0f, 0x0f, 0x0f, 0x0f, 0x0f, 0x0f, 0x0f] = 0x0f0f0f0f0f0f0f0f by decide, List.map_map] at e3
  have e4 : (ydw x).map (g3 ∘ g2 ∘ g1) = (ydw x).map popB := List.map_congr_left fun r hr => (bg3 r (hb r hr)).1
  rw [e4] at e3
  rw [ykf] at e1 e2 e3 hb
  simp only [List.mem_cons, List.not_mem_nil, or_false, forall_eq_or_imp, forall_eq] at hb
  obtain ⟨c0, c1, c2, c3, c4, c5, c6, c7⟩ := hb
  have hlen := bitsW_len x
  rw [ykf] at hlen
  simp only [List.map_cons, List.map_nil, List.sum_cons, List.sum_nil] at e1 e2 e3 hlen
  have p0 := (bg3 _ c0).2; have p1 := (bg3 _ c1).2; have p2 := (bg3 _ c2).2; have p3 := (bg3 _ c3).2; have p4 := (bg3 _ c4).2; have p5 := (bg3 _ c5).2; have p6 := (bg3 _ c6).2; have p7 := (bg3 _ c7).2
  have q0 := (bg2 _ c0).1; have q1 := (bg2 _ c1).1; have q2 := (bg2 _ c2).1; have q3 := (bg2 _ c3).1; have q4 := (bg2 _ c4).1; have q5 := (bg2 _ c5).1; have q6 := (bg2 _ c6).1; have q7 := (bg2 _ c7).1
  have r0 := bg1 _ c0; have r1 := bg1 _ c1; have r2 := bg1 _ c2; have r3 := bg1 _ c3; have r4 := bg1 _ c4; have r5 := bg1 _ c5; have r6 := bg1 _ c6; have r7 := bg1 _ c7
  refine ⟨by rw [e1]; exact Nat.lt_of_le_of_lt (yor (B := 255) (Nat.le_of_lt_succ r0) (Nat.le_of_lt_succ r1) (Nat.le_of_lt_succ r2) (Nat.le_of_lt_succ r3) (Nat.le_of_lt_succ r4) (Nat.le_of_lt_succ r5) (Nat.le_of_lt_succ r6) (Nat.le_of_lt_succ r7)) (by decide), by rw [e2]; exact Nat.lt_of_le_of_lt (yor (B := 68) (Nat.le_of_lt_succ q0) (Nat.le_of_lt_succ q1) (Nat.le_of_lt_succ q2) (Nat.le_of_lt_succ q3) (Nat.le_of_lt_succ q4) (Nat.le_of_lt_succ q5) (Nat.le_of_lt_succ q6) (Nat.le_of_lt_succ q7)) (by decide), by rw [e3]; exact Nat.le_trans (yor (B := 8) p0 p1 p2 p3 p4 p5 p6 p7) (by decide), ?_⟩
  have := (sum8 _ _ _ _ _ _ _ _ p0 p1 p2 p3 p4 p5 p6 p7 _ _ _ _ e3 rfl rfl rfl).1
  rw [hlen]
  show _ % 128 = _
  rw [this]
  simp only [Nat.add_zero, Nat.add_assoc]
end Go.AM

/- The lowest bit of a word, and the bits one after another. -/
namespace Go.AM
theorem ynu : ∀ (n x : Nat), x ≤ n → x ≠ 0 → ∃ k m, x = 2 ^ k * (2 * m + 1)
  | 0, x, h, h0 => absurd (Nat.le_zero.1 h) h0
  | n + 1, x, h, h0 => by
    by_cases ho : x % 2 = 1
    · exact ⟨0, x / 2, by omega⟩
    · obtain ⟨k, m, e⟩ := ynu n (x / 2) (by omega) (by omega)
      exact ⟨k + 1, m, by rw [Nat.pow_succ, Nat.mul_comm (2 ^ k) 2, Nat.mul_assoc, ← e]; omega⟩
theorem ysp {k m : Nat} (h : 2 ^ k * (2 * m + 1) < 18446744073709551616) : k < 64 := by
  rcases Nat.lt_or_ge k 64 with h1 | h1
  · exact h1
  · have h2 : 2 ^ 64 ≤ 2 ^ k := Nat.pow_le_pow_right (by decide) h1
    have h3 : 2 ^ k * 1 ≤ 2 ^ k * (2 * m + 1) := Nat.mul_le_mul_left _ (by omega)
    have : (2 : Nat) ^ 64 = 18446744073709551616 := by decide
    omega
theorem yl5 (m i : Nat) : (2 * m + 1).testBit i = if i = 0 then true else (2 * m).testBit i := by
  cases i with
  | zero => simp
  | succ i => simp [Nat.testBit_succ]; congr 1; omega
theorem land_neg {k m : Nat} (h : 2 ^ k * (2 * m + 1) < 18446744073709551616) : (2 ^ k * (2 * m + 1)) &&& (18446744073709551616 - 2 ^ k * (2 * m + 1)) = 2 ^ k := by
  have hk := ysp h
  have e : (18446744073709551616 : Nat) = 2 ^ k * 2 ^ (64 - k) := by rw [← Nat.pow_add, show k + (64 - k) = 64 by omega]
  have hlt : 2 * m + 1 < 2 ^ (64 - k) := by
    rw [e] at h; exact Nat.lt_of_mul_lt_mul_left h
  have e2 : 18446744073709551616 - 2 ^ k * (2 * m + 1) = 2 ^ k * (2 ^ (64 - k) - (2 * m + 1)) := by rw [e, Nat.mul_sub]
  rw [e2]
  apply Nat.eq_of_testBit_eq
  intro i
  rw [Nat.testBit_and, Nat.testBit_two_pow_mul, Nat.testBit_two_pow_mul, Nat.testBit_two_pow, Nat.testBit_two_pow_sub_succ (by omega), yl5]
  by_cases h1 : i ≥ k
  · by_cases h2 : i - k = 0
    · have : k = i := by omega
      subst this
      simp; omega
    · have : ¬ k = i := by omega
      simp [h1, h2, this]
      intro a _; exact a
  · have : ¬ k = i := by omega
    simp [h1, this]
theorem ynv (k m : Nat) : (2 ^ k * (2 * m + 1)) &&& (2 ^ k * (2 * m + 1) - 1) = 2 ^ k * (2 * m) := by
  have hp : 0 < 2 ^ k := Nat.two_pow_pos k
  have e : 2 ^ k * (2 * m + 1) - 1 = 2 ^ k * (2 * m) + (2 ^ k - 1) := by rw [Nat.mul_add, Nat.mul_one]; omega
  rw [e]
  apply Nat.eq_of_testBit_eq
  intro i
  rw [Nat.testBit_and, Nat.testBit_two_pow_mul, Nat.testBit_two_pow_mul_add _ (by omega), Nat.testBit_two_pow_mul, yl5]
  by_cases h1 : i ≥ k
  · have : ¬ i < k := by omega
    by_cases h2 : i - k = 0
    · simp [h1, h2, this]
    · simp [h1, h2, this]
  · simp [h1]
theorem yi0 {p : Nat → Bool} {k : Nat} (h : ∀ j, j < k → p j = false) (hk : p k = true) : ∀ n, k < n → (List.range n).filter p = k :: (List.range n).filter fun j => p j && decide (j ≠ k)
  | 0, hn => by omega
  | n + 1, hn => by
    rw [List.range_succ, List.filter_append, List.filter_append]
    by_cases e : k = n
    · subst e
      have h1 : (List.range k).filter p = [] := List.filter_eq_nil_iff.2 fun j hj => by rw [h j (List.mem_range.1 hj)]; simp
      have h2 : (List.range k).filter (fun j => p j && decide (j ≠ k)) = [] := List.filter_eq_nil_iff.2 fun j hj => by rw [h j (List.mem_range.1 hj)]; simp
      rw [h1, h2]; simp [hk]
    · rw [yi0 h hk n (by omega)]
      have : [n].filter p = [n].filter fun j => p j && decide (j ≠ k) := List.filter_congr fun j hj => by
        have : j = n := by simpa using hj
        subst this
        rw [decide_eq_true (Ne.symm e), Bool.and_true]
      rw [this]; rfl
theorem bitsW_zero : yf9 0 = [] := by decide
theorem bitsW_step {x : Nat} (h0 : x ≠ 0) (h : x < 18446744073709551616) : ∃ k, k < 64 ∧ x &&& (18446744073709551616 - x) = 2 ^ k ∧ yf9 x = k :: yf9 (x &&& (x - 1)) ∧ (x &&& (x - 1)) < x := by
  obtain ⟨k, m, rfl⟩ := ynu x x (Nat.le_refl _) h0
  have hk := ysp h
  have hp : 0 < 2 ^ k := Nat.two_pow_pos k
  refine ⟨k, hk, land_neg h, ?_, ?_⟩
  · rw [ynv]
    unfold yf9
    rw [yi0 (k := k) (fun j hj => ?_) ?_ 64 hk]
    · congr 1
      refine List.filter_congr fun j hj => ?_
      rw [Nat.testBit_two_pow_mul, Nat.testBit_two_pow_mul, yl5]
      by_cases h1 : j ≥ k
      · by_cases h2 : j - k = 0
        · have : j = k := by omega
          simp [h1, h2, this]
        · have : j ≠ k := by omega
          simp [h1, h2, this]
      · simp [h1]
    · rw [Nat.testBit_two_pow_mul, yl5]; simp
    · rw [Nat.testBit_two_pow_mul, decide_eq_false (by omega), Bool.false_and]
  · rw [ynv]; exact Nat.mul_lt_mul_of_pos_left (by omega) hp
def tzTab : List Int := [0, 1, 56, 2, 57, 49, 28, 3, 61, 58, 42, 50, 38, 29, 17, 4, 62, 47, 59, 36, 45, 43, 51, 22, 53, 39, 33, 30, 24, 18, 12, 5, 63, 55, 48, 27, 60, 41, 37, 16, 46, 35, 44, 21, 52, 32, 23, 11, 54, 26, 40, 15, 34, 20, 31, 10, 25, 14, 19, 9, 13, 8, 7, 6]
theorem yos : ∀ k : Nat, k < 64 → (2 ^ k * 285870213051353865 % 18446744073709551616) >>> 58 < 64 ∧ tzTab.getD ((2 ^ k * 285870213051353865 % 18446744073709551616) >>> 58) 0 = (k : Int) := by decide +kernel
end Go.AM

/- The machine's steps of counting. -/
namespace Go.AM
theorem yrj {n : Nat} (h : n < 18446744073709551616) : IntKind.u64.wrap (n : Int) = n := by simp [IntKind.wrap, IntKind.signed, IntKind.bits]; omega
theorem ys2 {n : Nat} (h : n < 9223372036854775808) : IntKind.i64.wrap (n : Int) = n := by simp [IntKind.wrap, IntKind.signed, IntKind.bits]; omega
theorem shrN (x k : Nat) (hk : k < 64) : bShr .u64 (x : Int) (k : Int) = ((x >>> k : Nat) : Int) := yfz hk
theorem ysq {x k : Nat} (h : x < 18446744073709551616) : x >>> k < 18446744073709551616 := Nat.lt_of_le_of_lt (Nat.shiftRight_le _ _) h
theorem pop1 {x : Nat} (hx : x < 18446744073709551616) : IntKind.u64.wrap (bAnd .u64 (bShr .u64 (x : Int) 1) 6148914691236517205 + bAnd .u64 (x : Int) 6148914691236517205) = ((f1 6148914691236517205 x : Nat) : Int) := by
  have e1 : bShr .u64 (x : Int) 1 = ((x >>> 1 : Nat) : Int) := shrN x 1 (by decide)
  have e2 : bAnd .u64 ((x >>> 1 : Nat) : Int) 6148914691236517205 = (((x >>> 1) &&& 6148914691236517205 : Nat) : Int) := ydj (b := 6148914691236517205) (ysq hx) (by decide)
  have e3 : bAnd .u64 (x : Int) 6148914691236517205 = ((x &&& 6148914691236517205 : Nat) : Int) := ydj (b := 6148914691236517205) hx (by decide)
  have hl := (ynt hx).1
  rw [e1, e2, e3, ← Int.natCast_add]
  exact yrj hl
theorem pop2 {x : Nat} (hx : x < 18446744073709551616) (hl : f2 3689348814741910323 x < 18446744073709551616) : IntKind.u64.wrap (bAnd .u64 (bShr .u64 (x : Int) 2) 3689348814741910323 + bAnd .u64 (x : Int) 3689348814741910323) = ((f2 3689348814741910323 x : Nat) : Int) := by
  have e1 : bShr .u64 (x : Int) 2 = ((x >>> 2 : Nat) : Int) := shrN x 2 (by decide)
  have e2 : bAnd .u64 ((x >>> 2 : Nat) : Int) 3689348814741910323 = (((x >>> 2) &&& 3689348814741910323 : Nat) : Int) := ydj (b := 3689348814741910323) (ysq hx) (by decide)
  have e3 : bAnd .u64 (x : Int) 3689348814741910323 = ((x &&& 3689348814741910323 : Nat) : Int) := ydj (b := 3689348814741910323) hx (by decide)
  rw [e1, e2, e3, ← Int.natCast_add]
  exact yrj hl
theorem pop3 {x : Nat} (hx : x < 5000000000000000000) : bAnd .u64 (IntKind.u64.wrap (bShr .u64 (x : Int) 4 + (x : Int))) 1085102592571150095 = ((f3 1085102592571150095 x : Nat) : Int) := by
  have e1 : bShr .u64 (x : Int) 4 = ((x >>> 4 : Nat) : Int) := shrN x 4 (by decide)
  have hle : x >>> 4 ≤ x := Nat.shiftRight_le _ _
  rw [e1, ← Int.natCast_add, yrj (by omega)]
  exact ydj (b := 1085102592571150095) (by omega) (by decide)
theorem pop4 {x k d : Nat} (hk : k < 64) (hd : 2 ^ k = d) (hx : x < 1000000000000000000) : IntKind.u64.wrap ((x : Int) + bShr .u64 (x : Int) (k : Int)) = ((x + x / d : Nat) : Int) := by
  rw [shrN x k hk, Nat.shiftRight_eq_div_pow, hd, ← Int.natCast_add]
  refine yrj ?_
  have := Nat.div_le_self x d
  omega
theorem pop5 {x : Nat} (hx : x < 9223372036854775808) : bAnd .i64 (IntKind.i64.wrap (x : Int)) 127 = ((x % 128 : Nat) : Int) := by
  rw [ys2 hx]
  have e : x &&& 127 = x % 128 := Nat.and_two_pow_sub_one_eq_mod x 7
  have h1 : (BitVec.ofInt 64 (x : Int) &&& BitVec.ofInt 64 127).toNat = x &&& 127 := by
    rw [BitVec.toNat_and, show BitVec.ofInt 64 (x : Int) = BitVec.ofNat 64 x from BitVec.ofInt_natCast _ _, show BitVec.ofInt 64 127 = BitVec.ofNat 64 127 from rfl, BitVec.toNat_ofNat, BitVec.toNat_ofNat, Nat.mod_eq_of_lt (by omega), Nat.mod_eq_of_lt (by decide)]
  show IntKind.i64.wrap (((BitVec.ofInt 64 (x : Int) &&& BitVec.ofInt 64 127).toNat : Nat) : Int) = _
  rw [h1, e]
  exact ys2 (by omega)
theorem tz_ix {x k : Nat} (hx : x < 18446744073709551616) (h0 : x ≠ 0) (hk : k < 64) (hl : x &&& (18446744073709551616 - x) = 2 ^ k) : bShr .u64 (IntKind.u64.wrap (bAnd .u64 (x : Int) (IntKind.u64.wrap (0 - (x : Int))) * 285870213051353865)) 58 = (((2 ^ k * 285870213051353865 % 18446744073709551616) >>> 58 : Nat) : Int) := by
  have e1 : IntKind.u64.wrap (0 - (x : Int)) = ((18446744073709551616 - x : Nat) : Int) := by
    simp [IntKind.wrap, IntKind.signed, IntKind.bits]; omega
  rw [e1, ydj hx (by omega), hl]
  have e2 : IntKind.u64.wrap (((2 ^ k : Nat) : Int) * 285870213051353865) = ((2 ^ k * 285870213051353865 % 18446744073709551616 : Nat) : Int) := by
    generalize 2 ^ k = p
    simp [IntKind.wrap, IntKind.signed, IntKind.bits]
  rw [e2]
  exact shrN _ 58 (by decide)
end Go.AM

/- Matchings: the search for an alternating path, as a function of lists. -/
namespace Go.AM

abbrev MSt := List Bool × List Int × List Int
def ykg (f : Int → List Bool → List Int → List Int → Bool × MSt) (r : Int) (s : List Bool) (L R : List Int) : Bool × MSt :=
  if R.getD r.toNat 0 < 0 then (true, s.set r.toNat true, L, R) else f (R.getD r.toNat 0) (s.set r.toNat true) L R
def mgo (f : Int → List Bool → List Int → List Int → Bool × MSt) (l : Int) : List Int → List Bool → List Int → List Int → Bool × MSt
  | [], s, L, R => (false, s, L, R)
  | r :: rs, s, L, R => if s.getD r.toNat false = true then mgo f l rs s L R
    else match ykg f r s L R with
      | (true, s2, L2, R2) => (true, s2, L2.set l.toNat r, R2.set r.toNat l)
      | (false, s2, L2, R2) => mgo f l rs s2 L2 R2
def mtry (nb : List (List Int)) : Nat → Int → List Bool → List Int → List Int → Bool × MSt
  | 0, _, s, L, R => (false, s, L, R)
  | n + 1, l, s, L, R => mgo (mtry nb n) l (nb.getD l.toNat []) s L R

/-- How many are not seen. -/
def uns (s : List Bool) : Nat := s.countP (!·)

/-- The rows name right nodes, the partners are left nodes. -/
structure MOk (n m : Nat) (nb : List (List Int)) (s : List Bool) (L R : List Int) : Prop where
  hnb : nb.length = n ∧ ∀ row ∈ nb, ∀ r ∈ row, 0 ≤ r ∧ r < (m : Int)
  hs : s.length = m
  hL : L.length = n ∧ ∀ x ∈ L, x < (m : Int)
  hR : R.length = m ∧ ∀ x ∈ R, x < (n : Int)

theorem yl6 {s : List Bool} {i : Nat} (hi : i < s.length) (h : s.getD i false = false) : uns (s.set i true) + 1 = uns s := by
  unfold uns
  induction s generalizing i with
  | nil => simp at hi
  | cons a s ih =>
    cases i with
    | zero =>
      simp only [List.getD_cons_zero] at h
      subst h
      simp
    | succ i =>
      simp only [List.getD_cons_succ] at h
      simp only [List.length_cons] at hi
      have := ih (by omega) h
      simp only [List.set_cons_succ, List.countP_cons]
      omega
theorem ycq (m : Nat) : uns (List.replicate m false) = m := by
  unfold uns; induction m with
  | zero => rfl
  | succ m ih => rw [List.replicate_succ, List.countP_cons, ih]; simp

theorem mem_set_or {α : Type} {l : List α} {i : Nat} {a x : α} (h : x ∈ l.set i a) : x ∈ l ∨ x = a := List.mem_or_eq_of_mem_set h

theorem MOk.seen {n m : Nat} {nb : List (List Int)} {s : List Bool} {L R : List Int} (h : MOk n m nb s L R) (i : Nat) : MOk n m nb (s.set i true) L R :=
  ⟨h.hnb, by simp [h.hs], h.hL, h.hR⟩
theorem MOk.join {n m : Nat} {nb : List (List Int)} {s : List Bool} {L R : List Int} (h : MOk n m nb s L R) {l r : Int} (hl : l < (n : Int)) (hr : r < (m : Int)) : MOk n m nb s (L.set l.toNat r) (R.set r.toNat l) :=
  ⟨h.hnb, h.hs, ⟨by simp [h.hL.1], fun x hx => by rcases mem_set_or hx with h1 | h1; exact h.hL.2 x h1; omega⟩, ⟨by simp [h.hR.1], fun x hx => by rcases mem_set_or hx with h1 | h1; exact h.hR.2 x h1; omega⟩⟩

/-- What the search keeps. -/
def yqr (n m : Nat) (nb : List (List Int)) (s : List Bool) (x : Bool × MSt) : Prop := MOk n m nb x.2.1 x.2.2.1 x.2.2.2 ∧ uns x.2.1 ≤ uns s

theorem yf2 {n m : Nat} {nb : List (List Int)} {f : Int → List Bool → List Int → List Int → Bool × MSt} (hf : ∀ l s L R, l < (n : Int) → MOk n m nb s L R → yqr n m nb s (f l s L R)) {r : Int} {s : List Bool} {L R : List Int}
    (hr : 0 ≤ r ∧ r < (m : Int)) (h : MOk n m nb s L R) (hs : s.getD r.toNat false = false) : MOk n m nb (ykg f r s L R).2.1 (ykg f r s L R).2.2.1 (ykg f r s L R).2.2.2 ∧ uns (ykg f r s L R).2.1 + 1 ≤ uns s := by
  have hu := yl6 (s := s) (i := r.toNat) (by rw [h.hs]; omega) hs
  unfold ykg
  split
  · exact ⟨h.seen _, by show uns (s.set r.toNat true) + 1 ≤ _; omega⟩
  · have hRl : R.getD r.toNat 0 < (n : Int) := by
      have : r.toNat < R.length := by rw [h.hR.1]; omega
      rw [List.getD_eq_getElem?_getD, List.getElem?_eq_getElem this]
      exact h.hR.2 _ (List.getElem_mem this)
    have hk := hf (R.getD r.toNat 0) (s.set r.toNat true) L R hRl (h.seen _)
    exact ⟨hk.1, by have := hk.2; omega⟩
theorem yl7 {n m : Nat} {nb : List (List Int)} {f : Int → List Bool → List Int → List Int → Bool × MSt} (hf : ∀ l s L R, l < (n : Int) → MOk n m nb s L R → yqr n m nb s (f l s L R)) {l : Int} (hl : l < (n : Int)) :
    ∀ (rs : List Int) (s : List Bool) (L R : List Int), (∀ r ∈ rs, 0 ≤ r ∧ r < (m : Int)) → MOk n m nb s L R → yqr n m nb s (mgo f l rs s L R)
  | [], s, L, R, _, h => ⟨h, Nat.le_refl _⟩
  | r :: rs, s, L, R, hr, h => by
    have h1 := hr r (by simp)
    have h2 : ∀ r ∈ rs, 0 ≤ r ∧ r < (m : Int) := fun x hx => hr x (by simp [hx])
    unfold mgo
    split
    · exact yl7 hf hl rs s L R h2 h
    · rename_i hs
      have hk := yf2 hf h1 h (by simpa using hs)
      split
      · rename_i s2 L2 R2 e
        rw [e] at hk
        exact ⟨hk.1.join hl h1.2, by have := hk.2; simp only at this ⊢; omega⟩
      · rename_i s2 L2 R2 e
        rw [e] at hk
        have h3 := yl7 hf hl rs s2 L2 R2 h2 hk.1
        exact ⟨h3.1, by have := hk.2; have h4 := h3.2; simp only at this; omega⟩
theorem yef {n m : Nat} {nb : List (List Int)} : ∀ (k : Nat) (l : Int) (s : List Bool) (L R : List Int), l < (n : Int) → MOk n m nb s L R → yqr n m nb s (mtry nb k l s L R)
  | 0, _, s, L, R, _, h => ⟨h, Nat.le_refl _⟩
  | k + 1, l, s, L, R, hl, h => by
    unfold mtry
    refine yl7 (fun l s L R => yef k l s L R) hl _ s L R (fun r hr => ?_) h
    by_cases hi : l.toNat < nb.length
    · rw [List.getD_eq_getElem?_getD, List.getElem?_eq_getElem hi] at hr
      exact h.hnb.2 _ (List.getElem_mem hi) r hr
    · rw [List.getD_eq_getElem?_getD, List.getElem?_eq_none (by omega)] at hr
      cases hr

end Go.AM

namespace Go.Proofs.W
open Go.AM
set_option maxRecDepth 100000
@[go_sem] theorem tyd1 : tyd Tryd.prog 1 = some (1, false) := by kernel_rfl
@[go_sem] theorem zeC1 : zeC Tryd.prog 1 = some [.any] := by kernel_rfl
@[go_sem] theorem byD1 : byD Tryd.prog 1 = some 8 := by kernel_rfl
@[go_sem] theorem tyd2 : tyd Tryd.prog 2 = some (1, false) := by kernel_rfl
@[go_sem] theorem zeC2 : zeC Tryd.prog 2 = some [.int .i64 0] := by kernel_rfl
@[go_sem] theorem byD2 : byD Tryd.prog 2 = some 8 := by kernel_rfl
@[go_sem] theorem inD2 : inD Tryd.prog 2 = some .i64 := by kernel_rfl
@[go_sem] theorem und2 : Tryd.prog.underlying 2 = some (.int .i64) := by kernel_rfl
@[go_sem] theorem valD2 : valD Tryd.prog 2 = some (some .i64) := by kernel_rfl
@[go_sem] theorem tyd3 : tyd Tryd.prog 3 = some (1, false) := by kernel_rfl
@[go_sem] theorem zeC3 : zeC Tryd.prog 3 = some [.int .i64 0] := by kernel_rfl
@[go_sem] theorem byD3 : byD Tryd.prog 3 = some 8 := by kernel_rfl
@[go_sem] theorem inD3 : inD Tryd.prog 3 = some .i64 := by kernel_rfl
@[go_sem] theorem und3 : Tryd.prog.underlying 3 = some (.int .i64) := by kernel_rfl
@[go_sem] theorem valD3 : valD Tryd.prog 3 = some (some .i64) := by kernel_rfl
@[go_sem] theorem tyd4 : tyd Tryd.prog 4 = some (1, false) := by kernel_rfl
@[go_sem] theorem zeC4 : zeC Tryd.prog 4 = some [.bool false] := by kernel_rfl
@[go_sem] theorem byD4 : byD Tryd.prog 4 = some 1 := by kernel_rfl
@[go_sem] theorem valD4 : valD Tryd.prog 4 = some none := by kernel_rfl
@[go_sem] theorem und4 : Tryd.prog.underlying 4 = some .bool := by kernel_rfl
@[go_sem] theorem tyd5 : tyd Tryd.prog 5 = some (1, false) := by kernel_rfl
@[go_sem] theorem zeC5 : zeC Tryd.prog 5 = some [.int .u8 0] := by kernel_rfl
@[go_sem] theorem byD5 : byD Tryd.prog 5 = some 1 := by kernel_rfl
@[go_sem] theorem inD5 : inD Tryd.prog 5 = some .u8 := by kernel_rfl
@[go_sem] theorem und5 : Tryd.prog.underlying 5 = some (.int .u8) := by kernel_rfl
@[go_sem] theorem valD5 : valD Tryd.prog 5 = some (some .u8) := by kernel_rfl
@[go_sem] theorem tyd6 : tyd Tryd.prog 6 = some (1, false) := by kernel_rfl
@[go_sem] theorem zeC6 : zeC Tryd.prog 6 = some [.int .u8 0] := by kernel_rfl
@[go_sem] theorem byD6 : byD Tryd.prog 6 = some 1 := by kernel_rfl
@[go_sem] theorem inD6 : inD Tryd.prog 6 = some .u8 := by kernel_rfl
@[go_sem] theorem und6 : Tryd.prog.underlying 6 = some (.int .u8) := by kernel_rfl
@[go_sem] theorem valD6 : valD Tryd.prog 6 = some (some .u8) := by kernel_rfl
@[go_sem] theorem tyd7 : tyd Tryd.prog 7 = some (4, true) := by kernel_rfl
@[go_sem] theorem flD7_0 : flD Tryd.prog 7 0 = some (2, 0, 1) := by kernel_rfl
@[go_sem] theorem flD7_1 : flD Tryd.prog 7 1 = some (3, 1, 1) := by kernel_rfl
@[go_sem] theorem flD7_2 : flD Tryd.prog 7 2 = some (4, 2, 1) := by kernel_rfl
@[go_sem] theorem flD7_3 : flD Tryd.prog 7 3 = some (6, 3, 1) := by kernel_rfl
@[go_sem] theorem stD7 : stD Tryd.prog 7 = some [(0, 1), (1, 1), (2, 1), (3, 1)] := by kernel_rfl
@[go_sem] theorem zeC7 : zeC Tryd.prog 7 = some [.int .i64 0, .int .i64 0, .bool false, .int .u8 0] := by kernel_rfl
@[go_sem] theorem byD7 : byD Tryd.prog 7 = some 24 := by kernel_rfl
@[go_sem] theorem tyd8 : tyd Tryd.prog 8 = some (4, true) := by kernel_rfl
@[go_sem] theorem flD8_0 : flD Tryd.prog 8 0 = some (2, 0, 1) := by kernel_rfl
@[go_sem] theorem flD8_1 : flD Tryd.prog 8 1 = some (3, 1, 1) := by kernel_rfl
@[go_sem] theorem flD8_2 : flD Tryd.prog 8 2 = some (4, 2, 1) := by kernel_rfl
@[go_sem] theorem flD8_3 : flD Tryd.prog 8 3 = some (6, 3, 1) := by kernel_rfl
@[go_sem] theorem stD8 : stD Tryd.prog 8 = some [(0, 1), (1, 1), (2, 1), (3, 1)] := by kernel_rfl
@[go_sem] theorem zeC8 : zeC Tryd.prog 8 = some [.int .i64 0, .int .i64 0, .bool false, .int .u8 0] := by kernel_rfl
@[go_sem] theorem byD8 : byD Tryd.prog 8 = some 24 := by kernel_rfl
@[go_sem] theorem tyd9 : tyd Tryd.prog 9 = some (1, false) := by kernel_rfl
@[go_sem] theorem zeC9 : zeC Tryd.prog 9 = some [.str ByteArray.empty] := by kernel_rfl
@[go_sem] theorem byD9 : byD Tryd.prog 9 = some 16 := by kernel_rfl
@[go_sem] theorem und9 : Tryd.prog.underlying 9 = some .string := by kernel_rfl
@[go_sem] theorem tyd10 : tyd Tryd.prog 10 = some (1, false) := by kernel_rfl
@[go_sem] theorem zeC10 : zeC Tryd.prog 10 = some [.str ByteArray.empty] := by kernel_rfl
@[go_sem] theorem byD10 : byD Tryd.prog 10 = some 16 := by kernel_rfl
@[go_sem] theorem und10 : Tryd.prog.underlying 10 = some .string := by kernel_rfl
@[go_sem] theorem tyd11 : tyd Tryd.prog 11 = some (1, false) := by kernel_rfl
@[go_sem] theorem zeC11 : zeC Tryd.prog 11 = some [.str ByteArray.empty] := by kernel_rfl
@[go_sem] theorem byD11 : byD Tryd.prog 11 = some 16 := by kernel_rfl
@[go_sem] theorem und11 : Tryd.prog.underlying 11 = some .string := by kernel_rfl
@[go_sem] theorem tyd12 : tyd Tryd.prog 12 = some (1, false) := by kernel_rfl
@[go_sem] theorem zeC12 : zeC Tryd.prog 12 = some [.int .u64 0] := by kernel_rfl
@[go_sem] theorem byD12 : byD Tryd.prog 12 = some 8 := by kernel_rfl
@[go_sem] theorem inD12 : inD Tryd.prog 12 = some .u64 := by kernel_rfl
@[go_sem] theorem und12 : Tryd.prog.underlying 12 = some (.int .u64) := by kernel_rfl
@[go_sem] theorem valD12 : valD Tryd.prog 12 = some (some .u64) := by kernel_rfl
@[go_sem] theorem tyd13 : tyd Tryd.prog 13 = some (2, true) := by kernel_rfl
@[go_sem] theorem flD13_0 : flD Tryd.prog 13 0 = some (9, 0, 1) := by kernel_rfl
@[go_sem] theorem flD13_1 : flD Tryd.prog 13 1 = some (12, 1, 1) := by kernel_rfl
@[go_sem] theorem stD13 : stD Tryd.prog 13 = some [(0, 1), (1, 1)] := by kernel_rfl
@[go_sem] theorem zeC13 : zeC Tryd.prog 13 = some [.str ByteArray.empty, .int .u64 0] := by kernel_rfl
@[go_sem] theorem byD13 : byD Tryd.prog 13 = some 24 := by kernel_rfl
@[go_sem] theorem tyd14 : tyd Tryd.prog 14 = some (2, true) := by kernel_rfl
@[go_sem] theorem flD14_0 : flD Tryd.prog 14 0 = some (9, 0, 1) := by kernel_rfl
@[go_sem] theorem flD14_1 : flD Tryd.prog 14 1 = some (12, 1, 1) := by kernel_rfl
@[go_sem] theorem stD14 : stD Tryd.prog 14 = some [(0, 1), (1, 1)] := by kernel_rfl
@[go_sem] theorem zeC14 : zeC Tryd.prog 14 = some [.str ByteArray.empty, .int .u64 0] := by kernel_rfl
@[go_sem] theorem byD14 : byD Tryd.prog 14 = some 24 := by kernel_rfl
@[go_sem] theorem tyd15 : tyd Tryd.prog 15 = some (1, false) := by kernel_rfl
@[go_sem] theorem zeC15 : zeC Tryd.prog 15 = some [.nilp] := by kernel_rfl
@[go_sem] theorem byD15 : byD Tryd.prog 15 = some 8 := by kernel_rfl
@[go_sem] theorem tyd16 : tyd Tryd.prog 16 = some (1, false) := by kernel_rfl
@[go_sem] theorem zeC16 : zeC Tryd.prog 16 = some [.nilp] := by kernel_rfl
@[go_sem] theorem byD16 : byD Tryd.prog 16 = some 8 := by kernel_rfl
@[go_sem] theorem tyd17 : tyd Tryd.prog 17 = some (1, false) := by kernel_rfl
@[go_sem] theorem zeC17 : zeC Tryd.prog 17 = some [.nilp] := by kernel_rfl
@[go_sem] theorem byD17 : byD Tryd.prog 17 = some 8 := by kernel_rfl
@[go_sem] theorem tyd18 : tyd Tryd.prog 18 = some (1, true) := by kernel_rfl
@[go_sem] theorem flD18_0 : flD Tryd.prog 18 0 = some (17, 0, 1) := by kernel_rfl
@[go_sem] theorem stD18 : stD Tryd.prog 18 = some [(0, 1)] := by kernel_rfl
@[go_sem] theorem zeC18 : zeC Tryd.prog 18 = some [.nilp] := by kernel_rfl
@[go_sem] theorem byD18 : byD Tryd.prog 18 = some 8 := by kernel_rfl
@[go_sem] theorem tyd19 : tyd Tryd.prog 19 = some (1, true) := by kernel_rfl
@[go_sem] theorem flD19_0 : flD Tryd.prog 19 0 = some (17, 0, 1) := by kernel_rfl
@[go_sem] theorem stD19 : stD Tryd.prog 19 = some [(0, 1)] := by kernel_rfl
@[go_sem] theorem zeC19 : zeC Tryd.prog 19 = some [.nilp] := by kernel_rfl
@[go_sem] theorem byD19 : byD Tryd.prog 19 = some 8 := by kernel_rfl
@[go_sem] theorem tyd21 : tyd Tryd.prog 21 = some (1, false) := by kernel_rfl
@[go_sem] theorem zeC21 : zeC Tryd.prog 21 = some [.int .i32 0] := by kernel_rfl
@[go_sem] theorem byD21 : byD Tryd.prog 21 = some 4 := by kernel_rfl
@[go_sem] theorem inD21 : inD Tryd.prog 21 = some .i32 := by kernel_rfl
@[go_sem] theorem und21 : Tryd.prog.underlying 21 = some (.int .i32) := by kernel_rfl
@[go_sem] theorem valD21 : valD Tryd.prog 21 = some (some .i32) := by kernel_rfl
@[go_sem] theorem tyd22 : tyd Tryd.prog 22 = some (1, false) := by kernel_rfl
@[go_sem] theorem slD22 : slD Tryd.prog 22 = some (27, 2) := by kernel_rfl
@[go_sem] theorem zeC22 : zeC Tryd.prog 22 = some [.nilsl] := by kernel_rfl
@[go_sem] theorem byD22 : byD Tryd.prog 22 = some 24 := by kernel_rfl
@[go_sem] theorem tyd23 : tyd Tryd.prog 23 = some (1, true) := by kernel_rfl
@[go_sem] theorem flD23_0 : flD Tryd.prog 23 0 = some (22, 0, 1) := by kernel_rfl
@[go_sem] theorem stD23 : stD Tryd.prog 23 = some [(0, 1)] := by kernel_rfl
@[go_sem] theorem zeC23 : zeC Tryd.prog 23 = some [.nilsl] := by kernel_rfl
@[go_sem] theorem byD23 : byD Tryd.prog 23 = some 24 := by kernel_rfl
@[go_sem] theorem tyd24 : tyd Tryd.prog 24 = some (1, true) := by kernel_rfl
@[go_sem] theorem flD24_0 : flD Tryd.prog 24 0 = some (22, 0, 1) := by kernel_rfl
@[go_sem] theorem stD24 : stD Tryd.prog 24 = some [(0, 1)] := by kernel_rfl
@[go_sem] theorem zeC24 : zeC Tryd.prog 24 = some [.nilsl] := by kernel_rfl
@[go_sem] theorem byD24 : byD Tryd.prog 24 = some 24 := by kernel_rfl
@[go_sem] theorem tyd25 : tyd Tryd.prog 25 = some (1, false) := by kernel_rfl
@[go_sem] theorem slD25 : slD Tryd.prog 25 = some (60, 1) := by kernel_rfl
@[go_sem] theorem zeC25 : zeC Tryd.prog 25 = some [.nilsl] := by kernel_rfl
@[go_sem] theorem byD25 : byD Tryd.prog 25 = some 24 := by kernel_rfl
@[go_sem] theorem tyd26 : tyd Tryd.prog 26 = some (2, true) := by kernel_rfl
@[go_sem] theorem flD26_0 : flD Tryd.prog 26 0 = some (3, 0, 1) := by kernel_rfl
@[go_sem] theorem flD26_1 : flD Tryd.prog 26 1 = some (25, 1, 1) := by kernel_rfl
@[go_sem] theorem stD26 : stD Tryd.prog 26 = some [(0, 1), (1, 1)] := by kernel_rfl
@[go_sem] theorem zeC26 : zeC Tryd.prog 26 = some [.int .i64 0, .nilsl] := by kernel_rfl
@[go_sem] theorem byD26 : byD Tryd.prog 26 = some 32 := by kernel_rfl
@[go_sem] theorem tyd27 : tyd Tryd.prog 27 = some (2, true) := by kernel_rfl
@[go_sem] theorem flD27_0 : flD Tryd.prog 27 0 = some (3, 0, 1) := by kernel_rfl
@[go_sem] theorem flD27_1 : flD Tryd.prog 27 1 = some (25, 1, 1) := by kernel_rfl
@[go_sem] theorem stD27 : stD Tryd.prog 27 = some [(0, 1), (1, 1)] := by kernel_rfl
@[go_sem] theorem zeC27 : zeC Tryd.prog 27 = some [.int .i64 0, .nilsl] := by kernel_rfl
@[go_sem] theorem byD27 : byD Tryd.prog 27 = some 32 := by kernel_rfl
@[go_sem] theorem tyd28 : tyd Tryd.prog 28 = some (1, false) := by kernel_rfl
@[go_sem] theorem zeC28 : zeC Tryd.prog 28 = some [.any] := by kernel_rfl
@[go_sem] theorem byD28 : byD Tryd.prog 28 = some 8 := by kernel_rfl
@[go_sem] theorem tyd29 : tyd Tryd.prog 29 = some (1, false) := by kernel_rfl
@[go_sem] theorem zeC29 : zeC Tryd.prog 29 = some [.any] := by kernel_rfl
@[go_sem] theorem byD29 : byD Tryd.prog 29 = some 8 := by kernel_rfl
@[go_sem] theorem tyd30 : tyd Tryd.prog 30 = some (1, false) := by kernel_rfl
@[go_sem] theorem zeC30 : zeC Tryd.prog 30 = some [.any] := by kernel_rfl
@[go_sem] theorem byD30 : byD Tryd.prog 30 = some 8 := by kernel_rfl
@[go_sem] theorem tyd31 : tyd Tryd.prog 31 = some (1, false) := by kernel_rfl
@[go_sem] theorem zeC31 : zeC Tryd.prog 31 = some [.int .i64 0] := by kernel_rfl
@[go_sem] theorem byD31 : byD Tryd.prog 31 = some 8 := by kernel_rfl
@[go_sem] theorem inD31 : inD Tryd.prog 31 = some .i64 := by kernel_rfl
@[go_sem] theorem und31 : Tryd.prog.underlying 31 = some (.int .i64) := by kernel_rfl
@[go_sem] theorem valD31 : valD Tryd.prog 31 = some (some .i64) := by kernel_rfl
@[go_sem] theorem tyd33 : tyd Tryd.prog 33 = some (1, false) := by kernel_rfl
@[go_sem] theorem zeC33 : zeC Tryd.prog 33 = some [.any] := by kernel_rfl
@[go_sem] theorem byD33 : byD Tryd.prog 33 = some 8 := by kernel_rfl
@[go_sem] theorem tyd35 : tyd Tryd.prog 35 = some (1, false) := by kernel_rfl
@[go_sem] theorem zeC35 : zeC Tryd.prog 35 = some [.any] := by kernel_rfl
@[go_sem] theorem byD35 : byD Tryd.prog 35 = some 8 := by kernel_rfl
@[go_sem] theorem tyd36 : tyd Tryd.prog 36 = some (1, false) := by kernel_rfl
@[go_sem] theorem zeC36 : zeC Tryd.prog 36 = some [.any] := by kernel_rfl
@[go_sem] theorem byD36 : byD Tryd.prog 36 = some 8 := by kernel_rfl
@[go_sem] theorem tyd37 : tyd Tryd.prog 37 = some (1, false) := by kernel_rfl
@[go_sem] theorem slD37 : slD Tryd.prog 37 = some (3, 1) := by kernel_rfl
@[go_sem] theorem zeC37 : zeC Tryd.prog 37 = some [.nilsl] := by kernel_rfl
@[go_sem] theorem byD37 : byD Tryd.prog 37 = some 24 := by kernel_rfl
@[go_sem] theorem tyd38 : tyd Tryd.prog 38 = some (1, false) := by kernel_rfl
@[go_sem] theorem slD38 : slD Tryd.prog 38 = some (37, 1) := by kernel_rfl
@[go_sem] theorem zeC38 : zeC Tryd.prog 38 = some [.nilsl] := by kernel_rfl
@[go_sem] theorem byD38 : byD Tryd.prog 38 = some 24 := by kernel_rfl
@[go_sem] theorem tyd39 : tyd Tryd.prog 39 = some (1, false) := by kernel_rfl
@[go_sem] theorem zeC39 : zeC Tryd.prog 39 = some [.any] := by kernel_rfl
@[go_sem] theorem byD39 : byD Tryd.prog 39 = some 8 := by kernel_rfl
@[go_sem] theorem tyd40 : tyd Tryd.prog 40 = some (1, false) := by kernel_rfl
@[go_sem] theorem zeC40 : zeC Tryd.prog 40 = some [.any] := by kernel_rfl
@[go_sem] theorem byD40 : byD Tryd.prog 40 = some 8 := by kernel_rfl
@[go_sem] theorem tyd41 : tyd Tryd.prog 41 = some (1, false) := by kernel_rfl
@[go_sem] theorem zeC41 : zeC Tryd.prog 41 = some [.any] := by kernel_rfl
@[go_sem] theorem byD41 : byD Tryd.prog 41 = some 8 := by kernel_rfl
@[go_sem] theorem tyd42 : tyd Tryd.prog 42 = some (1, false) := by kernel_rfl
@[go_sem] theorem slD42 : slD Tryd.prog 42 = some (75, 1) := by kernel_rfl
@[go_sem] theorem zeC42 : zeC Tryd.prog 42 = some [.nilsl] := by kernel_rfl
@[go_sem] theorem byD42 : byD Tryd.prog 42 = some 24 := by kernel_rfl
@[go_sem] theorem tyd43 : tyd Tryd.prog 43 = some (1, false) := by kernel_rfl
@[go_sem] theorem zeC43 : zeC Tryd.prog 43 = some [.any] := by kernel_rfl
@[go_sem] theorem byD43 : byD Tryd.prog 43 = some 8 := by kernel_rfl
@[go_sem] theorem tyd44 : tyd Tryd.prog 44 = some (1, false) := by kernel_rfl
@[go_sem] theorem zeC44 : zeC Tryd.prog 44 = some [.any] := by kernel_rfl
@[go_sem] theorem byD44 : byD Tryd.prog 44 = some 8 := by kernel_rfl
@[go_sem] theorem tyd45 : tyd Tryd.prog 45 = some (1, false) := by kernel_rfl
@[go_sem] theorem zeC45 : zeC Tryd.prog 45 = some [.any] := by kernel_rfl
@[go_sem] theorem byD45 : byD Tryd.prog 45 = some 8 := by kernel_rfl
@[go_sem] theorem tyd46 : tyd Tryd.prog 46 = some (1, false) := by kernel_rfl
@[go_sem] theorem zeC46 : zeC Tryd.prog 46 = some [.any] := by kernel_rfl
@[go_sem] theorem byD46 : byD Tryd.prog 46 = some 8 := by kernel_rfl
@[go_sem] theorem tyd47 : tyd Tryd.prog 47 = some (1, false) := by kernel_rfl
@[go_sem] theorem zeC47 : zeC Tryd.prog 47 = some [.any] := by kernel_rfl
@[go_sem] theorem byD47 : byD Tryd.prog 47 = some 8 := by kernel_rfl
@[go_sem] theorem tyd48 : tyd Tryd.prog 48 = some (1, false) := by kernel_rfl
@[go_sem] theorem zeC48 : zeC Tryd.prog 48 = some [.any] := by kernel_rfl
@[go_sem] theorem byD48 : byD Tryd.prog 48 = some 8 := by kernel_rfl
@[go_sem] theorem tyd49 : tyd Tryd.prog 49 = some (1, false) := by kernel_rfl
@[go_sem] theorem zeC49 : zeC Tryd.prog 49 = some [.any] := by kernel_rfl
@[go_sem] theorem byD49 : byD Tryd.prog 49 = some 8 := by kernel_rfl
@[go_sem] theorem tyd50 : tyd Tryd.prog 50 = some (1, false) := by kernel_rfl
@[go_sem] theorem zeC50 : zeC Tryd.prog 50 = some [.any] := by kernel_rfl
@[go_sem] theorem byD50 : byD Tryd.prog 50 = some 8 := by kernel_rfl
@[go_sem] theorem tyd51 : tyd Tryd.prog 51 = some (1, false) := by kernel_rfl
@[go_sem] theorem zeC51 : zeC Tryd.prog 51 = some [.any] := by kernel_rfl
@[go_sem] theorem byD51 : byD Tryd.prog 51 = some 8 := by kernel_rfl
@[go_sem] theorem tyd52 : tyd Tryd.prog 52 = some (1, false) := by kernel_rfl
@[go_sem] theorem zeC52 : zeC Tryd.prog 52 = some [.any] := by kernel_rfl
@[go_sem] theorem byD52 : byD Tryd.prog 52 = some 8 := by kernel_rfl
@[go_sem] theorem tyd54 : tyd Tryd.prog 54 = some (1, false) := by kernel_rfl
@[go_sem] theorem zeC54 : zeC Tryd.prog 54 = some [.any] := by kernel_rfl
@[go_sem] theorem byD54 : byD Tryd.prog 54 = some 8 := by kernel_rfl
@[go_sem] theorem tyd56 : tyd Tryd.prog 56 = some (1, false) := by kernel_rfl
@[go_sem] theorem zeC56 : zeC Tryd.prog 56 = some [.any] := by kernel_rfl
@[go_sem] theorem byD56 : byD Tryd.prog 56 = some 8 := by kernel_rfl
@[go_sem] theorem tyd57 : tyd Tryd.prog 57 = some (1, false) := by kernel_rfl
@[go_sem] theorem zeC57 : zeC Tryd.prog 57 = some [.any] := by kernel_rfl
@[go_sem] theorem byD57 : byD Tryd.prog 57 = some 8 := by kernel_rfl
@[go_sem] theorem tyd58 : tyd Tryd.prog 58 = some (1, false) := by kernel_rfl
@[go_sem] theorem zeC58 : zeC Tryd.prog 58 = some [.any] := by kernel_rfl
@[go_sem] theorem byD58 : byD Tryd.prog 58 = some 8 := by kernel_rfl
@[go_sem] theorem tyd59 : tyd Tryd.prog 59 = some (1, false) := by kernel_rfl
@[go_sem] theorem zeC59 : zeC Tryd.prog 59 = some [.any] := by kernel_rfl
@[go_sem] theorem byD59 : byD Tryd.prog 59 = some 8 := by kernel_rfl
@[go_sem] theorem tyd60 : tyd Tryd.prog 60 = some (1, false) := by kernel_rfl
@[go_sem] theorem zeC60 : zeC Tryd.prog 60 = some [.int .u64 0] := by kernel_rfl
@[go_sem] theorem byD60 : byD Tryd.prog 60 = some 8 := by kernel_rfl
@[go_sem] theorem inD60 : inD Tryd.prog 60 = some .u64 := by kernel_rfl
@[go_sem] theorem und60 : Tryd.prog.underlying 60 = some (.int .u64) := by kernel_rfl
@[go_sem] theorem valD60 : valD Tryd.prog 60 = some (some .u64) := by kernel_rfl
@[go_sem] theorem tyd61 : tyd Tryd.prog 61 = some (1, false) := by kernel_rfl
@[go_sem] theorem zeC61 : zeC Tryd.prog 61 = some [.any] := by kernel_rfl
@[go_sem] theorem byD61 : byD Tryd.prog 61 = some 8 := by kernel_rfl
@[go_sem] theorem tyd62 : tyd Tryd.prog 62 = some (1, false) := by kernel_rfl
@[go_sem] theorem zeC62 : zeC Tryd.prog 62 = some [.any] := by kernel_rfl
@[go_sem] theorem byD62 : byD Tryd.prog 62 = some 8 := by kernel_rfl
@[go_sem] theorem tyd63 : tyd Tryd.prog 63 = some (1, false) := by kernel_rfl
@[go_sem] theorem zeC63 : zeC Tryd.prog 63 = some [.int .u64 0] := by kernel_rfl
@[go_sem] theorem byD63 : byD Tryd.prog 63 = some 8 := by kernel_rfl
@[go_sem] theorem inD63 : inD Tryd.prog 63 = some .u64 := by kernel_rfl
@[go_sem] theorem und63 : Tryd.prog.underlying 63 = some (.int .u64) := by kernel_rfl
@[go_sem] theorem valD63 : valD Tryd.prog 63 = some (some .u64) := by kernel_rfl
@[go_sem] theorem tyd64 : tyd Tryd.prog 64 = some (1, false) := by kernel_rfl
@[go_sem] theorem slD64 : slD Tryd.prog 64 = some (71, 2) := by kernel_rfl
@[go_sem] theorem zeC64 : zeC Tryd.prog 64 = some [.nilsl] := by kernel_rfl
@[go_sem] theorem byD64 : byD Tryd.prog 64 = some 24 := by kernel_rfl
@[go_sem] theorem tyd66 : tyd Tryd.prog 66 = some (1, false) := by kernel_rfl
@[go_sem] theorem zeC66 : zeC Tryd.prog 66 = some [.any] := by kernel_rfl
@[go_sem] theorem byD66 : byD Tryd.prog 66 = some 8 := by kernel_rfl
@[go_sem] theorem tyd68 : tyd Tryd.prog 68 = some (1, false) := by kernel_rfl
@[go_sem] theorem zeC68 : zeC Tryd.prog 68 = some [.any] := by kernel_rfl
@[go_sem] theorem byD68 : byD Tryd.prog 68 = some 8 := by kernel_rfl
@[go_sem] theorem tyd69 : tyd Tryd.prog 69 = some (1, false) := by kernel_rfl
@[go_sem] theorem zeC69 : zeC Tryd.prog 69 = some [.any] := by kernel_rfl
@[go_sem] theorem byD69 : byD Tryd.prog 69 = some 8 := by kernel_rfl
@[go_sem] theorem tyd70 : tyd Tryd.prog 70 = some (1, false) := by kernel_rfl
@[go_sem] theorem zeC70 : zeC Tryd.prog 70 = some [.any] := by kernel_rfl
@[go_sem] theorem byD70 : byD Tryd.prog 70 = some 8 := by kernel_rfl
@[go_sem] theorem tyd71 : tyd Tryd.prog 71 = some (2, true) := by kernel_rfl
@[go_sem] theorem gdD71 : gdD Tryd.prog 71 = false := by kernel_rfl
@[go_sem] theorem arD71 : arD Tryd.prog 71 = some (2, 3, 1) := by kernel_rfl
@[go_sem] theorem stD71 : stD Tryd.prog 71 = none := by kernel_rfl
@[go_sem] theorem zeC71 : zeC Tryd.prog 71 = some [.int .i64 0, .int .i64 0] := by kernel_rfl
@[go_sem] theorem byD71 : byD Tryd.prog 71 = some 16 := by kernel_rfl
@[go_sem] theorem tyd72 : tyd Tryd.prog 72 = some (1, false) := by kernel_rfl
@[go_sem] theorem zeC72 : zeC Tryd.prog 72 = some [.any] := by kernel_rfl
@[go_sem] theorem byD72 : byD Tryd.prog 72 = some 8 := by kernel_rfl
@[go_sem] theorem tyd73 : tyd Tryd.prog 73 = some (1, false) := by kernel_rfl
@[go_sem] theorem zeC73 : zeC Tryd.prog 73 = some [.any] := by kernel_rfl
@[go_sem] theorem byD73 : byD Tryd.prog 73 = some 8 := by kernel_rfl
@[go_sem] theorem tyd74 : tyd Tryd.prog 74 = some (1, false) := by kernel_rfl
@[go_sem] theorem zeC74 : zeC Tryd.prog 74 = some [.any] := by kernel_rfl
@[go_sem] theorem byD74 : byD Tryd.prog 74 = some 8 := by kernel_rfl
@[go_sem] theorem tyd75 : tyd Tryd.prog 75 = some (1, false) := by kernel_rfl
@[go_sem] theorem slD75 : slD Tryd.prog 75 = some (4, 1) := by kernel_rfl
@[go_sem] theorem zeC75 : zeC Tryd.prog 75 = some [.nilsl] := by kernel_rfl
@[go_sem] theorem byD75 : byD Tryd.prog 75 = some 24 := by kernel_rfl
@[go_sem] theorem tyd76 : tyd Tryd.prog 76 = some (1, false) := by kernel_rfl
@[go_sem] theorem zeC76 : zeC Tryd.prog 76 = some [.any] := by kernel_rfl
@[go_sem] theorem byD76 : byD Tryd.prog 76 = some 8 := by kernel_rfl
@[go_sem] theorem tyd77 : tyd Tryd.prog 77 = some (1, false) := by kernel_rfl
@[go_sem] theorem zeC77 : zeC Tryd.prog 77 = some [.any] := by kernel_rfl
@[go_sem] theorem byD77 : byD Tryd.prog 77 = some 8 := by kernel_rfl
@[go_sem] theorem tyd78 : tyd Tryd.prog 78 = some (1, false) := by kernel_rfl
@[go_sem] theorem zeC78 : zeC Tryd.prog 78 = some [.any] := by kernel_rfl
@[go_sem] theorem byD78 : byD Tryd.prog 78 = some 8 := by kernel_rfl
@[go_sem] theorem tyd79 : tyd Tryd.prog 79 = some (1, false) := by kernel_rfl
@[go_sem] theorem zeC79 : zeC Tryd.prog 79 = some [.any] := by kernel_rfl
@[go_sem] theorem byD79 : byD Tryd.prog 79 = some 8 := by kernel_rfl
@[go_sem] theorem tyd80 : tyd Tryd.prog 80 = some (1, false) := by kernel_rfl
@[go_sem] theorem zeC80 : zeC Tryd.prog 80 = some [.any] := by kernel_rfl
@[go_sem] theorem byD80 : byD Tryd.prog 80 = some 8 := by kernel_rfl
@[go_sem] theorem tyd81 : tyd Tryd.prog 81 = some (1, false) := by kernel_rfl
@[go_sem] theorem zeC81 : zeC Tryd.prog 81 = some [.any] := by kernel_rfl
@[go_sem] theorem byD81 : byD Tryd.prog 81 = some 8 := by kernel_rfl
@[go_sem] theorem tyd82 : tyd Tryd.prog 82 = some (1, false) := by kernel_rfl
@[go_sem] theorem zeC82 : zeC Tryd.prog 82 = some [.any] := by kernel_rfl
@[go_sem] theorem byD82 : byD Tryd.prog 82 = some 8 := by kernel_rfl
@[go_sem] theorem tyd83 : tyd Tryd.prog 83 = some (1, false) := by kernel_rfl
@[go_sem] theorem zeC83 : zeC Tryd.prog 83 = some [.any] := by kernel_rfl
@[go_sem] theorem byD83 : byD Tryd.prog 83 = some 8 := by kernel_rfl
@[go_sem] theorem tyd84 : tyd Tryd.prog 84 = some (1, false) := by kernel_rfl
@[go_sem] theorem zeC84 : zeC Tryd.prog 84 = some [.any] := by kernel_rfl
@[go_sem] theorem byD84 : byD Tryd.prog 84 = some 8 := by kernel_rfl
@[go_sem] theorem tyd86 : tyd Tryd.prog 86 = some (1, false) := by kernel_rfl
@[go_sem] theorem zeC86 : zeC Tryd.prog 86 = some [.any] := by kernel_rfl
@[go_sem] theorem byD86 : byD Tryd.prog 86 = some 8 := by kernel_rfl
@[go_sem] theorem tyd87 : tyd Tryd.prog 87 = some (1, false) := by kernel_rfl
@[go_sem] theorem zeC87 : zeC Tryd.prog 87 = some [.any] := by kernel_rfl
@[go_sem] theorem byD87 : byD Tryd.prog 87 = some 8 := by kernel_rfl
@[go_sem] theorem tyd88 : tyd Tryd.prog 88 = some (1, false) := by kernel_rfl
@[go_sem] theorem zeC88 : zeC Tryd.prog 88 = some [.any] := by kernel_rfl
@[go_sem] theorem byD88 : byD Tryd.prog 88 = some 8 := by kernel_rfl
@[go_sem] theorem tyd89 : tyd Tryd.prog 89 = some (1, false) := by kernel_rfl
@[go_sem] theorem zeC89 : zeC Tryd.prog 89 = some [.any] := by kernel_rfl
@[go_sem] theorem byD89 : byD Tryd.prog 89 = some 8 := by kernel_rfl
@[go_sem] theorem tyd90 : tyd Tryd.prog 90 = some (1, false) := by kernel_rfl
@[go_sem] theorem zeC90 : zeC Tryd.prog 90 = some [.any] := by kernel_rfl
@[go_sem] theorem byD90 : byD Tryd.prog 90 = some 8 := by kernel_rfl
@[go_sem] theorem tyd91 : tyd Tryd.prog 91 = some (1, false) := by kernel_rfl
@[go_sem] theorem zeC91 : zeC Tryd.prog 91 = some [.any] := by kernel_rfl
@[go_sem] theorem byD91 : byD Tryd.prog 91 = some 8 := by kernel_rfl
@[go_sem] theorem tyd92 : tyd Tryd.prog 92 = some (1, false) := by kernel_rfl
@[go_sem] theorem zeC92 : zeC Tryd.prog 92 = some [.any] := by kernel_rfl
@[go_sem] theorem byD92 : byD Tryd.prog 92 = some 8 := by kernel_rfl
@[go_sem] theorem tyd93 : tyd Tryd.prog 93 = some (1, false) := by kernel_rfl
@[go_sem] theorem zeC93 : zeC Tryd.prog 93 = some [.any] := by kernel_rfl
@[go_sem] theorem byD93 : byD Tryd.prog 93 = some 8 := by kernel_rfl
@[go_sem] theorem tyd94 : tyd Tryd.prog 94 = some (1, false) := by kernel_rfl
@[go_sem] theorem zeC94 : zeC Tryd.prog 94 = some [.any] := by kernel_rfl
@[go_sem] theorem byD94 : byD Tryd.prog 94 = some 8 := by kernel_rfl
@[go_sem] theorem tyd95 : tyd Tryd.prog 95 = some (1, false) := by kernel_rfl
@[go_sem] theorem zeC95 : zeC Tryd.prog 95 = some [.any] := by kernel_rfl
@[go_sem] theorem byD95 : byD Tryd.prog 95 = some 8 := by kernel_rfl
@[go_sem] theorem tyd96 : tyd Tryd.prog 96 = some (1, false) := by kernel_rfl
@[go_sem] theorem zeC96 : zeC Tryd.prog 96 = some [.any] := by kernel_rfl
@[go_sem] theorem byD96 : byD Tryd.prog 96 = some 8 := by kernel_rfl
@[go_sem] theorem tyd97 : tyd Tryd.prog 97 = some (1, false) := by kernel_rfl
@[go_sem] theorem zeC97 : zeC Tryd.prog 97 = some [.any] := by kernel_rfl
@[go_sem] theorem byD97 : byD Tryd.prog 97 = some 8 := by kernel_rfl
@[go_sem] theorem tyd98 : tyd Tryd.prog 98 = some (1, false) := by kernel_rfl
@[go_sem] theorem zeC98 : zeC Tryd.prog 98 = some [.any] := by kernel_rfl
@[go_sem] theorem byD98 : byD Tryd.prog 98 = some 8 := by kernel_rfl
@[go_sem] theorem tyd99 : tyd Tryd.prog 99 = some (1, false) := by kernel_rfl
@[go_sem] theorem zeC99 : zeC Tryd.prog 99 = some [.nilp] := by kernel_rfl
@[go_sem] theorem byD99 : byD Tryd.prog 99 = some 8 := by kernel_rfl
@[go_sem] theorem tyd100 : tyd Tryd.prog 100 = some (1, false) := by kernel_rfl
@[go_sem] theorem zeC100 : zeC Tryd.prog 100 = some [.any] := by kernel_rfl
@[go_sem] theorem byD100 : byD Tryd.prog 100 = some 8 := by kernel_rfl
@[go_sem] theorem tyd101 : tyd Tryd.prog 101 = some (1, false) := by kernel_rfl
@[go_sem] theorem zeC101 : zeC Tryd.prog 101 = some [.any] := by kernel_rfl
@[go_sem] theorem byD101 : byD Tryd.prog 101 = some 8 := by kernel_rfl
@[go_sem] theorem tyd103 : tyd Tryd.prog 103 = some (1, false) := by kernel_rfl
@[go_sem] theorem zeC103 : zeC Tryd.prog 103 = some [.any] := by kernel_rfl
@[go_sem] theorem byD103 : byD Tryd.prog 103 = some 8 := by kernel_rfl
@[go_sem] theorem tyd105 : tyd Tryd.prog 105 = some (1, false) := by kernel_rfl
@[go_sem] theorem zeC105 : zeC Tryd.prog 105 = some [.any] := by kernel_rfl
@[go_sem] theorem byD105 : byD Tryd.prog 105 = some 8 := by kernel_rfl
@[go_sem] theorem tyd106 : tyd Tryd.prog 106 = some (1, false) := by kernel_rfl
@[go_sem] theorem zeC106 : zeC Tryd.prog 106 = some [.any] := by kernel_rfl
@[go_sem] theorem byD106 : byD Tryd.prog 106 = some 8 := by kernel_rfl
@[go_sem] theorem tyd107 : tyd Tryd.prog 107 = some (1, false) := by kernel_rfl
@[go_sem] theorem zeC107 : zeC Tryd.prog 107 = some [.any] := by kernel_rfl
@[go_sem] theorem byD107 : byD Tryd.prog 107 = some 8 := by kernel_rfl
@[go_sem] theorem tyd108 : tyd Tryd.prog 108 = some (64, true) := by kernel_rfl
@[go_sem] theorem gdD108 : gdD Tryd.prog 108 = false := by kernel_rfl
@[go_sem] theorem arD108 : arD Tryd.prog 108 = some (64, 5, 1) := by kernel_rfl
@[go_sem] theorem stD108 : stD Tryd.prog 108 = none := by kernel_rfl
@[go_sem] theorem byD108 : byD Tryd.prog 108 = some 64 := by kernel_rfl
@[go_sem] theorem tyd109 : tyd Tryd.prog 109 = some (1, false) := by kernel_rfl
@[go_sem] theorem zeC109 : zeC Tryd.prog 109 = some [.any] := by kernel_rfl
@[go_sem] theorem byD109 : byD Tryd.prog 109 = some 8 := by kernel_rfl
@[go_sem] theorem tyd110 : tyd Tryd.prog 110 = some (1, false) := by kernel_rfl
@[go_sem] theorem zeC110 : zeC Tryd.prog 110 = some [.any] := by kernel_rfl
@[go_sem] theorem byD110 : byD Tryd.prog 110 = some 8 := by kernel_rfl
@[go_sem] theorem tyd111 : tyd Tryd.prog 111 = some (1, false) := by kernel_rfl
@[go_sem] theorem zeC111 : zeC Tryd.prog 111 = some [.any] := by kernel_rfl
@[go_sem] theorem byD111 : byD Tryd.prog 111 = some 8 := by kernel_rfl
@[go_sem] theorem und111 : Tryd.prog.underlying 111 = some (.map 71 4) := by kernel_rfl
@[go_sem] theorem tyd112 : tyd Tryd.prog 112 = some (3, true) := by kernel_rfl
@[go_sem] theorem flD112_0 : flD Tryd.prog 112 0 = some (38, 0, 1) := by kernel_rfl
@[go_sem] theorem flD112_1 : flD Tryd.prog 112 1 = some (37, 1, 1) := by kernel_rfl
@[go_sem] theorem flD112_2 : flD Tryd.prog 112 2 = some (37, 2, 1) := by kernel_rfl
@[go_sem] theorem stD112 : stD Tryd.prog 112 = some [(0, 1), (1, 1), (2, 1)] := by kernel_rfl
@[go_sem] theorem zeC112 : zeC Tryd.prog 112 = some [.nilsl, .nilsl, .nilsl] := by kernel_rfl
@[go_sem] theorem byD112 : byD Tryd.prog 112 = some 72 := by kernel_rfl
@[go_sem] theorem tyd113 : tyd Tryd.prog 113 = some (3, true) := by kernel_rfl
@[go_sem] theorem flD113_0 : flD Tryd.prog 113 0 = some (38, 0, 1) := by kernel_rfl
@[go_sem] theorem flD113_1 : flD Tryd.prog 113 1 = some (37, 1, 1) := by kernel_rfl
@[go_sem] theorem flD113_2 : flD Tryd.prog 113 2 = some (37, 2, 1) := by kernel_rfl
@[go_sem] theorem stD113 : stD Tryd.prog 113 = some [(0, 1), (1, 1), (2, 1)] := by kernel_rfl
@[go_sem] theorem zeC113 : zeC Tryd.prog 113 = some [.nilsl, .nilsl, .nilsl] := by kernel_rfl
@[go_sem] theorem byD113 : byD Tryd.prog 113 = some 72 := by kernel_rfl
@[go_sem] theorem tyd114 : tyd Tryd.prog 114 = some (1, false) := by kernel_rfl
@[go_sem] theorem zeC114 : zeC Tryd.prog 114 = some [.int .u32 0] := by kernel_rfl
@[go_sem] theorem byD114 : byD Tryd.prog 114 = some 4 := by kernel_rfl
@[go_sem] theorem inD114 : inD Tryd.prog 114 = some .u32 := by kernel_rfl
@[go_sem] theorem und114 : Tryd.prog.underlying 114 = some (.int .u32) := by kernel_rfl
@[go_sem] theorem valD114 : valD Tryd.prog 114 = some (some .u32) := by kernel_rfl
@[go_sem] theorem tyd116 : tyd Tryd.prog 116 = some (1, false) := by kernel_rfl
@[go_sem] theorem zeC116 : zeC Tryd.prog 116 = some [.any] := by kernel_rfl
@[go_sem] theorem byD116 : byD Tryd.prog 116 = some 8 := by kernel_rfl
@[go_sem] theorem tyd118 : tyd Tryd.prog 118 = some (1, false) := by kernel_rfl
@[go_sem] theorem zeC118 : zeC Tryd.prog 118 = some [.any] := by kernel_rfl
@[go_sem] theorem byD118 : byD Tryd.prog 118 = some 8 := by kernel_rfl
@[go_sem] theorem tyd119 : tyd Tryd.prog 119 = some (1, false) := by kernel_rfl
@[go_sem] theorem zeC119 : zeC Tryd.prog 119 = some [.any] := by kernel_rfl
@[go_sem] theorem byD119 : byD Tryd.prog 119 = some 8 := by kernel_rfl
@[go_sem] theorem tyd120 : tyd Tryd.prog 120 = some (1, false) := by kernel_rfl
@[go_sem] theorem zeC120 : zeC Tryd.prog 120 = some [.any] := by kernel_rfl
@[go_sem] theorem byD120 : byD Tryd.prog 120 = some 8 := by kernel_rfl
@[go_sem] theorem tyd121 : tyd Tryd.prog 121 = some (1, false) := by kernel_rfl
@[go_sem] theorem zeC121 : zeC Tryd.prog 121 = some [.any] := by kernel_rfl
@[go_sem] theorem byD121 : byD Tryd.prog 121 = some 8 := by kernel_rfl
@[go_sem] theorem tyd122 : tyd Tryd.prog 122 = some (1, false) := by kernel_rfl
@[go_sem] theorem zeC122 : zeC Tryd.prog 122 = some [.any] := by kernel_rfl
@[go_sem] theorem byD122 : byD Tryd.prog 122 = some 8 := by kernel_rfl
@[go_sem] theorem tyd123 : tyd Tryd.prog 123 = some (1, false) := by kernel_rfl
@[go_sem] theorem zeC123 : zeC Tryd.prog 123 = some [.any] := by kernel_rfl
@[go_sem] theorem byD123 : byD Tryd.prog 123 = some 8 := by kernel_rfl
@[go_sem] theorem tyd124 : tyd Tryd.prog 124 = some (1, false) := by kernel_rfl
@[go_sem] theorem zeC124 : zeC Tryd.prog 124 = some [.any] := by kernel_rfl
@[go_sem] theorem byD124 : byD Tryd.prog 124 = some 8 := by kernel_rfl
@[go_sem] theorem tyd125 : tyd Tryd.prog 125 = some (1, false) := by kernel_rfl
@[go_sem] theorem zeC125 : zeC Tryd.prog 125 = some [.any] := by kernel_rfl
@[go_sem] theorem byD125 : byD Tryd.prog 125 = some 8 := by kernel_rfl
@[go_sem] theorem tyd126 : tyd Tryd.prog 126 = some (1, false) := by kernel_rfl
@[go_sem] theorem zeC126 : zeC Tryd.prog 126 = some [.any] := by kernel_rfl
@[go_sem] theorem byD126 : byD Tryd.prog 126 = some 8 := by kernel_rfl
@[go_sem] theorem tyd127 : tyd Tryd.prog 127 = some (4, true) := by kernel_rfl
@[go_sem] theorem flD127_0 : flD Tryd.prog 127 0 = some (17, 0, 1) := by kernel_rfl
@[go_sem] theorem flD127_1 : flD Tryd.prog 127 1 = some (17, 1, 1) := by kernel_rfl
@[go_sem] theorem flD127_2 : flD Tryd.prog 127 2 = some (17, 2, 1) := by kernel_rfl
@[go_sem] theorem flD127_3 : flD Tryd.prog 127 3 = some (9, 3, 1) := by kernel_rfl
@[go_sem] theorem stD127 : stD Tryd.prog 127 = some [(0, 1), (1, 1), (2, 1), (3, 1)] := by kernel_rfl
@[go_sem] theorem zeC127 : zeC Tryd.prog 127 = some [.nilp, .nilp, .nilp, .str ByteArray.empty] := by kernel_rfl
@[go_sem] theorem byD127 : byD Tryd.prog 127 = some 40 := by kernel_rfl
@[go_sem] theorem tyd128 : tyd Tryd.prog 128 = some (4, true) := by kernel_rfl
@[go_sem] theorem flD128_0 : flD Tryd.prog 128 0 = some (17, 0, 1) := by kernel_rfl
@[go_sem] theorem flD128_1 : flD Tryd.prog 128 1 = some (17, 1, 1) := by kernel_rfl
@[go_sem] theorem flD128_2 : flD Tryd.prog 128 2 = some (17, 2, 1) := by kernel_rfl
@[go_sem] theorem flD128_3 : flD Tryd.prog 128 3 = some (9, 3, 1) := by kernel_rfl
@[go_sem] theorem stD128 : stD Tryd.prog 128 = some [(0, 1), (1, 1), (2, 1), (3, 1)] := by kernel_rfl
@[go_sem] theorem zeC128 : zeC Tryd.prog 128 = some [.nilp, .nilp, .nilp, .str ByteArray.empty] := by kernel_rfl
@[go_sem] theorem byD128 : byD Tryd.prog 128 = some 40 := by kernel_rfl
@[go_sem] theorem tyd129 : tyd Tryd.prog 129 = some (0, true) := by kernel_rfl
@[go_sem] theorem arD129 : arD Tryd.prog 129 = some (0, 16, 1) := by kernel_rfl
@[go_sem] theorem stD129 : stD Tryd.prog 129 = none := by kernel_rfl
@[go_sem] theorem byD129 : byD Tryd.prog 129 = some 0 := by kernel_rfl
@[go_sem] theorem tyd130 : tyd Tryd.prog 130 = some (0, true) := by kernel_rfl
@[go_sem] theorem flD130_0 : flD Tryd.prog 130 0 = some (129, 0, 0) := by kernel_rfl
@[go_sem] theorem stD130 : stD Tryd.prog 130 = some [(0, 0)] := by kernel_rfl
@[go_sem] theorem byD130 : byD Tryd.prog 130 = some 0 := by kernel_rfl
@[go_sem] theorem tyd131 : tyd Tryd.prog 131 = some (0, true) := by kernel_rfl
@[go_sem] theorem flD131_0 : flD Tryd.prog 131 0 = some (129, 0, 0) := by kernel_rfl
@[go_sem] theorem stD131 : stD Tryd.prog 131 = some [(0, 0)] := by kernel_rfl
@[go_sem] theorem byD131 : byD Tryd.prog 131 = some 0 := by kernel_rfl
@[go_sem] theorem tyd132 : tyd Tryd.prog 132 = some (1, false) := by kernel_rfl
@[go_sem] theorem zeC132 : zeC Tryd.prog 132 = some [.any] := by kernel_rfl
@[go_sem] theorem byD132 : byD Tryd.prog 132 = some 8 := by kernel_rfl
@[go_sem] theorem tyd133 : tyd Tryd.prog 133 = some (1, false) := by kernel_rfl
@[go_sem] theorem zeC133 : zeC Tryd.prog 133 = some [.int .u8 0] := by kernel_rfl
@[go_sem] theorem byD133 : byD Tryd.prog 133 = some 1 := by kernel_rfl
@[go_sem] theorem inD133 : inD Tryd.prog 133 = some .u8 := by kernel_rfl
@[go_sem] theorem und133 : Tryd.prog.underlying 133 = some (.int .u8) := by kernel_rfl
@[go_sem] theorem valD133 : valD Tryd.prog 133 = some (some .u8) := by kernel_rfl
@[go_sem] theorem tyd134 : tyd Tryd.prog 134 = some (1, false) := by kernel_rfl
@[go_sem] theorem zeC134 : zeC Tryd.prog 134 = some [.int .u8 0] := by kernel_rfl
@[go_sem] theorem byD134 : byD Tryd.prog 134 = some 1 := by kernel_rfl
@[go_sem] theorem inD134 : inD Tryd.prog 134 = some .u8 := by kernel_rfl
@[go_sem] theorem und134 : Tryd.prog.underlying 134 = some (.int .u8) := by kernel_rfl
@[go_sem] theorem valD134 : valD Tryd.prog 134 = some (some .u8) := by kernel_rfl
@[go_sem] theorem tyd135 : tyd Tryd.prog 135 = some (1, false) := by kernel_rfl
@[go_sem] theorem zeC135 : zeC Tryd.prog 135 = some [.any] := by kernel_rfl
@[go_sem] theorem byD135 : byD Tryd.prog 135 = some 8 := by kernel_rfl
@[go_sem] theorem tyd136 : tyd Tryd.prog 136 = some (1, false) := by kernel_rfl
@[go_sem] theorem zeC136 : zeC Tryd.prog 136 = some [.nilp] := by kernel_rfl
@[go_sem] theorem byD136 : byD Tryd.prog 136 = some 8 := by kernel_rfl
@[go_sem] theorem tyd137 : tyd Tryd.prog 137 = some (1, false) := by kernel_rfl
@[go_sem] theorem zeC137 : zeC Tryd.prog 137 = some [.int .i32 0] := by kernel_rfl
@[go_sem] theorem byD137 : byD Tryd.prog 137 = some 4 := by kernel_rfl
@[go_sem] theorem inD137 : inD Tryd.prog 137 = some .i32 := by kernel_rfl
@[go_sem] theorem und137 : Tryd.prog.underlying 137 = some (.int .i32) := by kernel_rfl
@[go_sem] theorem valD137 : valD Tryd.prog 137 = some (some .i32) := by kernel_rfl
@[go_sem] theorem tyd138 : tyd Tryd.prog 138 = some (1, false) := by kernel_rfl
@[go_sem] theorem zeC138 : zeC Tryd.prog 138 = some [.int .i32 0] := by kernel_rfl
@[go_sem] theorem byD138 : byD Tryd.prog 138 = some 4 := by kernel_rfl
@[go_sem] theorem inD138 : inD Tryd.prog 138 = some .i32 := by kernel_rfl
@[go_sem] theorem und138 : Tryd.prog.underlying 138 = some (.int .i32) := by kernel_rfl
@[go_sem] theorem valD138 : valD Tryd.prog 138 = some (some .i32) := by kernel_rfl
@[go_sem] theorem tyd139 : tyd Tryd.prog 139 = some (11, true) := by kernel_rfl
@[go_sem] theorem flD139_0 : flD Tryd.prog 139 0 = some (12, 0, 1) := by kernel_rfl
@[go_sem] theorem flD139_1 : flD Tryd.prog 139 1 = some (12, 1, 1) := by kernel_rfl
@[go_sem] theorem flD139_2 : flD Tryd.prog 139 2 = some (114, 2, 1) := by kernel_rfl
@[go_sem] theorem flD139_3 : flD Tryd.prog 139 3 = some (133, 3, 1) := by kernel_rfl
@[go_sem] theorem flD139_4 : flD Tryd.prog 139 4 = some (5, 4, 1) := by kernel_rfl
@[go_sem] theorem flD139_5 : flD Tryd.prog 139 5 = some (5, 5, 1) := by kernel_rfl
@[go_sem] theorem flD139_6 : flD Tryd.prog 139 6 = some (134, 6, 1) := by kernel_rfl
@[go_sem] theorem flD139_7 : flD Tryd.prog 139 7 = some (135, 7, 1) := by kernel_rfl
@[go_sem] theorem flD139_8 : flD Tryd.prog 139 8 = some (136, 8, 1) := by kernel_rfl
@[go_sem] theorem flD139_9 : flD Tryd.prog 139 9 = some (137, 9, 1) := by kernel_rfl
@[go_sem] theorem flD139_10 : flD Tryd.prog 139 10 = some (138, 10, 1) := by kernel_rfl
@[go_sem] theorem stD139 : stD Tryd.prog 139 = some [(0, 1), (1, 1), (2, 1), (3, 1), (4, 1), (5, 1), (6, 1), (7, 1), (8, 1), (9, 1), (10, 1)] := by kernel_rfl
@[go_sem] theorem zeC139 : zeC Tryd.prog 139 = some [.int .u64 0, .int .u64 0, .int .u32 0, .int .u8 0, .int .u8 0, .int .u8 0, .int .u8 0, .any, .nilp, .int .i32 0, .int .i32 0] := by kernel_rfl
@[go_sem] theorem byD139 : byD Tryd.prog 139 = some 48 := by kernel_rfl
@[go_sem] theorem tyd140 : tyd Tryd.prog 140 = some (11, true) := by kernel_rfl
@[go_sem] theorem flD140_0 : flD Tryd.prog 140 0 = some (12, 0, 1) := by kernel_rfl
@[go_sem] theorem flD140_1 : flD Tryd.prog 140 1 = some (12, 1, 1) := by kernel_rfl
@[go_sem] theorem flD140_2 : flD Tryd.prog 140 2 = some (114, 2, 1) := by kernel_rfl
@[go_sem] theorem flD140_3 : flD Tryd.prog 140 3 = some (133, 3, 1) := by kernel_rfl
@[go_sem] theorem flD140_4 : flD Tryd.prog 140 4 = some (5, 4, 1) := by kernel_rfl
@[go_sem] theorem flD140_5 : flD Tryd.prog 140 5 = some (5, 5, 1) := by kernel_rfl
@[go_sem] theorem flD140_6 : flD Tryd.prog 140 6 = some (134, 6, 1) := by kernel_rfl
@[go_sem] theorem flD140_7 : flD Tryd.prog 140 7 = some (135, 7, 1) := by kernel_rfl
@[go_sem] theorem flD140_8 : flD Tryd.prog 140 8 = some (136, 8, 1) := by kernel_rfl
@[go_sem] theorem flD140_9 : flD Tryd.prog 140 9 = some (137, 9, 1) := by kernel_rfl
@[go_sem] theorem flD140_10 : flD Tryd.prog 140 10 = some (138, 10, 1) := by kernel_rfl
@[go_sem] theorem stD140 : stD Tryd.prog 140 = some [(0, 1), (1, 1), (2, 1), (3, 1), (4, 1), (5, 1), (6, 1), (7, 1), (8, 1), (9, 1), (10, 1)] := by kernel_rfl
@[go_sem] theorem zeC140 : zeC Tryd.prog 140 = some [.int .u64 0, .int .u64 0, .int .u32 0, .int .u8 0, .int .u8 0, .int .u8 0, .int .u8 0, .any, .nilp, .int .i32 0, .int .i32 0] := by kernel_rfl
@[go_sem] theorem byD140 : byD Tryd.prog 140 = some 48 := by kernel_rfl
@[go_sem] theorem ent2 : yaq Tryd.prog 2 = true := by kernel_rfl
@[go_sem] theorem ent3 : yaq Tryd.prog 3 = true := by kernel_rfl
@[go_sem] theorem ent4 : yaq Tryd.prog 4 = true := by kernel_rfl
@[go_sem] theorem ent5 : yaq Tryd.prog 5 = true := by kernel_rfl
@[go_sem] theorem ent6 : yaq Tryd.prog 6 = true := by kernel_rfl
@[go_sem] theorem ent7 : yaq Tryd.prog 7 = true := by kernel_rfl
@[go_sem] theorem ent8 : yaq Tryd.prog 8 = true := by kernel_rfl
@[go_sem] theorem ent9 : yaq Tryd.prog 9 = true := by kernel_rfl
@[go_sem] theorem ent10 : yaq Tryd.prog 10 = true := by kernel_rfl
@[go_sem] theorem ent11 : yaq Tryd.prog 11 = true := by kernel_rfl
@[go_sem] theorem ent12 : yaq Tryd.prog 12 = true := by kernel_rfl
@[go_sem] theorem ent13 : yaq Tryd.prog 13 = true := by kernel_rfl
@[go_sem] theorem ent14 : yaq Tryd.prog 14 = true := by kernel_rfl
@[go_sem] theorem ent15 : yaq Tryd.prog 15 = true := by kernel_rfl
@[go_sem] theorem ent16 : yaq Tryd.prog 16 = true := by kernel_rfl
@[go_sem] theorem ent17 : yaq Tryd.prog 17 = true := by kernel_rfl
@[go_sem] theorem ent18 : yaq Tryd.prog 18 = true := by kernel_rfl
@[go_sem] theorem ent19 : yaq Tryd.prog 19 = true := by kernel_rfl
@[go_sem] theorem ent20 : yaq Tryd.prog 20 = true := by kernel_rfl
@[go_sem] theorem ent21 : yaq Tryd.prog 21 = true := by kernel_rfl
@[go_sem] theorem ent22 : yaq Tryd.prog 22 = true := by kernel_rfl
@[go_sem] theorem ent23 : yaq Tryd.prog 23 = true := by kernel_rfl
@[go_sem] theorem ent24 : yaq Tryd.prog 24 = true := by kernel_rfl
@[go_sem] theorem ent25 : yaq Tryd.prog 25 = true := by kernel_rfl
@[go_sem] theorem ent26 : yaq Tryd.prog 26 = true := by kernel_rfl
@[go_sem] theorem ent27 : yaq Tryd.prog 27 = true := by kernel_rfl
@[go_sem] theorem ent28 : yaq Tryd.prog 28 = true := by kernel_rfl
@[go_sem] theorem ent29 : yaq Tryd.prog 29 = true := by kernel_rfl
@[go_sem] theorem ent30 : yaq Tryd.prog 30 = true := by kernel_rfl
@[go_sem] theorem ent31 : yaq Tryd.prog 31 = true := by kernel_rfl
@[go_sem] theorem ent32 : yaq Tryd.prog 32 = true := by kernel_rfl
@[go_sem] theorem ent33 : yaq Tryd.prog 33 = true := by kernel_rfl
@[go_sem] theorem ent34 : yaq Tryd.prog 34 = true := by kernel_rfl
@[go_sem] theorem ent35 : yaq Tryd.prog 35 = true := by kernel_rfl
@[go_sem] theorem ent36 : yaq Tryd.prog 36 = true := by kernel_rfl
@[go_sem] theorem ent37 : yaq Tryd.prog 37 = true := by kernel_rfl
@[go_sem] theorem ent38 : yaq Tryd.prog 38 = true := by kernel_rfl
@[go_sem] theorem ent39 : yaq Tryd.prog 39 = true := by kernel_rfl
@[go_sem] theorem ent40 : yaq Tryd.prog 40 = true := by kernel_rfl
@[go_sem] theorem ent41 : yaq Tryd.prog 41 = true := by kernel_rfl
@[go_sem] theorem ent42 : yaq Tryd.prog 42 = true := by kernel_rfl
@[go_sem] theorem ent43 : yaq Tryd.prog 43 = true := by kernel_rfl
@[go_sem] theorem ent44 : yaq Tryd.prog 44 = true := by kernel_rfl
@[go_sem] theorem ent45 : yaq Tryd.prog 45 = true := by kernel_rfl
@[go_sem] theorem ent46 : yaq Tryd.prog 46 = true := by kernel_rfl
@[go_sem] theorem ent47 : yaq Tryd.prog 47 = true := by kernel_rfl
@[go_sem] theorem ent48 : yaq Tryd.prog 48 = true := by kernel_rfl
@[go_sem] theorem ent49 : yaq Tryd.prog 49 = true := by kernel_rfl
@[go_sem] theorem ent50 : yaq Tryd.prog 50 = true := by kernel_rfl
@[go_sem] theorem ent51 : yaq Tryd.prog 51 = true := by kernel_rfl
@[go_sem] theorem ent52 : yaq Tryd.prog 52 = true := by kernel_rfl
@[go_sem] theorem ent53 : yaq Tryd.prog 53 = true := by kernel_rfl
@[go_sem] theorem ent54 : yaq Tryd.prog 54 = true := by kernel_rfl
@[go_sem] theorem ent55 : yaq Tryd.prog 55 = true := by kernel_rfl
@[go_sem] theorem ent56 : yaq Tryd.prog 56 = true := by kernel_rfl
@[go_sem] theorem ent57 : yaq Tryd.prog 57 = true := by kernel_rfl
@[go_sem] theorem ent58 : yaq Tryd.prog 58 = true := by kernel_rfl
@[go_sem] theorem ent59 : yaq Tryd.prog 59 = true := by kernel_rfl
@[go_sem] theorem ent60 : yaq Tryd.prog 60 = true := by kernel_rfl
@[go_sem] theorem ent61 : yaq Tryd.prog 61 = true := by kernel_rfl
@[go_sem] theorem ent62 : yaq Tryd.prog 62 = true := by kernel_rfl
@[go_sem] theorem ent63 : yaq Tryd.prog 63 = true := by kernel_rfl
@[go_sem] theorem ent64 : yaq Tryd.prog 64 = true := by kernel_rfl
@[go_sem] theorem ent65 : yaq Tryd.prog 65 = true := by kernel_rfl
@[go_sem] theorem ent66 : yaq Tryd.prog 66 = true := by kernel_rfl
@[go_sem] theorem ent67 : yaq Tryd.prog 67 = true := by kernel_rfl
@[go_sem] theorem ent68 : yaq Tryd.prog 68 = true := by kernel_rfl
@[go_sem] theorem ent69 : yaq Tryd.prog 69 = true := by kernel_rfl
@[go_sem] theorem ent70 : yaq Tryd.prog 70 = true := by kernel_rfl
@[go_sem] theorem ent71 : yaq Tryd.prog 71 = true := by kernel_rfl
@[go_sem] theorem ent72 : yaq Tryd.prog 72 = true := by kernel_rfl
@[go_sem] theorem ent73 : yaq Tryd.prog 73 = true := by kernel_rfl
@[go_sem] theorem ent74 : yaq Tryd.prog 74 = true := by kernel_rfl
@[go_sem] theorem ent75 : yaq Tryd.prog 75 = true := by kernel_rfl
@[go_sem] theorem ent76 : yaq Tryd.prog 76 = true := by kernel_rfl
@[go_sem] theorem ent77 : yaq Tryd.prog 77 = true := by kernel_rfl
@[go_sem] theorem ent78 : yaq Tryd.prog 78 = true := by kernel_rfl
@[go_sem] theorem ent79 : yaq Tryd.prog 79 = true := by kernel_rfl
@[go_sem] theorem ent80 : yaq Tryd.prog 80 = true := by kernel_rfl
@[go_sem] theorem ent81 : yaq Tryd.prog 81 = true := by kernel_rfl
@[go_sem] theorem ent82 : yaq Tryd.prog 82 = true := by kernel_rfl
@[go_sem] theorem ent83 : yaq Tryd.prog 83 = true := by kernel_rfl
@[go_sem] theorem ent84 : yaq Tryd.prog 84 = true := by kernel_rfl
@[go_sem] theorem ent85 : yaq Tryd.prog 85 = true := by kernel_rfl
@[go_sem] theorem ent86 : yaq Tryd.prog 86 = true := by kernel_rfl
@[go_sem] theorem ent87 : yaq Tryd.prog 87 = true := by kernel_rfl
@[go_sem] theorem ent88 : yaq Tryd.prog 88 = true := by kernel_rfl
@[go_sem] theorem ent89 : yaq Tryd.prog 89 = true := by kernel_rfl
@[go_sem] theorem ent90 : yaq Tryd.prog 90 = true := by kernel_rfl
@[go_sem] theorem ent91 : yaq Tryd.prog 91 = true := by kernel_rfl
@[go_sem] theorem ent92 : yaq Tryd.prog 92 = true := by kernel_rfl
@[go_sem] theorem ent93 : yaq Tryd.prog 93 = true := by kernel_rfl
@[go_sem] theorem ent94 : yaq Tryd.prog 94 = true := by kernel_rfl
@[go_sem] theorem ent95 : yaq Tryd.prog 95 = true := by kernel_rfl
@[go_sem] theorem ent96 : yaq Tryd.prog 96 = true := by kernel_rfl
@[go_sem] theorem ent97 : yaq Tryd.prog 97 = true := by kernel_rfl
@[go_sem] theorem ent98 : yaq Tryd.prog 98 = true := by kernel_rfl
@[go_sem] theorem ent99 : yaq Tryd.prog 99 = true := by kernel_rfl
@[go_sem] theorem ent100 : yaq Tryd.prog 100 = true := by kernel_rfl
@[go_sem] theorem ent101 : yaq Tryd.prog 101 = true := by kernel_rfl
@[go_sem] theorem ent102 : yaq Tryd.prog 102 = true := by kernel_rfl
@[go_sem] theorem ent103 : yaq Tryd.prog 103 = true := by kernel_rfl
@[go_sem] theorem ent124 : yaq Tryd.prog 124 = true := by kernel_rfl
end Go.Proofs.W

/- The width seat. -/
namespace Go.AM
def tzA : List AV := tzTab.map (AV.int .u8)
theorem ynw : yog 0 = some tzA := rfl
@[go_sem] theorem globA_0 : yog 0 = some tzA := Eq.trans ynw (Eq.refl _)
theorem tzA_len (q : Nat) : (List.drop q tzA).length = 64 - q := by rw [List.length_drop]; rfl
theorem tzA_get {q k : Nat} (hq : q < 64) (h : tzTab.getD q 0 = (k : Int)) : (List.drop q tzA).getD 0 .any = .int .u8 (k : Int) := by
  have hl : tzTab.length = 64 := rfl
  rw [← h]
  unfold tzA
  simp only [List.getD_eq_getElem?_getD, List.getElem?_drop, List.getElem?_map, Nat.add_zero]
  rw [List.getElem?_eq_getElem (by omega)]
  simp only [Option.map_some, Option.getD_some]
end Go.AM
namespace Go.Proofs.W
open Go.AM Go
theorem yd6 : Tryd.prog.follows .mixedOrders = true := by kernel_rfl
end Go.Proofs.W

namespace Go.Proofs.W
open Go.AM Go
set_option maxRecDepth 100000
set_option maxHeartbeats 1000000
theorem yp0 (n : Int) (h0 : 0 ≤ n) (h1 : n ≤ 1000000) : Reads Tryd.prog 76 false [.int .i64 n] (.int .i64 (ybb n)) := by
 have hd : 0 ≤ (n + 64 - 1).tdiv 64 ∧ (n + 64 - 1).tdiv 64 ≤ 1000064 := by rw [Int.tdiv_eq_ediv_of_nonneg (by omega)]; omega
 refine Reads.body (rs := [.tmp 2]) Tryd.func76 rfl Tryd.ntmps76 rfl (by simp) ?_
 generalize hQr : retQ _ _ _ = Qr
 refine AW.seq fun K1 hK1 => ?_
 refine AW.regionK 0 (fun _ => none) [0] [] ?_
 simp only [go_sem, reduceIte, reduceCtorEq, zA, zM, zE, zL, zD, zS, zP, zB, zI, zR]
 repeat with_reducible refine cj ?_ ?_
 all_goals try first | omega
 refine hK1 _ _ _ ?_; clear hK1
 refine AW.seq fun K2 hK2 => ?_
 refine AW.regionK 0 (fun _ => none) [2] [] ?_
 simp only [go_sem, reduceIte, reduceCtorEq, zA, zM, zE, zL, zD, zS, zP, zB, zI, zR]
 repeat with_reducible refine cj ?_ ?_
 all_goals try first | omega
 refine hK2 _ _ _ ?_; clear hK2
 refine AW.ret ?_
 rw [← hQr]
 simp only [go_sem, reduceIte, reduceCtorEq, zA, zM, zE, zL, zD, zS, zP, zB, zI, zR]
 exact Wk.of_eq (by simp [ybb])
theorem rwords_r (n : Int) (h0 : 0 ≤ n) (h1 : n ≤ 1000000) : Reads Tryd.prog 79 false [.int .i64 n] (.int .i64 (ybb n)) := by
 have hw := yig n
 have hd : 0 ≤ (n + 63).tdiv 64 ∧ (n + 63).tdiv 64 ≤ 1000064 := by rw [Int.tdiv_eq_ediv_of_nonneg (by omega)]; omega
 refine Reads.body (rs := [.tmp 2]) Tryd.func79 rfl Tryd.ntmps79 rfl (by simp) ?_
 generalize hQr : retQ _ _ _ = Qr
 refine AW.seq fun K1 hK1 => ?_
 refine AW.regionK 0 (fun _ => none) [0] [] ?_
 simp only [go_sem, reduceIte, reduceCtorEq, zA, zM, zE, zL, zD, zS, zP, zB, zI, zR]
 repeat with_reducible refine cj ?_ ?_
 all_goals try first | omega
 refine hK1 _ _ _ ?_; clear hK1
 refine AW.seq fun K2 hK2 => ?_
 refine AW.regionK 0 (fun _ => none) [2] [] ?_
 simp only [go_sem, reduceIte, reduceCtorEq, zA, zM, zE, zL, zD, zS, zP, zB, zI, zR]
 repeat with_reducible refine cj ?_ ?_
 all_goals try first | omega
 refine hK2 _ _ _ ?_; clear hK2
 refine AW.ret ?_
 rw [← hQr]
 simp only [go_sem, reduceIte, reduceCtorEq, zA, zM, zE, zL, zD, zS, zP, zB, zI, zR]
 exact Wk.of_eq (by rw [hw])
theorem bvalid_b (N : Int) (W : List Int) (hl : W.length ≤ 9223372036854775807) (hz : 0 < W.length) : Reads Tryd.prog 50 false [.agg [.int .i64 N, .rsl 1 (words W)]] (.bool (validS N W)) := by
 have hwr := yp0 N
 refine Reads.body (rs := [.tmp 2]) Tryd.func50 rfl Tryd.ntmps50 rfl (by simp) ?_
 generalize hQr : retQ _ _ _ = Qr
 refine AW.seq fun K1 hK1 => ?_
 refine AW.regionK 0 (fun _ => none) [1] [1] ?_
 simp only [go_sem, reduceIte, reduceCtorEq, zA, zM, zE, zL, zD, zS, zP, zB, zI, zR]
 repeat with_reducible refine cj ?_ ?_
 all_goals try first | omega
 refine hK1 _ _ _ ?_; clear hK1
 refine AW.seq fun K2 hK2 => ?_
 refine AW.seq fun K3 hK3 => ?_
 refine AW.regionD yd6 0 (fun ii => if ii = 14 then some (.reads false (.int .i64 (ybb N))) else none) [1, 20] [1] ?_
 simp only [go_sem, reduceIte, reduceCtorEq, zA, zM, zE, zL, zD, zS, zP, zB, zI, zR]
 repeat with_reducible refine cj ?_ ?_
 all_goals try first | ((intro hh; refine ⟨hh, ?_⟩; simp at hh; exact hwr (by omega) (by omega))) | (intros; (repeat' apply And.intro) <;> first | assumption | ((intro hh; refine ⟨hh, ?_⟩; simp at hh; exact hwr (by omega) (by omega)))) | omega | exact chk (by kernel_rfl) | exact ent (by kernel_rfl) | (intro hgd; exact absurd hgd (by decide)) | rfl | (simp only [go_sem, reduceIte, reduceCtorEq, zA, zM, zE, zL, zD, zS, zP, zB, zI, zR]; done) | (intro _hgd; simp_all [go_sem]; done)
 refine hK3 _ _ _ ?_; clear hK3
 refine AW.cond rfl (by simp only [go_sem, reduceIte, reduceCtorEq, zA, zM, zE, zL, zD, zS, zP, zB, zI, zR]) ?_ ?_
 ·intro hb
  try simp only [hB, decide_eq_true_eq, decide_eq_false_iff_not] at hb
  refine AW.seq fun K4 hK4 => ?_
  refine AW.regionK 0 (fun _ => none) [2] [] ?_
  simp only [go_sem, reduceIte, reduceCtorEq, zA, zM, zE, zL, zD, zS, zP, zB, zI, zR]
  repeat with_reducible refine cj ?_ ?_
  all_goals try first | omega
  refine hK4 _ _ _ ?_; clear hK4
  refine AW.ret ?_
  rw [← hQr]
  simp only [go_sem, reduceIte, reduceCtorEq, zA, zM, zE, zL, zD, zS, zP, zB, zI, zR]
  exact Wk.of_eq (by congr 1; symm; simp [validS]; intros; omega)
 ·intro hb
  try simp only [hB, decide_eq_true_eq, decide_eq_false_iff_not] at hb
  have hwn := ya8 (n := N) (by omega)
  have hmod : 0 ≤ N.tmod 64 ∧ N.tmod 64 < 64 := by rw [Int.tmod_eq_emod_of_nonneg (by omega)]; omega
  have hpre : 0 ≤ N ∧ N ≤ 512 ∧ (W.length : Int) = ybb N := by omega
  have hgw : (words W).getD ((W.length : Int) - 1).toNat [] = [.int .u64 (W.getD (W.length - 1) 0)] := by rw [show ((W.length : Int) - 1).toNat = W.length - 1 by omega]; exact ybo (by omega)
  refine AW.skip ?_
  refine hK2 _ _ _ ?_; clear hK2
  refine AW.seq fun K5 hK5 => ?_
  refine AW.regionK 0 (fun _ => none) [1, 3] [1] ?_
  simp only [go_sem, reduceIte, reduceCtorEq, zA, zM, zE, zL, zD, zS, zP, zB, zI, zR]
  repeat with_reducible refine cj ?_ ?_
  all_goals try first | omega
  refine hK5 _ _ _ ?_; clear hK5
  refine AW.seq fun K6 hK6 => ?_
  refine AW.regionK 0 (fun _ => none) [2] [] ?_
  simp only [go_sem, reduceIte, reduceCtorEq, zA, zM, zE, zL, zD, zS, zP, zB, zI, zR, hgw]
  repeat with_reducible refine cj ?_ ?_
  all_goals try first | ((intro hh; (repeat' apply And.intro) <;> first | exact hh | omega)) | (intros; (repeat' apply And.intro) <;> first | assumption | ((intro hh; (repeat' apply And.intro) <;> first | exact hh | omega))) | omega | (intro hgd; exact absurd hgd (by decide)) | rfl | (simp only [go_sem, reduceIte, reduceCtorEq, zA, zM, zE, zL, zD, zS, zP, zB, zI, zR, hgw]; done) | (intro _hgd; simp_all [go_sem]; done)
  refine hK6 _ _ _ ?_; clear hK6
  refine AW.ret ?_
  rw [← hQr]
  simp only [go_sem, reduceIte, reduceCtorEq, zA, zM, zE, zL, zD, zS, zP, zB, zI, zR]
  exact Wk.of_eq (by simp [validS, topB, hpre.1, hpre.2.1, hpre.2.2])
theorem yhf (i : Nat) : (words []).getD i [] = [] := rfl
theorem ydk : (words []).length = 0 := rfl
theorem bvalid_a (N : Int) : Reads Tryd.prog 50 false [.agg [.int .i64 N, .rsl 1 (words [])]] (.bool (validS N [])) := by
 have hwr := yp0 N
 refine Reads.body (rs := [.tmp 2]) Tryd.func50 rfl Tryd.ntmps50 rfl (by simp) ?_
 generalize hQr : retQ _ _ _ = Qr
 refine AW.seq fun K1 hK1 => ?_
 refine AW.regionK 0 (fun _ => none) [1] [1] ?_
 simp only [go_sem, reduceIte, reduceCtorEq, zA, zM, zE, zL, zD, zS, zP, zB, zI, zR]
 repeat with_reducible refine cj ?_ ?_
 all_goals try first | omega
 refine hK1 _ _ _ ?_; clear hK1
 refine AW.seq fun K2 hK2 => ?_
 refine AW.seq fun K3 hK3 => ?_
 refine AW.regionD yd6 0 (fun ii => if ii = 14 then some (.reads false (.int .i64 (ybb N))) else none) [1, 20] [1] ?_
 simp only [go_sem, reduceIte, reduceCtorEq, zA, zM, zE, zL, zD, zS, zP, zB, zI, zR, ydk]
 repeat with_reducible refine cj ?_ ?_
 all_goals try first | ((intro hh; refine ⟨hh, ?_⟩; simp at hh; exact hwr (by omega) (by omega))) | (intros; (repeat' apply And.intro) <;> first | assumption | ((intro hh; refine ⟨hh, ?_⟩; simp at hh; exact hwr (by omega) (by omega)))) | omega | exact chk (by kernel_rfl) | exact ent (by kernel_rfl) | (intro hgd; exact absurd hgd (by decide)) | rfl | (simp only [go_sem, reduceIte, reduceCtorEq, zA, zM, zE, zL, zD, zS, zP, zB, zI, zR, ydk]; done) | (intro _hgd; simp_all [go_sem]; done)
 refine hK3 _ _ _ ?_; clear hK3
 refine AW.cond rfl (by simp only [go_sem, reduceIte, reduceCtorEq, zA, zM, zE, zL, zD, zS, zP, zB, zI, zR]) ?_ ?_
 ·intro hb
  try simp only [hB, decide_eq_true_eq, decide_eq_false_iff_not] at hb
  refine AW.seq fun K4 hK4 => ?_
  refine AW.regionK 0 (fun _ => none) [2] [] ?_
  simp only [go_sem, reduceIte, reduceCtorEq, zA, zM, zE, zL, zD, zS, zP, zB, zI, zR]
  repeat with_reducible refine cj ?_ ?_
  all_goals try first | omega
  refine hK4 _ _ _ ?_; clear hK4
  refine AW.ret ?_
  rw [← hQr]
  simp only [go_sem, reduceIte, reduceCtorEq, zA, zM, zE, zL, zD, zS, zP, zB, zI, zR]
  exact Wk.of_eq (by congr 1; symm; simp [validS]; intros; omega)
 ·intro hb
  try simp only [hB, decide_eq_true_eq, decide_eq_false_iff_not] at hb
  have hwn := ya8 (n := N) (by omega)
  obtain rfl : N = 0 := by omega
  refine AW.skip ?_
  refine hK2 _ _ _ ?_; clear hK2
  refine AW.seq fun K5 hK5 => ?_
  refine AW.regionK 0 (fun _ => none) [1, 3] [1] ?_
  simp only [go_sem, reduceIte, reduceCtorEq, zA, zM, zE, zL, zD, zS, zP, zB, zI, zR, Int.zero_tmod]
  repeat with_reducible refine cj ?_ ?_
  all_goals try first | omega
  refine hK5 _ _ _ ?_; clear hK5
  refine AW.seq fun K6 hK6 => ?_
  refine AW.regionK 0 (fun _ => none) [2] [] ?_
  simp only [go_sem, reduceIte, reduceCtorEq, zA, zM, zE, zL, zD, zS, zP, zB, zI, zR, yhf, ydk, List.getD_nil]
  repeat with_reducible refine cj ?_ ?_
  all_goals try first | omega | (intros; (repeat' apply And.intro) <;> first | assumption | omega | decide) | (intro hgd; exact absurd hgd (by decide)) | rfl | (simp only [go_sem, reduceIte, reduceCtorEq, zA, zM, zE, zL, zD, zS, zP, zB, zI, zR, yhf, ydk, List.getD_nil]; done) | (intro _hgd; simp_all [go_sem]; done)
  refine hK6 _ _ _ ?_; clear hK6
  refine AW.ret ?_
  rw [← hQr]
  simp only [go_sem, reduceIte, reduceCtorEq, zA, zM, zE, zL, zD, zS, zP, zB, zI, zR]
  exact Wk.of_eq (by rfl)
theorem yd2 (N : Int) (W : List Int) (hl : W.length ≤ 9223372036854775807) : Reads Tryd.prog 50 false [.agg [.int .i64 N, .rsl 1 (words W)]] (.bool (validS N W)) := by
 cases W with
 | nil => exact bvalid_a N
 | cons w l => exact bvalid_b N (w :: l) hl (by simp)
def ye7 (n : Nat) (x : USet) : Bool := !(decide (x.N = n) && validS x.N x.W)
theorem vrow_r (rs : List USet) (x : USet) (hl : rs.length ≤ 9223372036854775807) (hx : x.W.length ≤ 9223372036854775807) : Reads Tryd.prog 78 false [.agg (rowV x), .rptr [.rsl 2 (rs.map rowV)]] (.bool (ye7 rs.length x)) := by
 have hv := yd2 x.N x.W hx
 unfold rowV
 refine Reads.body (rs := [.tmp 3]) Tryd.func78 rfl Tryd.ntmps78 rfl (by simp) ?_
 generalize hQr : retQ _ _ _ = Qr
 refine AW.seq fun K1 hK1 => ?_
 refine AW.regionK 0 (fun _ => none) [1, 2] [2] ?_
 simp only [go_sem, reduceIte, reduceCtorEq, zA, zM, zE, zL, zD, zS, zP, zB, zI, zR]
 repeat with_reducible refine cj ?_ ?_
 all_goals try first | omega
 refine hK1 _ _ _ ?_; clear hK1
 refine AW.seq fun K2 hK2 => ?_
 refine AW.regionK 0 (fun ii => if ii = 8 then some (.reads false (.bool (validS x.N x.W))) else none) [3] [] ?_
 simp only [go_sem, reduceIte, reduceCtorEq, zA, zM, zE, zL, zD, zS, zP, zB, zI, zR]
 repeat with_reducible refine cj ?_ ?_
 all_goals try first | ((intro hh; exact ⟨hh, hv⟩)) | (intros; (repeat' apply And.intro) <;> first | assumption | ((intro hh; exact ⟨hh, hv⟩))) | omega | exact ent (by kernel_rfl) | (intro hgd; exact absurd hgd (by decide)) | rfl | (simp only [go_sem, reduceIte, reduceCtorEq, zA, zM, zE, zL, zD, zS, zP, zB, zI, zR]; done) | (intro _hgd; simp_all [go_sem]; done)
 refine hK2 _ _ _ ?_; clear hK2
 refine AW.ret ?_
 rw [← hQr]
 simp only [go_sem, reduceIte, reduceCtorEq, zA, zM, zE, zL, zD, zS, zP, zB, zI, zR]
 exact Wk.of_eq (by simp [ye7])
theorem ixrow_r (rs : List USet) (hl : rs.length ≤ 9223372036854775807) (hx : ∀ x ∈ rs, x.W.length ≤ 9223372036854775807) : Reads Tryd.prog 64 false [.rsl 2 (rs.map rowV), .fn 78 [.rptr [.rsl 2 (rs.map rowV)]]] (.int .i64 (ixf (ye7 rs.length) rs)) := by
 have hbp := fun x hxm => vrow_r rs x hl (hx x hxm)
 refine Reads.body (rs := [.tmp 4]) Tryd.func64 rfl Tryd.ntmps64 rfl (by simp) ?_
 generalize hQr : retQ _ _ _ = Qr
 refine AW.seq fun K1 hK1 => ?_
 refine AW.regionK 0 (fun _ => none) [0, 1] [] ?_
 simp only [go_sem, reduceIte, reduceCtorEq, zA, zM, zE, zL, zD, zS, zP, zB, zI, zR]
 repeat with_reducible refine cj ?_ ?_
 all_goals try first | omega
 refine hK1 _ _ _ ?_; clear hK1
 refine AW.seq fun K2 hK2 => ?_
 refine AW.seq fun K3 hK3 => ?_
 refine AW.regionK 0 (fun _ => none) [0, 1, 7, 8] [] ?_
 simp only [go_sem, reduceIte, reduceCtorEq, zA, zM, zE, zL, zD, zS, zP, zB, zI, zR]
 repeat with_reducible refine cj ?_ ?_
 all_goals try first | omega
 refine hK3 _ _ _ ?_; clear hK3
 refine AW.block ?_
 refine AW.loopE (fun mm ee ss kk => ∃ (j : Nat), rs.length - j = mm ∧ ee = [(0, .rsl 2 (rs.map rowV)), (1, .fn 78 [.rptr [.rsl 2 (rs.map rowV)]]), (7, .int .i64 rs.length), (8, .int .i64 (j : Nat))] ∧ ss = [] ∧ (j ≤ rs.length ∧ (rs.take j).any (ye7 rs.length) = false)) ?_ ?_
 ·refine ⟨_, 0, rfl, ?henv, ?hstore, ?hst⟩
  case henv =>
   repeat' (first | rfl | refine yaa ?_ ?_ | refine yad ?_ ?_ ?_ ?_ | refine yah ?_ | refine yae ?_ | refine yai ?_ | refine yaj ?_ | refine yan ?_ ?_ ?_ | refine yak ?_ ?_ ?_ | refine yal ?_ | refine yaf ?_ ?_ | refine yab ?_ ?_)
   all_goals (first | (simp; done) | omega | (simp; omega))
  case hstore =>
   repeat' (first | rfl | refine yaa ?_ ?_ | refine yad ?_ ?_ ?_ ?_ | refine yah ?_ | refine yae ?_ | refine yai ?_ | refine yaj ?_ | refine yan ?_ ?_ ?_ | refine yak ?_ ?_ ?_ | refine yal ?_ | refine yaf ?_ ?_ | refine yab ?_ ?_)
   all_goals (first | (simp; done) | omega | (simp; omega))
  case hst =>
   first | trivial | omega | (simp; done) | (simp; omega)
 rintro mm ee ss kk ⟨j, rfl, rfl, rfl, hI⟩
 generalize hQl1 : ybd _ _ = Ql1
 obtain ⟨hj, hall⟩ := hI
 refine AW.seq fun K4 hK4 => ?_
 refine AW.regionK 0 (fun _ => none) [0, 1, 7, 8, 9] [] ?_
 simp only [go_sem, reduceIte, reduceCtorEq, zA, zM, zE, zL, zD, zS, zP, zB, zI, zR]
 repeat with_reducible refine cj ?_ ?_
 all_goals try first | omega
 refine hK4 _ _ _ ?_; clear hK4
 refine AW.seq fun K5 hK5 => ?_
 refine AW.cond rfl (by simp only [go_sem, reduceIte, reduceCtorEq, zA, zM, zE, zL, zD, zS, zP, zB, zI, zR]) ?_ ?_
 ·intro hb
  try simp only [hB, decide_eq_true_eq, decide_eq_false_iff_not] at hb
  obtain ⟨x, hx⟩ := getI (l := rs) (j := j) (by omega)
  have hgx := getV (f := rowV) hx
  have hats := yco (p := ye7 rs.length) hx
  have hbx := hbp x (List.mem_of_getElem? hx)
  refine AW.skip ?_
  refine hK5 _ _ _ ?_; clear hK5
  refine AW.seq fun K6 hK6 => ?_
  refine AW.block ?_
  refine AW.seq fun K7 hK7 => ?_
  refine AW.regionK 0 (fun _ => none) [0, 1, 5, 7, 8] [] ?_
  simp only [go_sem, reduceIte, reduceCtorEq, zA, zM, zE, zL, zD, zS, zP, zB, zI, zR]
  repeat with_reducible refine cj ?_ ?_
  all_goals try first | omega
  refine hK7 _ _ _ ?_; clear hK7
  refine AW.seq fun K8 hK8 => ?_
  refine AW.regionK 0 (fun ii => if ii = 5 then some (.reads false (.bool (ye7 rs.length x))) else none) [0, 1, 5, 7, 8, 16] [] ?_
  simp only [go_sem, reduceIte, reduceCtorEq, zA, zM, zE, zL, zD, zS, zP, zB, zI, zR, hgx, rowV]
  repeat with_reducible refine cj ?_ ?_
  all_goals try first | (exact hbx) | omega | exact ent (by kernel_rfl)
  refine hK8 _ _ _ ?_; clear hK8
  refine AW.cond rfl (by simp only [go_sem, reduceIte, reduceCtorEq, zA, zM, zE, zL, zD, zS, zP, zB, zI, zR]) ?_ ?_
  ·intro hb
   try simp only [hB, decide_eq_true_eq, decide_eq_false_iff_not] at hb
   refine AW.seq fun K9 hK9 => ?_
   refine AW.regionK 0 (fun _ => none) [4] [] ?_
   simp only [go_sem, reduceIte, reduceCtorEq, zA, zM, zE, zL, zD, zS, zP, zB, zI, zR]
   repeat with_reducible refine cj ?_ ?_
   all_goals try first | omega
   refine hK9 _ _ _ ?_; clear hK9
   refine AW.ret ?_
   rw [← hQl1]
   rw [← hQr]
   simp only [go_sem, reduceIte, reduceCtorEq, zA, zM, zE, zL, zD, zS, zP, zB, zI, zR]
   exact Wk.of_eq (by rw [yla hx hb hall])
  ·intro hb
   try simp only [hB, decide_eq_true_eq, decide_eq_false_iff_not] at hb
   refine AW.skip ?_
   refine hK6 _ _ _ ?_; clear hK6
   refine AW.regionK 0 (fun _ => none) [0, 1, 7, 8] [] ?_
   simp only [go_sem, reduceIte, reduceCtorEq, zA, zM, zE, zL, zD, zS, zP, zB, zI, zR]
   repeat with_reducible refine cj ?_ ?_
   all_goals try first | omega
   rw [← hQl1]
   change Exists _
   refine ⟨_, ?hm, j + 1, rfl, ?henv, ?hstore, ?hst⟩
   case henv =>
    repeat' (first | rfl | refine yaa ?_ ?_ | refine yad ?_ ?_ ?_ ?_ | refine yah ?_ | refine yae ?_ | refine yai ?_ | refine yaj ?_ | refine yan ?_ ?_ ?_ | refine yak ?_ ?_ ?_ | refine yal ?_ | refine yaf ?_ ?_ | refine yab ?_ ?_)
    all_goals (first | (simp; done) | omega | (simp; omega))
   case hstore =>
    repeat' (first | rfl | refine yaa ?_ ?_ | refine yad ?_ ?_ ?_ ?_ | refine yah ?_ | refine yae ?_ | refine yai ?_ | refine yaj ?_ | refine yan ?_ ?_ ?_ | refine yak ?_ ?_ ?_ | refine yal ?_ | refine yaf ?_ ?_ | refine yab ?_ ?_)
    all_goals (first | (simp; done) | omega | (simp; omega))
   case hst =>
    exact ⟨by omega, by rw [hats, hall, hb]; rfl⟩
   case hm => omega
 ·intro hb
  try simp only [hB, decide_eq_true_eq, decide_eq_false_iff_not] at hb
  refine AW.keep [] [] ?_
  try simp only [go_sem, reduceIte, reduceCtorEq, zA, zM, zE, zL, zD, zS, zP, zB, zI, zR]
  refine AW.exit ?_
  rw [← hQl1]
  refine hK2 _ _ _ ?_; clear hK2
  refine AW.seq fun K10 hK10 => ?_
  refine AW.regionK 0 (fun _ => none) [4] [] ?_
  simp only [go_sem, reduceIte, reduceCtorEq, zA, zM, zE, zL, zD, zS, zP, zB, zI, zR]
  repeat with_reducible refine cj ?_ ?_
  all_goals try first | omega
  refine hK10 _ _ _ ?_; clear hK10
  refine AW.ret ?_
  rw [← hQr]
  simp only [go_sem, reduceIte, reduceCtorEq, zA, zM, zE, zL, zD, zS, zP, zB, zI, zR]
  exact Wk.of_eq (by rw [List.take_of_length_le (by omega)] at hall; rw [yhc hall])
theorem ctrow_r (rs : List USet) (hl : rs.length ≤ 9223372036854775807) (hx : ∀ x ∈ rs, x.W.length ≤ 9223372036854775807) : Reads Tryd.prog 34 false [.rsl 2 (rs.map rowV), .fn 78 [.rptr [.rsl 2 (rs.map rowV)]]] (.bool (rs.any (ye7 rs.length))) := by
 have h := ixrow_r rs hl hx
 have hge := ypy (ye7 rs.length) rs
 refine Reads.body (rs := [.tmp 4]) Tryd.func34 rfl Tryd.ntmps34 rfl (by simp) ?_
 generalize hQr : retQ _ _ _ = Qr
 refine AW.seq fun K1 hK1 => ?_
 refine AW.regionK 0 (fun _ => none) [0, 1] [] ?_
 simp only [go_sem, reduceIte, reduceCtorEq, zA, zM, zE, zL, zD, zS, zP, zB, zI, zR]
 repeat with_reducible refine cj ?_ ?_
 all_goals try first | omega
 refine hK1 _ _ _ ?_; clear hK1
 refine AW.seq fun K2 hK2 => ?_
 refine AW.regionK 0 (fun ii => if ii = 2 then some (.reads false (.int .i64 (ixf (ye7 rs.length) rs))) else none) [4] [] ?_
 simp only [go_sem, reduceIte, reduceCtorEq, zA, zM, zE, zL, zD, zS, zP, zB, zI, zR]
 repeat with_reducible refine cj ?_ ?_
 all_goals try first | (exact h) | omega | exact ent (by kernel_rfl)
 refine hK2 _ _ _ ?_; clear hK2
 refine AW.ret ?_
 rw [← hQr]
 simp only [go_sem, reduceIte, reduceCtorEq, zA, zM, zE, zL, zD, zS, zP, zB, zI, zR]
 exact Wk.of_eq (by rw [hge])
theorem not_any_all {α : Type} (p : α → Bool) (l : List α) : (!l.any fun x => !p x) = l.all p := by
 induction l with
 | nil => rfl
 | cons a l ih => simp only [List.any_cons, List.all_cons, Bool.not_or, ih, Bool.not_not]
theorem validR_any (rs : List USet) : yc9 rs = (decide (rs.length ≤ 512) && !rs.any (ye7 rs.length)) := by
 unfold yc9 ye7; rw [not_any_all]
theorem rvalid_r (rs : List USet) (hl : rs.length ≤ 9223372036854775807) (hx : ∀ x ∈ rs, x.W.length ≤ 9223372036854775807) : Reads Tryd.prog 53 false [relV rs] (.bool (yc9 rs)) := by
 have h := Reads.flat (ctrow_r rs hl hx) rfl
 have hv := validR_any rs
 have e : ((rs.length : Int) ≤ 512) = (rs.length ≤ 512) := by apply propext; omega
 unfold relV
 refine Reads.body (rs := [.tmp 2]) Tryd.func53 rfl Tryd.ntmps53 rfl (by simp) ?_
 generalize hQr : retQ _ _ _ = Qr
 refine AW.seq fun K1 hK1 => ?_
 refine AW.regionK 0 (fun _ => none) [1] [1] ?_
 simp only [go_sem, reduceIte, reduceCtorEq, zA, zM, zE, zL, zD, zS, zP, zB, zI, zR]
 repeat with_reducible refine cj ?_ ?_
 all_goals try first | omega
 refine hK1 _ _ _ ?_; clear hK1
 refine AW.seq fun K2 hK2 => ?_
 refine AW.regionK 0 (fun ii => if ii = 8 then some (.reads true (.bool (rs.any (ye7 rs.length)))) else none) [2] [] ?_
 simp only [go_sem, reduceIte, reduceCtorEq, zA, zM, zE, zL, zD, zS, zP, zB, zI, zR]
 repeat with_reducible refine cj ?_ ?_
 all_goals try first | ((intro hh; exact ⟨hh, h⟩)) | (intros; (repeat' apply And.intro) <;> first | assumption | ((intro hh; exact ⟨hh, h⟩))) | omega | exact ent (by kernel_rfl) | (intro hgd; exact absurd hgd (by decide)) | rfl | (simp only [go_sem, reduceIte, reduceCtorEq, zA, zM, zE, zL, zD, zS, zP, zB, zI, zR]; done) | (intro _hgd; simp_all [go_sem]; done)
 refine hK2 _ _ _ ?_; clear hK2
 refine AW.ret ?_
 rw [← hQr]
 simp only [go_sem, reduceIte, reduceCtorEq, zA, zM, zE, zL, zD, zS, zP, zB, zI, zR]
 exact Wk.of_eq (by rw [hv]; simp [e])
end Go.Proofs.W

namespace Go.Proofs.W
open Go.AM Go
set_option maxRecDepth 100000
set_option maxHeartbeats 1000000
def goodRow (n : Nat) (x : USet) : Bool := decide (x.N = n) && validS n x.W
theorem validR_good (rs : List USet) : yc9 rs = (decide (rs.length ≤ 512) && rs.all (goodRow rs.length)) := by
 unfold yc9
 have : (fun x : USet => decide (x.N = (rs.length : Int)) && validS x.N x.W) = goodRow rs.length := by
  funext x
  unfold goodRow
  by_cases h : x.N = (rs.length : Int)
  ·rw [h]
  ·simp [h]
 rw [this]
end Go.Proofs.W

namespace Go.Proofs.W
open Go.AM Go
set_option maxRecDepth 100000
set_option maxHeartbeats 1000000
theorem yp1 (n : Nat) (t : List (List Bool)) (hs : Sq n t) (hn : n ≤ 512) (i j : Nat) (hi : i < n) (hj : j < n) : Reads Tryd.prog 80 false [relB t, .int .i64 i, .int .i64 j] (.bool (atT t i j)) := by
 have hrl := hs.rowLen hi
 have hgt := yeu (t := t) (i := i) (by rw [hs.len]; exact hi)
 have htl := ybt t
 have hlen := hs.len
 have hat : atT t i j = (rowT t i).getD j false := rfl
 generalize hb : rowT t i = b at *
 have hwl := ya1 b
 have hd := ydv (i := (j : Int)) (n := b.length) (by omega) (by omega)
 have hwn := ya8 (n := (b.length : Int)) (by omega)
 have hgw := ybo (l := setW b b.length) (i := ((j : Int).tdiv 64).toNat) (by omega)
 have hbt := ypx (ydb b) (i := (j : Int)) (by omega)
 rw [yl4 (by omega), ← hat] at hbt
 unfold relB
 refine Reads.body (rs := [.tmp 6]) Tryd.func80 rfl Tryd.ntmps80 rfl (by simp) ?_
 generalize hQr : retQ _ _ _ = Qr
 refine AW.seq fun K1 hK1 => ?_
 refine AW.regionK 0 (fun _ => none) [1, 2, 3] [3] ?_
 simp only [go_sem, reduceIte, reduceCtorEq, zA, zM, zE, zL, zD, zS, zP, zB, zI, zR]
 repeat with_reducible refine cj ?_ ?_
 all_goals try first | omega
 refine hK1 _ _ _ ?_; clear hK1
 refine AW.seq fun K2 hK2 => ?_
 refine AW.regionK 0 (fun _ => none) [6] [] ?_
 simp only [go_sem, reduceIte, reduceCtorEq, zA, zM, zE, zL, zD, zS, zP, zB, zI, zR, hgt, rowB, hgw]
 repeat with_reducible refine cj ?_ ?_
 all_goals try first | omega
 refine hK2 _ _ _ ?_; clear hK2
 refine AW.ret ?_
 rw [← hQr]
 simp only [go_sem, reduceIte, reduceCtorEq, zA, zM, zE, zL, zD, zS, zP, zB, zI, zR]
 exact Wk.of_eq (by rw [hbt])
theorem ys6 (n : Nat) (t : List (List Bool)) (hs : Sq n t) (hn : n ≤ 512) (i j : Nat) (hi : i < n) (hj : j < n) (g v : Nat) (kc : Option Nat) :
  Upd Tryd.prog 56 [(0, some ⟨g, v, 2, tabO t⟩)] [.agg [.sl ⟨0, g, none⟩ 0 n kc], .int .i64 i, .int .i64 j] (fun _ => .tup []) (fun k => [(0, some ⟨g, k, 2, tabO (t.set i ((rowT t i).set j true))⟩)]) := by
 have hrl := hs.rowLen hi
 have hlen := hs.len
 have hgt := yf1 (t := t) (i := i) (by omega)
 have htl := yb2 t
 have hts := yl3 t i
 generalize hb : rowT t i = b at *
 have hwl := ya1 b
 have hd := ydv (i := (j : Int)) (n := b.length) (by omega) (by omega)
 have hwn := ya8 (n := (b.length : Int)) (by omega)
 have hgw := ybo (l := setW b b.length) (i := ((j : Int).tdiv 64).toNat) (by omega)
 have hsb := setBit_setW b (i := j) (by omega)
 unfold ye5 at hsb
 have hro : rowO (b.set j true) = [.int .i64 b.length, .osl 1 (words (setW (b.set j true) b.length))] := by simp [rowO]
 have hts2 : (tabO t).set i [.int .i64 b.length, .osl 1 (words (setW (b.set j true) b.length))] = tabO (t.set i (b.set j true)) := by rw [← hro]; exact hts _
 refine Upd.of_body (rs := []) Tryd.func56 rfl Tryd.ntmps56 rfl (by simp) ?_
 intro k0 k hk0 hk1
 generalize hQr : retQ _ _ _ = Qr
 refine AW.seq fun K1 hK1 => ?_
 refine AW.regionK 100 (fun _ => none) [1, 2, 3] [0, 103] ?_
 simp only [go_sem, reduceIte, reduceCtorEq, zA, zM, zE, zL, zD, zS, zP, zB, zI, zR]
 repeat with_reducible refine cj ?_ ?_
 all_goals try first | omega
 refine hK1 _ _ _ ?_; clear hK1
 refine AW.regionD yd6 100 (fun _ => none) [] [0] ?_
 simp only [go_sem, reduceIte, reduceCtorEq, zA, zM, zE, zL, zD, zS, zP, zB, zI, zR, hgt, rowO, hgw, hsb, hts2]
 repeat with_reducible refine cj ?_ ?_
 all_goals try first | omega | exact chk (by kernel_rfl)
 rw [← hQr]
 simp only [go_sem, reduceIte, reduceCtorEq, zA, zM, zE, zL, zD, zS, zP, zB, zI, zR]
 refine ⟨[(0, 0, false)], ?_⟩
 simp only [go_sem, reduceIte, zE, yas]
theorem set_getD_self {α : Type} (l : List α) (i : Nat) (d : α) : l.set i (l.getD i d) = l := by
 refine List.ext_getElem? fun k => ?_
 rw [List.getElem?_set]
 split
 ·rename_i h; subst h
  split
  ·rename_i h2; simp [List.getD_eq_getElem?_getD, h2]
  ·rename_i h2; rw [List.getElem?_eq_none (by omega)]
 ·rfl
/-- A row takes the members of another one up to a word. -/
def ydf (A B : List Int) (j : Nat) : List Int := List.zipWith (bOr .u64) (A.take j) (B.take j) ++ A.drop j
theorem ykh (A B : List Int) : ydf A B 0 = A := by simp [ydf]
theorem yld {A B : List Int} (h : A.length = B.length) (j : Nat) : (ydf A B j).length = A.length := by simp [ydf]; omega
theorem orUpto_all {A B : List Int} (h : A.length = B.length) {j : Nat} (hj : A.length ≤ j) : ydf A B j = List.zipWith (bOr .u64) A B := by
 unfold ydf; rw [List.take_of_length_le hj, List.take_of_length_le (by omega), List.drop_of_length_le hj]; simp
theorem yle {A B : List Int} (h : A.length = B.length) {j k : Nat} (hk : j ≤ k) : (ydf A B j).getD k 0 = A.getD k 0 := by
 unfold ydf
 by_cases hj : j ≤ A.length
 ·have hl : (List.zipWith (bOr .u64) (A.take j) (B.take j)).length = j := by simp; omega
  rw [List.getD_eq_getElem?_getD, List.getElem?_append_right (by omega), hl, List.getElem?_drop, List.getD_eq_getElem?_getD]
  congr 2; omega
 ·have hl : (List.zipWith (bOr .u64) (A.take j) (B.take j)).length = A.length := by simp; omega
  rw [List.drop_of_length_le (by omega), List.append_nil, Go.AM.getD_out (by omega), Go.AM.getD_out (by omega)]
theorem orUpto_succ {A B : List Int} (h : A.length = B.length) {j : Nat} (hj : j < A.length) : ydf A B (j + 1) = (ydf A B j).set j (bOr .u64 (A.getD j 0) (B.getD j 0)) := by
 unfold ydf
 have hl : (List.zipWith (bOr .u64) (A.take j) (B.take j)).length = j := by simp; omega
 rw [List.set_append_right _ _ (by omega), hl, Nat.sub_self, List.drop_eq_getElem_cons hj, List.set_cons_zero, List.take_succ_eq_append_getElem hj, List.take_succ_eq_append_getElem (by omega), List.zipWith_append (by simp; omega)]
 simp [List.getD_eq_getElem?_getD, hj, show j < B.length by omega]
theorem merge_s (n : Nat) (t : List (List Bool)) (hs : Sq n t) (hn : n ≤ 512) (i q : Nat) (hi : i < n) (hq : q < n) (g v : Nat) (kc kd : Option Nat) :
  Upd Tryd.prog 101 [(0, some ⟨g, v, 2, tabO t⟩)] [.agg [.int .i64 n, .sl ⟨0, g, some (i, 1, v)⟩ 0 (ybb n).toNat kc], .agg [.int .i64 n, .sl ⟨0, g, some (q, 1, v)⟩ 0 (ybb n).toNat kd]] (fun _ => .tup []) (fun k => [(0, some ⟨g, k, 2, tabO (t.set i (List.zipWith (· || ·) (rowT t i) (rowT t q)))⟩)]) := by
 have hrl := hs.rowLen hi
 have hrq := hs.rowLen hq
 have hlen := hs.len
 have hts := yl3 t i
 have htl := yb2 t
 have hz := ynp bitOp_or (a := rowT t i) (b := rowT t q) (by omega)
 generalize ha : rowT t i = a at *
 generalize hb' : rowT t q = b at *
 have hla := ya1 a
 have hlb := ya1 b
 have hwn := ya8 (n := (n : Int)) (by omega)
 have hro : ∀ W, rowO (List.zipWith (· || ·) a b) = [.int .i64 n, .osl 1 (words W)] ↔ words (setW (List.zipWith (· || ·) a b) a.length) = words W := fun W => by
  have e : (List.zipWith (· || ·) a b).length = a.length := by simp; omega
  unfold rowO; rw [e, hrl]; simp
 have hiq : i = q → a = b := fun e => by rw [← ha, ← hb', e]
 rw [show (a.length : Int) = n by omega] at hla
 rw [show (b.length : Int) = n by omega] at hlb
 have hAB' : a = b → setW a a.length = setW b b.length := fun e => by rw [e]
 have hgq0 : (tabO t).getD q [] = [.int .i64 n, .osl 1 (words (setW b b.length))] := by rw [yf1 (by omega), hb', rowO, hrq]
 have hg0 : (tabO t).getD i [] = [.int .i64 n, .osl 1 (words (setW a a.length))] := by rw [yf1 (by omega), ha, rowO, hrl]
 generalize hA : setW a a.length = A at *
 generalize hB : setW b b.length = B at *
 have hAB : A.length = B.length := by omega
 have hset : ∀ W, ((tabO t).set i [.int .i64 n, .osl 1 (words W)]).getD i [] = [.int .i64 n, .osl 1 (words W)] := fun W => Go.AM.getD_set_eq (by omega) _ _
 have hfix : (tabO t).set i [.int .i64 n, .osl 1 (words A)] = tabO t := by
  rw [← hg0]; exact set_getD_self _ _ _
 have hC : ∀ j, j < B.length → ∃ C : List Int, ((tabO t).set i [.int .i64 n, .osl 1 (words (ydf A B j))]).getD q [] = [.int .i64 n, .osl 1 (words C)] ∧ C.length = B.length ∧ C.getD j 0 = B.getD j 0 := fun j hj => by
  by_cases e : i = q
  ·refine ⟨ydf A B j, by rw [← e]; exact hset _, by rw [yld hAB]; exact hAB, ?_⟩
   rw [yle hAB (Nat.le_refl _), hAB' (hiq e)]
  ·exact ⟨B, by rw [Go.AM.getD_set_ne e, hgq0], rfl, rfl⟩
 have hgq1 : ((tabO t).set i [.int .i64 n, .osl 1 (words (ydf A B 0))]).getD q [] = [.int .i64 n, .osl 1 (words B)] := by rw [ykh, hfix, hgq0]
 refine Upd.of_body (rs := []) Tryd.func101 rfl Tryd.ntmps101 rfl (by simp) ?_
 intro k0 k hk0 hk1
 generalize hQr : retQ _ _ _ = Qr
 refine AW.seq fun K1 hK1 => ?_
 refine AW.regionK 100 (fun _ => none) [2, 3] [0, 102, 103] ?_
 simp only [go_sem, reduceIte, reduceCtorEq, zA, zM, zE, zL, zD, zS, zP, zB, zI, zR]
 repeat with_reducible refine cj ?_ ?_
 all_goals try first | omega
 refine hK1 _ _ _ ?_; clear hK1
 refine AW.seq fun K2 hK2 => ?_
 refine AW.regionK 100 (fun _ => none) [2, 7, 8, 9] [0, 102] ?_
 simp only [go_sem, reduceIte, reduceCtorEq, zA, zM, zE, zL, zD, zS, zP, zB, zI, zR, hgq0]
 repeat with_reducible refine cj ?_ ?_
 all_goals try first | omega
 refine hK2 _ _ _ ?_; clear hK2
 refine AW.block ?_
 refine AW.loopE (fun mm ee ss kk => ∃ (j g2 v2 : Nat), B.length - j = mm ∧ ee = [(2, .ptr ⟨102, g2, none⟩ 0 0), (7, .sl ⟨0, g, some (q, 1, v)⟩ 0 (ybb n).toNat kd), (8, .int .i64 (ybb n).toNat), (9, .int .i64 (j : Nat))] ∧ ss = [(0, some ⟨g, v, 2, (tabO t).set i [.int .i64 n, .osl 1 (words (ydf A B j))]⟩), (102, some ⟨g2, v2, 2, [[.int .i64 n, .sl ⟨0, g, some (i, 1, v)⟩ 0 (ybb n).toNat kc]]⟩)] ∧ (j ≤ B.length)) ?_ ?_
 ·refine ⟨_, 0, ?_, ?_, rfl, ?henv, ?hstore, ?hst⟩
  case henv =>
   repeat' (first | rfl | refine yaa ?_ ?_ | refine yad ?_ ?_ ?_ ?_ | refine yah ?_ | refine yae ?_ | refine yai ?_ | refine yaj ?_ | refine yan ?_ ?_ ?_ | refine yak ?_ ?_ ?_ | refine yal ?_ | refine yaf ?_ ?_ | refine yab ?_ ?_)
   all_goals (first | (simp; done) | omega | (simp; omega))
  case hstore =>
   repeat' (first | rfl | refine yaa ?_ ?_ | refine yad ?_ ?_ ?_ ?_ | refine yah ?_ | refine yae ?_ | refine yai ?_ | refine yaj ?_ | refine yan ?_ ?_ ?_ | refine yak ?_ ?_ ?_ | refine yal ?_ | refine yaf ?_ ?_ | refine yab ?_ ?_)
   all_goals (first | (rw [ykh, hfix]; done) | (simp; done))
  case hst =>
   first | trivial | omega | (simp; done) | (simp; omega)
 rintro mm ee ss kk ⟨j, g2, v2, rfl, rfl, rfl, hI⟩
 generalize hQl1 : ybd _ _ = Ql1
 refine AW.seq fun K3 hK3 => ?_
 refine AW.regionK 100 (fun _ => none) [2, 7, 8, 9, 10] [0, 102] ?_
 simp only [go_sem, reduceIte, reduceCtorEq, zA, zM, zE, zL, zD, zS, zP, zB, zI, zR]
 repeat with_reducible refine cj ?_ ?_
 all_goals try first | omega
 refine hK3 _ _ _ ?_; clear hK3
 refine AW.seq fun K4 hK4 => ?_
 refine AW.cond rfl (by simp only [go_sem, reduceIte, reduceCtorEq, zA, zM, zE, zL, zD, zS, zP, zB, zI, zR]) ?_ ?_
 ·intro hb
  try simp only [hB, decide_eq_true_eq, decide_eq_false_iff_not] at hb
  obtain ⟨C, hC1, hC2, hC3⟩ := hC j (by omega)
  have hgb := ybo (l := C) (i := j) (by omega)
  rw [hC3] at hgb
  have hol := yld hAB j
  have hgo := ybo (l := ydf A B j) (i := j) (by omega)
  rw [yle hAB (Nat.le_refl _)] at hgo
  have hos := orUpto_succ hAB (j := j) (by omega)
  refine AW.skip ?_
  refine hK4 _ _ _ ?_; clear hK4
  refine AW.seq fun K5 hK5 => ?_
  refine AW.block ?_
  refine AW.seq fun K6 hK6 => ?_
  refine AW.regionK 100 (fun _ => none) [2, 4, 5, 7, 8, 9] [0, 102] ?_
  simp only [go_sem, reduceIte, reduceCtorEq, zA, zM, zE, zL, zD, zS, zP, zB, zI, zR, hC1, hgb]
  repeat with_reducible refine cj ?_ ?_
  all_goals try first | omega
  refine hK6 _ _ _ ?_; clear hK6
  refine AW.regionK 100 (fun _ => none) [2, 7, 8, 9] [0, 102] ?_
  simp only [go_sem, reduceIte, reduceCtorEq, zA, zM, zE, zL, zD, zS, zP, zB, zI, zR, hset, hgo, List.set_set]
  repeat with_reducible refine cj ?_ ?_
  all_goals try first | omega
  refine hK5 _ _ _ ?_; clear hK5
  refine AW.regionK 100 (fun _ => none) [2, 7, 8, 9] [0, 102] ?_
  simp only [go_sem, reduceIte, reduceCtorEq, zA, zM, zE, zL, zD, zS, zP, zB, zI, zR]
  repeat with_reducible refine cj ?_ ?_
  all_goals try first | omega
  rw [← hQl1]
  change Exists _
  refine ⟨_, ?hm, j + 1, ?_, ?_, rfl, ?henv, ?hstore, ?hst⟩
  case henv =>
   repeat' (first | rfl | refine yaa ?_ ?_ | refine yad ?_ ?_ ?_ ?_ | refine yah ?_ | refine yae ?_ | refine yai ?_ | refine yaj ?_ | refine yan ?_ ?_ ?_ | refine yak ?_ ?_ ?_ | refine yal ?_ | refine yaf ?_ ?_ | refine yab ?_ ?_)
   all_goals (first | (simp; done) | omega | (simp; omega))
  case hstore =>
   repeat' (first | rfl | refine yaa ?_ ?_ | refine yad ?_ ?_ ?_ ?_ | refine yah ?_ | refine yae ?_ | refine yai ?_ | refine yaj ?_ | refine yan ?_ ?_ ?_ | refine yak ?_ ?_ ?_ | refine yal ?_ | refine yaf ?_ ?_ | refine yab ?_ ?_)
   all_goals (rw [hos])
  case hst =>
   first | trivial | omega | (simp; done) | (simp; omega)
  case hm => omega
 ·intro hb
  try simp only [hB, decide_eq_true_eq, decide_eq_false_iff_not] at hb
  have hj : j = B.length := by omega
  subst hj
  have hoa := orUpto_all hAB (j := B.length) (by omega)
  rw [hoa]
  have hfin : (tabO t).set i [.int .i64 n, .osl 1 (words (List.zipWith (bOr .u64) A B))] = tabO (t.set i (List.zipWith (· || ·) a b)) := by
   rw [← hts, (hro (List.zipWith (bOr .u64) A B)).2 (by rw [hz])]
  rw [hfin]
  refine AW.keep [] [0] ?_
  try simp only [go_sem, reduceIte, reduceCtorEq, zA, zM, zE, zL, zD, zS, zP, zB, zI, zR]
  refine AW.exit ?_
  rw [← hQl1]
  rw [← hQr]
  simp only [go_sem, reduceIte, reduceCtorEq, zA, zM, zE, zL, zD, zS, zP, zB, zI, zR]
  refine ⟨[(0, 0, false)], ?_⟩
  simp only [go_sem, reduceIte, zE, yas]
theorem rep_succ (n j : Nat) (b : List Bool) : List.replicate (j + 1) b = List.replicate j b ++ [b] := List.replicate_succ'
theorem yot (n : Nat) (hn : n ≤ 512) : Upd Tryd.prog 54 [] [.int .i64 n] (fun k => .agg [.sl ⟨0, k, none⟩ 0 n none]) (fun k => [(0, some ⟨k, k, 2, tabO (List.replicate n (List.replicate n false))⟩)]) := by
 have hwn := ya8 (n := (n : Int)) (by omega)
 have hrw := rwords_r n (by omega) (by omega)
 have hro : rowO (List.replicate n false) = [.int .i64 n, .osl 1 (words (List.replicate (ybb n).toNat 0))] := by unfold rowO; simp only [List.length_replicate]; rw [setW_zero]
 have hwz : words (List.replicate (ybb n).toNat 0) = List.replicate (ybb n).toNat [.int .u64 0] := by simp [words]
 refine Upd.of_body (rs := [.cell 2 24]) Tryd.func54 rfl Tryd.ntmps54 rfl (by simp) ?_
 intro k0 k hk0 hk1
 generalize hQr : retQ _ _ _ = Qr
 refine AW.seq fun K1 hK1 => ?_
 refine AW.regionK 100 (fun _ => none) [0, 2] [102] ?_
 simp only [go_sem, reduceIte, reduceCtorEq, zA, zM, zE, zL, zD, zS, zP, zB, zI, zR]
 repeat with_reducible refine cj ?_ ?_
 all_goals try first | omega
 refine hK1 _ _ _ ?_; clear hK1
 refine AW.seq fun K2 hK2 => ?_
 refine AW.regionK 100 (fun _ => none) [0, 2, 3] [102, 103] ?_
 simp only [go_sem, reduceIte, reduceCtorEq, zA, zM, zE, zL, zD, zS, zP, zB, zI, zR]
 repeat with_reducible refine cj ?_ ?_
 all_goals try first | omega
 refine hK2 _ _ _ ?_; clear hK2
 refine AW.seq fun K3 hK3 => ?_
 refine AW.seq fun K4 hK4 => ?_
 refine AW.regionK 100 (fun _ => none) [0, 2, 3, 4, 5] [102, 103] ?_
 simp only [go_sem, reduceIte, reduceCtorEq, zA, zM, zE, zL, zD, zS, zP, zB, zI, zR]
 repeat with_reducible refine cj ?_ ?_
 all_goals try first | omega
 refine hK4 _ _ _ ?_; clear hK4
 refine AW.block ?_
 refine AW.nilCellK 103 0 0 200 2 ?_
 simp only [go_sem, reduceIte, zE]
 repeat refine cj ?_ ?_
 any_goals first | decide | omega
 refine AW.keep [0, 2, 3, 4, 5] [102, 103, 200] ?_
 simp only [go_sem, reduceIte, zE]
 refine AW.loopE (fun mm ee ss kk => ∃ (j g2 v2 g3 v3 g v : Nat), n - j = mm ∧ ee = [(0, .int .i64 n), (2, .ptr ⟨102, g2, none⟩ 0 0), (3, .ptr ⟨103, g3, none⟩ 0 0), (4, .int .i64 n), (5, .int .i64 (j : Nat))] ∧ ss = [(102, some ⟨g2, v2, 1, [[.nilsl]]⟩), (103, some ⟨g3, v3, 1, [[.sl ⟨200, g, none⟩ 0 j none]]⟩), (200, some ⟨g, v, 2, tabO (List.replicate j (List.replicate n false))⟩)] ∧ (j ≤ n)) ?_ ?_
 ·refine ⟨_, 0, ?_, ?_, ?_, ?_, ?_, ?_, rfl, ?henv, ?hstore, ?hst⟩
  case henv =>
   repeat' (first | rfl | refine yaa ?_ ?_ | refine yad ?_ ?_ ?_ ?_ | refine yah ?_ | refine yae ?_ | refine yai ?_ | refine yaj ?_ | refine yan ?_ ?_ ?_ | refine yak ?_ ?_ ?_ | refine yal ?_ | refine yaf ?_ ?_ | refine yab ?_ ?_)
   all_goals (first | (simp; done) | omega | (simp; omega))
  case hstore =>
   repeat' (first | rfl | refine yaa ?_ ?_ | refine yad ?_ ?_ ?_ ?_ | refine yah ?_ | refine yae ?_ | refine yai ?_ | refine yaj ?_ | refine yan ?_ ?_ ?_ | refine yak ?_ ?_ ?_ | refine yal ?_ | refine yaf ?_ ?_ | refine yab ?_ ?_)
   all_goals (first | (simp; done) | omega | (simp; omega))
  case hst =>
   first | trivial | omega | (simp; done) | (simp; omega)
 rintro mm ee ss kk ⟨j, g2, v2, g3, v3, g, v, rfl, rfl, rfl, hI⟩
 generalize hQl1 : ybd _ _ = Ql1
 refine AW.seq fun K5 hK5 => ?_
 refine AW.regionK 100 (fun _ => none) [0, 2, 3, 4, 5, 6] [102, 103, 200] ?_
 simp only [go_sem, reduceIte, reduceCtorEq, zA, zM, zE, zL, zD, zS, zP, zB, zI, zR]
 repeat with_reducible refine cj ?_ ?_
 all_goals try first | omega
 refine hK5 _ _ _ ?_; clear hK5
 refine AW.seq fun K6 hK6 => ?_
 refine AW.cond rfl (by simp only [go_sem, reduceIte, reduceCtorEq, zA, zM, zE, zL, zD, zS, zP, zB, zI, zR]) ?_ ?_
 ·intro hb
  try simp only [hB, decide_eq_true_eq, decide_eq_false_iff_not] at hb
  have htl : (List.replicate j (List.replicate n false)).length = j := by simp
  have htk : (tabO (List.replicate j (List.replicate n false))).take j = tabO (List.replicate j (List.replicate n false)) := List.take_of_length_le (by rw [yb2, htl]; exact Nat.le_refl _)
  have hgl : ∀ x : List AV, (tabO (List.replicate j (List.replicate n false)) ++ [x]).getD j [] = x := fun x => by rw [List.getD_eq_getElem?_getD, List.getElem?_append_right (by rw [yb2, htl]; exact Nat.le_refl _), yb2, htl]; simp
  have hsl : ∀ x y : List AV, (tabO (List.replicate j (List.replicate n false)) ++ [x]).set j y = tabO (List.replicate j (List.replicate n false)) ++ [y] := fun x y => by rw [List.set_append_right _ _ (by rw [yb2, htl]; exact Nat.le_refl _), yb2, htl]; simp
  have hll : ∀ x : List AV, (tabO (List.replicate j (List.replicate n false)) ++ [x]).length = j + 1 := fun x => by simp [yb2]
  have hrs := rep_succ n j (List.replicate n false)
  have hta := tabO_app (List.replicate j (List.replicate n false)) (List.replicate n false)
  rw [hro, ← hrs] at hta
  refine AW.skip ?_
  refine hK6 _ _ _ ?_; clear hK6
  refine AW.seq fun K7 hK7 => ?_
  refine AW.block ?_
  refine AW.regionD yd6 100 (fun ii => if ii = 4 then some (.reads false (.int .i64 (ybb n))) else none) [0, 2, 3, 4, 5] [102, 103, 112, 200] ?_
  simp only [go_sem, reduceIte, reduceCtorEq, zA, zM, zE, zL, zD, zS, zP, zB, zI, zR, htk, yb2, htl]
  repeat with_reducible refine cj ?_ ?_
  all_goals try first | (exact hrw) | omega | exact chk (by kernel_rfl) | exact ent (by kernel_rfl) | (simp [scP, ybi]; done) | exact ybe _ | exact ybj _ | exact ybf _
  refine hK7 _ _ _ ?_; clear hK7
  refine AW.adoptK 200 j 1 112 ?_
  simp only [go_sem, reduceIte, zE, hgl, hsl, hll]
  repeat refine cj ?_ ?_
  any_goals first | decide | (rw [← hwz]; exact noOsl_words _) | omega
  refine AW.keep [0, 2, 3, 4, 5] [102, 103, 200] ?_
  simp only [go_sem, reduceIte, zE]
  rw [← hwz, hta]
  refine AW.regionK 100 (fun _ => none) [0, 2, 3, 4, 5] [102, 103, 200] ?_
  simp only [go_sem, reduceIte, reduceCtorEq, zA, zM, zE, zL, zD, zS, zP, zB, zI, zR]
  repeat with_reducible refine cj ?_ ?_
  all_goals try first | omega
  rw [← hQl1]
  change Exists _
  refine ⟨_, ?hm, j + 1, ?_, ?_, ?_, ?_, ?_, ?_, rfl, ?henv, ?hstore, ?hst⟩
  case henv =>
   repeat' (first | rfl | refine yaa ?_ ?_ | refine yad ?_ ?_ ?_ ?_ | refine yah ?_ | refine yae ?_ | refine yai ?_ | refine yaj ?_ | refine yan ?_ ?_ ?_ | refine yak ?_ ?_ ?_ | refine yal ?_ | refine yaf ?_ ?_ | refine yab ?_ ?_)
   all_goals (first | (simp; done) | omega | (simp; omega))
  case hstore =>
   repeat' (first | rfl | refine yaa ?_ ?_ | refine yad ?_ ?_ ?_ ?_ | refine yah ?_ | refine yae ?_ | refine yai ?_ | refine yaj ?_ | refine yan ?_ ?_ ?_ | refine yak ?_ ?_ ?_ | refine yal ?_ | refine yaf ?_ ?_ | refine yab ?_ ?_)
   all_goals (first | (simp; done) | omega | (simp; omega))
  case hst =>
   first | trivial | omega | (simp; done) | (simp; omega)
  case hm => omega
 ·intro hb
  try simp only [hB, decide_eq_true_eq, decide_eq_false_iff_not] at hb
  refine AW.keep [2, 3] [102, 103, 112, 115, 200] ?_
  try simp only [go_sem, reduceIte, reduceCtorEq, zA, zM, zE, zL, zD, zS, zP, zB, zI, zR]
  refine AW.exit ?_
  rw [← hQl1]
  refine hK3 _ _ _ ?_; clear hK3
  refine AW.seq fun K8 hK8 => ?_
  refine AW.regionK 100 (fun _ => none) [2] [102, 200] ?_
  simp only [go_sem, reduceIte, reduceCtorEq, zA, zM, zE, zL, zD, zS, zP, zB, zI, zR]
  repeat with_reducible refine cj ?_ ?_
  all_goals try first | omega
  refine hK8 _ _ _ ?_; clear hK8
  refine AW.ret ?_
  rw [← hQr]
  simp only [go_sem, reduceIte, reduceCtorEq, zA, zM, zE, zL, zD, zS, zP, zB, zI, zR]
  have hj : j = n := by omega
  subst hj
  refine ⟨[(200, 0, true)], ?_⟩
  simp only [go_sem, reduceIte, zE, yas]
end Go.Proofs.W

/- What the relation program computes, over tables. -/
namespace Go.AM
def iter {α : Type} (f : Nat → α → α) : Nat → α → α
  | 0, x => x
  | m + 1, x => f m (iter f m x)
theorem yhg {α : Type} (f : Nat → α → α) (m : Nat) (x : α) : iter f (m + 1) x = f m (iter f m x) := rfl
theorem yhh {α : Type} {f : Nat → α → α} {p : α → Prop} {n : Nat} (hf : ∀ i x, i < n → p x → p (f i x)) : ∀ m x, m ≤ n → p x → p (iter f m x)
  | 0, _, _, h => h
  | m + 1, x, hm, h => hf m _ (by omega) (yhh hf m x (by omega) h)
def orRow (t : List (List Bool)) (i : Nat) (b : List Bool) : List (List Bool) := t.set i (List.zipWith (· || ·) (rowT t i) b)
theorem Sq.orRow {n : Nat} {t : List (List Bool)} (h : Sq n t) {i : Nat} (hi : i < n) {b : List Bool} (hb : b.length = n) : Sq n (orRow t i b) :=
  h.set i (by have := h.rowLen hi; simp; omega)
def warshI (k i : Nat) (t : List (List Bool)) : List (List Bool) := if atT t i k then orRow t i (rowT t k) else t
theorem ynx (k i : Nat) (t : List (List Bool)) : warshI k i t = if atT t i k then orRow t i (rowT t k) else t := rfl
theorem Sq.warshI {n : Nat} {t : List (List Bool)} (h : Sq n t) {k i : Nat} (hk : k < n) (hi : i < n) : Sq n (warshI k i t) := by
  unfold AM.warshI; split
  · exact h.orRow hi (h.rowLen hk)
  · exact h
def warshK (n k : Nat) (t : List (List Bool)) : List (List Bool) := iter (warshI k) n t
theorem Sq.warshK' {n : Nat} {t : List (List Bool)} (h : Sq n t) {k : Nat} (hk : k < n) {m : Nat} (hm : m ≤ n) : Sq n (iter (AM.warshI k) m t) := yhh (n := n) (fun i x hi hx => hx.warshI hk hi) m t hm h
theorem Sq.warshK {n : Nat} {t : List (List Bool)} (h : Sq n t) {k : Nat} (hk : k < n) : Sq n (warshK n k t) := h.warshK' hk (Nat.le_refl _)
def warsh (n : Nat) (t : List (List Bool)) : List (List Bool) := iter (warshK n) n t
theorem Sq.warsh' {n : Nat} {t : List (List Bool)} (h : Sq n t) {m : Nat} (hm : m ≤ n) : Sq n (iter (AM.warshK n) m t) := yhh (n := n) (fun i x hi hx => hx.warshK hi) m t hm h
theorem Sq.warsh {n : Nat} {t : List (List Bool)} (h : Sq n t) : Sq n (warsh n t) := h.warsh' (Nat.le_refl _)
def yev (n : Nat) : List (List Bool) := List.replicate n (List.replicate n false)
def compI (a b : List (List Bool)) (i k : Nat) (t : List (List Bool)) : List (List Bool) := if atT a i k then orRow t i (rowT b k) else t
def compT (n : Nat) (a b : List (List Bool)) : List (List Bool) := iter (fun i t => iter (compI a b i) n t) n (yev n)
theorem Sq.compI {n : Nat} {a b t : List (List Bool)} (hb : Sq n b) (h : Sq n t) {i k : Nat} (hi : i < n) (hk : k < n) : Sq n (compI a b i k t) := by
  unfold AM.compI; split
  · exact h.orRow hi (hb.rowLen hk)
  · exact h
theorem Sq.compK {n : Nat} {a b t : List (List Bool)} (hb : Sq n b) (h : Sq n t) {i : Nat} (hi : i < n) {m : Nat} (hm : m ≤ n) : Sq n (iter (AM.compI a b i) m t) := yhh (p := Sq n) (n := n) (fun k x hk hx => Sq.compI hb hx hi hk) m t hm h
theorem Sq.comp' {n : Nat} {a b : List (List Bool)} (hb : Sq n b) {m : Nat} (hm : m ≤ n) : Sq n (iter (fun i t => iter (AM.compI a b i) n t) m (yev n)) := yhh (p := Sq n) (n := n) (fun i x hi hx => Sq.compK hb hx hi (Nat.le_refl _)) m _ hm (Sq.rep n)
theorem Sq.comp {n : Nat} {a b : List (List Bool)} (hb : Sq n b) : Sq n (compT n a b) := Sq.comp' hb (Nat.le_refl _)
def yax (t : List (List Bool)) (i m : Nat) : List (Int × Int) := ((List.range m).filter fun j => atT t i j).map fun (j : Nat) => ((i : Int), (j : Int))
theorem yew (t : List (List Bool)) (i m : Nat) : yax t i (m + 1) = if atT t i m then yax t i m ++ [((i : Int), (m : Int))] else yax t i m := by
  unfold yax
  rw [List.range_succ, List.filter_append, List.map_append]
  by_cases h : atT t i m = true
  · rw [if_pos h]; simp [List.filter_cons, h]
  · rw [if_neg h]; simp [List.filter_cons, h]
theorem ygy (t : List (List Bool)) (i m : Nat) : (yax t i m).length ≤ m := by
  unfold yax
  have := List.length_filter_le (fun j => atT t i j) (List.range m)
  simp at this ⊢; exact this
def yav (t : List (List Bool)) (n i : Nat) : List (Int × Int) := (List.range i).flatMap fun i => yax t i n
def yat (t : List (List Bool)) (n : Nat) : List (Int × Int) := yav t n n
theorem yck (t : List (List Bool)) (n i : Nat) : yav t n (i + 1) = yav t n i ++ yax t i n := by
  unfold yav; rw [List.range_succ, List.flatMap_append]; simp
theorem yc1 (t : List (List Bool)) (n : Nat) : ∀ i, (yav t n i).length ≤ n * i
  | 0 => by simp [yav]
  | i + 1 => by
    have ih := yc1 t n i
    have := ygy t i n
    rw [yck, List.length_append, Nat.mul_add]; omega
theorem pairsT_mem {t : List (List Bool)} {n : Nat} {p : Int × Int} : p ∈ yat t n ↔ ∃ i j : Nat, p = ((i : Int), (j : Int)) ∧ i < n ∧ j < n ∧ atT t i j = true := by
  simp only [yat, yav, yax, List.mem_flatMap, List.mem_map, List.mem_filter, List.mem_range]
  constructor
  · rintro ⟨i, hi, j, ⟨hj, h⟩, rfl⟩; exact ⟨i, j, rfl, hi, hj, h⟩
  · rintro ⟨i, j, rfl, hi, hj, h⟩; exact ⟨i, hi, j, ⟨hj, h⟩, rfl⟩
theorem yhi (l : List (Int × Int)) (a b : Int) : l.map ya6 ++ [[.int .i64 a, .int .i64 b]] = (l ++ [(a, b)]).map ya6 := by simp [ya6]
/-- A table half copied. -/
def yga (t : List (List Bool)) (n i : Nat) : List (List Bool) := t.take i ++ List.replicate (n - i) (List.replicate n false)
theorem fillT_zero (t : List (List Bool)) (n : Nat) : yga t n 0 = yev n := by simp [yga, yev]
theorem fillT_all {n : Nat} {t : List (List Bool)} (h : Sq n t) : yga t n n = t := by
  unfold yga; rw [List.take_of_length_le (by rw [h.len]; exact Nat.le_refl _)]; simp
theorem fillT_succ {n : Nat} {t : List (List Bool)} (h : Sq n t) {i : Nat} (hi : i < n) : (yga t n i).set i (rowT t i) = yga t n (i + 1) := by
  unfold yga
  have hl : (t.take i).length = i := by have := h.len; simp; omega
  rw [List.set_append_right _ _ (by omega), hl, Nat.sub_self, show n - i = (n - (i + 1)) + 1 by omega, List.replicate_succ, List.set_cons_zero, List.take_succ_eq_append_getElem (i := i) (by rw [h.len]; exact hi)]
  have : rowT t i = t[i]'(by rw [h.len]; exact hi) := yl1 (List.getElem?_eq_getElem _)
  rw [this, List.append_assoc]; rfl
theorem fillT_sq {n : Nat} {t : List (List Bool)} (h : Sq n t) {i : Nat} (hi : i ≤ n) : Sq n (yga t n i) := by
  refine ⟨by have := h.len; simp [yga]; omega, fun b hb => ?_⟩
  unfold yga at hb
  rcases List.mem_append.1 hb with hb | hb
  · exact h.row b (List.mem_of_mem_take hb)
  · rw [List.eq_of_mem_replicate hb]; simp
theorem fillT_row {n : Nat} {t : List (List Bool)} (h : Sq n t) {i : Nat} (hi : i < n) : rowT (yga t n i) i = List.replicate n false := by
  unfold rowT yga
  have hl : (t.take i).length = i := by have := h.len; simp; omega
  rw [List.getD_eq_getElem?_getD, List.getElem?_append_right (by omega), hl, Nat.sub_self, List.getElem?_replicate, if_pos (by omega)]; rfl
theorem ygh {p : Nat → Bool} (j : Nat) : (List.range (j + 1)).all p = ((List.range j).all p && p j) := by
  rw [List.range_succ, List.all_append]; simp
theorem yfo {p : Nat → Bool} {j m : Nat} (h : j < m) (hp : p j = false) : (List.range m).all p = false := by
  rw [List.all_eq_false]; exact ⟨j, List.mem_range.2 h, by simp [hp]⟩
def acyc (n : Nat) (t : List (List Bool)) : Bool := (List.range n).all fun i => !atT (warsh n t) i i
def putT (u : List (List Bool)) (i j : Nat) : List (List Bool) := u.set i ((rowT u i).set j true)
theorem Sq.putT {n : Nat} {u : List (List Bool)} (h : Sq n u) {i : Nat} (hi : i < n) (j : Nat) : Sq n (putT u i j) := h.set i (by have := h.rowLen hi; simp; exact this)
theorem atT_putT {n : Nat} {u : List (List Bool)} (h : Sq n u) {i j : Nat} (hi : i < n) (hj : j < n) (a b : Nat) : atT (putT u i j) a b = (decide (i = a ∧ j = b) || atT u a b) := by
  unfold atT AM.putT
  rw [yl0]
  have hl := h.len
  by_cases e : i = a
  · subst e
    rw [if_pos ⟨rfl, by omega⟩, yno]
    have hr := h.rowLen hi
    by_cases e2 : j = b
    · subst e2; rw [if_pos ⟨rfl, by omega⟩]; simp
    · rw [if_neg (by rintro ⟨x, _⟩; exact e2 x)]; simp [e2]
  · rw [if_neg (by rintro ⟨x, _⟩; exact e x)]; simp [e]
def putL (u : List (List Bool)) (L : List (Int × Int)) : List (List Bool) := L.foldl (fun u p => putT u p.1.toNat p.2.toNat) u
def inP (n : Nat) (p : Int × Int) : Prop := 0 ≤ p.1 ∧ p.1 < n ∧ 0 ≤ p.2 ∧ p.2 < n
theorem Sq.putL {n : Nat} : ∀ (L : List (Int × Int)) {u : List (List Bool)}, Sq n u → (∀ p ∈ L, inP n p) → Sq n (putL u L)
  | [], _, h, _ => h
  | p :: L, u, h, hp => by
    have h1 := hp p (by simp)
    exact Sq.putL L (h.putT (i := p.1.toNat) (by unfold inP at h1; omega) _) fun q hq => hp q (by simp [hq])
theorem putL_snoc (u : List (List Bool)) (L : List (Int × Int)) (p : Int × Int) : putL u (L ++ [p]) = putT (putL u L) p.1.toNat p.2.toNat := by simp [putL]
theorem yny {u : List (List Bool)} {L : List (Int × Int)} {j : Nat} {p : Int × Int} (h : L[j]? = some p) : putL u (L.take (j + 1)) = putT (putL u (L.take j)) p.1.toNat p.2.toNat := by
  obtain ⟨hj, rfl⟩ := List.getElem?_eq_some_iff.1 h
  rw [List.take_succ_eq_append_getElem hj, putL_snoc]
theorem yp2 {n : Nat} (a b : Nat) : ∀ (L : List (Int × Int)) {u : List (List Bool)}, Sq n u → (∀ p ∈ L, inP n p) → atT (putL u L) a b = (atT u a b || decide (((a : Int), (b : Int)) ∈ L))
  | [], _, _, _ => by simp [putL]
  | p :: L, u, h, hp => by
    have h1 := hp p (by simp)
    unfold inP at h1
    have := yp2 a b L (h.putT (i := p.1.toNat) (by omega) p.2.toNat) fun q hq => hp q (by simp [hq])
    show atT (putL (putT u p.1.toNat p.2.toNat) L) a b = _
    rw [this, atT_putT h (by omega) (by omega)]
    obtain ⟨x, y⟩ := p
    simp only at h1 ⊢
    by_cases e : x.toNat = a ∧ y.toNat = b
    · have e2 : ((a : Int), (b : Int)) = (x, y) := by simp; omega
      simp [e, e2]
    · have e2 : ¬ ((a : Int), (b : Int)) = (x, y) := by simp; omega
      simp [e, e2]
def ygb (p : Int × Int) : Int × Int := (p.2, p.1)
theorem yhj {t : List (List Bool)} {n : Nat} : ∀ p ∈ yat t n, inP n p := fun p hp => by
  obtain ⟨i, j, rfl, h1, h2, _⟩ := pairsT_mem.1 hp
  unfold inP; simp only; omega
def invT (n : Nat) (t : List (List Bool)) : List (List Bool) := putL (yev n) ((yat t n).map ygb)
theorem you {n : Nat} {L : List (Int × Int)} (h : ∀ p ∈ L, inP n p) : ∀ p ∈ L.map ygb, inP n p := fun p hp => by
  obtain ⟨q, hq, rfl⟩ := List.mem_map.1 hp
  have := h q hq
  unfold inP ygb at *; simp only; omega
theorem Sq.inv {n : Nat} {t : List (List Bool)} : Sq n (invT n t) := Sq.putL _ (Sq.rep n) (you yhj)
theorem ydx {n : Nat} {t : List (List Bool)} {i j : Nat} (hi : i < n) (hj : j < n) : atT (invT n t) i j = atT t j i := by
  unfold invT
  rw [yp2 (n := n) (u := yev n) i j _ (Sq.rep n) (you yhj)]
  have e : atT (yev n) i j = false := atT_rep n i j
  rw [e, Bool.false_or]
  cases h : atT t j i with
  | true =>
    rw [decide_eq_true_eq]
    exact List.mem_map.2 ⟨((j : Int), (i : Int)), pairsT_mem.2 ⟨j, i, rfl, hj, hi, h⟩, rfl⟩
  | false =>
    rw [decide_eq_false_iff_not]
    intro hm
    obtain ⟨q, hq, he⟩ := List.mem_map.1 hm
    obtain ⟨a, b, rfl, _, _, h2⟩ := pairsT_mem.1 hq
    simp only [ygb, Prod.mk.injEq] at he
    have : a = j ∧ b = i := by omega
    rw [this.1, this.2, h] at h2; cases h2
end Go.AM

namespace Go.Proofs.W
open Go.AM Go
set_option maxRecDepth 100000
set_option maxHeartbeats 1000000
theorem ys7 (n : Nat) (t : List (List Bool)) (hs : Sq n t) (hn : n ≤ 512) : Reads Tryd.prog 55 true [relB t] (.rsl 2 ((yat t n).map ya6)) := by
 have hlen := hs.len
 have htl := ybt t
 have hh := fun i j hi hj => yp1 n t hs hn i j hi hj
 unfold relB at *
 refine Reads.bodyF (rs := [.tmp 2]) Tryd.func55 rfl Tryd.ntmps55 rfl (by simp) ?_
 generalize hQr : retQ _ _ _ = Qr
 refine AW.seq fun K1 hK1 => ?_
 refine AW.regionK 0 (fun _ => none) [1] [1] ?_
 simp only [go_sem, reduceIte, reduceCtorEq, zA, zM, zE, zL, zD, zS, zP, zB, zI, zR, htl, hlen]
 repeat with_reducible refine cj ?_ ?_
 all_goals try first | omega
 refine hK1 _ _ _ ?_; clear hK1
 refine AW.seq fun K2 hK2 => ?_
 refine AW.regionK 0 (fun _ => none) [1, 3] [1] ?_
 simp only [go_sem, reduceIte, reduceCtorEq, zA, zM, zE, zL, zD, zS, zP, zB, zI, zR, htl, hlen]
 repeat with_reducible refine cj ?_ ?_
 all_goals try first | omega
 refine hK2 _ _ _ ?_; clear hK2
 refine AW.seq fun K3 hK3 => ?_
 refine AW.seq fun K4 hK4 => ?_
 refine AW.regionK 0 (fun _ => none) [1, 3, 8, 9] [1] ?_
 simp only [go_sem, reduceIte, reduceCtorEq, zA, zM, zE, zL, zD, zS, zP, zB, zI, zR, htl, hlen]
 repeat with_reducible refine cj ?_ ?_
 all_goals try first | omega
 refine hK4 _ _ _ ?_; clear hK4
 refine AW.block ?_
 refine AW.nilOwn 3 200 2 (by simp only [go_sem, reduceIte, zE]) ?_
 refine AW.keep [1, 3, 8, 9] [1, 200] ?_
 simp only [go_sem, reduceIte, zE]
 refine AW.loopE (fun mm ee ss kk => ∃ (i g1 v1 g v : Nat), n - i = mm ∧ ee = [(1, .ptr ⟨1, g1, none⟩ 0 0), (3, .sl ⟨200, g, none⟩ 0 (yav t n i).length none), (8, .int .i64 n), (9, .int .i64 (i : Nat))] ∧ ss = [(1, some ⟨g1, v1, 1, [[.rsl 2 (tabR t)]]⟩), (200, some ⟨g, v, 2, (yav t n i).map ya6⟩)] ∧ (i ≤ n)) ?_ ?_
 ·refine ⟨_, 0, ?_, ?_, ?_, ?_, rfl, ?henv, ?hstore, ?hst⟩
  case henv =>
   repeat' (first | rfl | refine yaa ?_ ?_ | refine yad ?_ ?_ ?_ ?_ | refine yah ?_ | refine yae ?_ | refine yai ?_ | refine yaj ?_ | refine yan ?_ ?_ ?_ | refine yak ?_ ?_ ?_ | refine yal ?_ | refine yaf ?_ ?_ | refine yab ?_ ?_)
   all_goals (first | (simp; done) | omega | (simp; omega))
  case hstore =>
   repeat' (first | rfl | refine yaa ?_ ?_ | refine yad ?_ ?_ ?_ ?_ | refine yah ?_ | refine yae ?_ | refine yai ?_ | refine yaj ?_ | refine yan ?_ ?_ ?_ | refine yak ?_ ?_ ?_ | refine yal ?_ | refine yaf ?_ ?_ | refine yab ?_ ?_)
   all_goals (first | (simp; done) | omega | (simp; omega))
  case hst =>
   first | trivial | omega | (simp; done) | (simp; omega)
 rintro mm ee ss kk ⟨i, g1, v1, g, v, rfl, rfl, rfl, hI⟩
 generalize hQl1 : ybd _ _ = Ql1
 refine AW.seq fun K5 hK5 => ?_
 refine AW.regionK 0 (fun _ => none) [1, 3, 8, 9, 10] [1, 200] ?_
 simp only [go_sem, reduceIte, reduceCtorEq, zA, zM, zE, zL, zD, zS, zP, zB, zI, zR, htl, hlen]
 repeat with_reducible refine cj ?_ ?_
 all_goals try first | omega
 refine hK5 _ _ _ ?_; clear hK5
 refine AW.seq fun K6 hK6 => ?_
 refine AW.cond rfl (by simp only [go_sem, reduceIte, reduceCtorEq, zA, zM, zE, zL, zD, zS, zP, zB, zI, zR]) ?_ ?_
 ·intro hb
  try simp only [hB, decide_eq_true_eq, decide_eq_false_iff_not] at hb
  refine AW.skip ?_
  refine hK6 _ _ _ ?_; clear hK6
  refine AW.seq fun K7 hK7 => ?_
  refine AW.block ?_
  refine AW.seq fun K8 hK8 => ?_
  refine AW.regionK 0 (fun _ => none) [1, 3, 4, 8, 9] [1, 200] ?_
  simp only [go_sem, reduceIte, reduceCtorEq, zA, zM, zE, zL, zD, zS, zP, zB, zI, zR, htl, hlen]
  repeat with_reducible refine cj ?_ ?_
  all_goals try first | omega
  refine hK8 _ _ _ ?_; clear hK8
  refine AW.seq fun K9 hK9 => ?_
  refine AW.regionK 0 (fun _ => none) [1, 3, 4, 8, 9, 14, 15] [1, 200] ?_
  simp only [go_sem, reduceIte, reduceCtorEq, zA, zM, zE, zL, zD, zS, zP, zB, zI, zR, htl, hlen]
  repeat with_reducible refine cj ?_ ?_
  all_goals try first | omega
  refine hK9 _ _ _ ?_; clear hK9
  refine AW.block ?_
  refine AW.loopE (fun mm ee ss kk => ∃ (j g1 v1 g v : Nat), n - j = mm ∧ ee = [(1, .ptr ⟨1, g1, none⟩ 0 0), (3, .sl ⟨200, g, none⟩ 0 (yav t n i ++ yax t i j).length none), (4, .int .i64 (i : Nat)), (8, .int .i64 n), (9, .int .i64 (i : Nat)), (14, .int .i64 n), (15, .int .i64 (j : Nat))] ∧ ss = [(1, some ⟨g1, v1, 1, [[.rsl 2 (tabR t)]]⟩), (200, some ⟨g, v, 2, (yav t n i ++ yax t i j).map ya6⟩)] ∧ (j ≤ n)) ?_ ?_
  ·refine ⟨_, 0, ?_, ?_, ?_, ?_, rfl, ?henv, ?hstore, ?hst⟩
   case henv =>
    repeat' (first | rfl | refine yaa ?_ ?_ | refine yad ?_ ?_ ?_ ?_ | refine yah ?_ | refine yae ?_ | refine yai ?_ | refine yaj ?_ | refine yan ?_ ?_ ?_ | refine yak ?_ ?_ ?_ | refine yal ?_ | refine yaf ?_ ?_ | refine yab ?_ ?_)
    all_goals (simp [yax])
   case hstore =>
    repeat' (first | rfl | refine yaa ?_ ?_ | refine yad ?_ ?_ ?_ ?_ | refine yah ?_ | refine yae ?_ | refine yai ?_ | refine yaj ?_ | refine yan ?_ ?_ ?_ | refine yak ?_ ?_ ?_ | refine yal ?_ | refine yaf ?_ ?_ | refine yab ?_ ?_)
    all_goals (simp [yax])
   case hst =>
    first | trivial | omega | (simp; done) | (simp; omega)
  rintro mm ee ss kk ⟨j, g1, v1, g, v, rfl, rfl, rfl, hI⟩
  generalize hQl2 : ybd _ _ = Ql2
  refine AW.seq fun K10 hK10 => ?_
  refine AW.regionK 0 (fun _ => none) [1, 3, 4, 8, 9, 14, 15, 16] [1, 200] ?_
  simp only [go_sem, reduceIte, reduceCtorEq, zA, zM, zE, zL, zD, zS, zP, zB, zI, zR, htl, hlen]
  repeat with_reducible refine cj ?_ ?_
  all_goals try first | omega
  refine hK10 _ _ _ ?_; clear hK10
  refine AW.seq fun K11 hK11 => ?_
  refine AW.cond rfl (by simp only [go_sem, reduceIte, reduceCtorEq, zA, zM, zE, zL, zD, zS, zP, zB, zI, zR]) ?_ ?_
  ·intro hb
   try simp only [hB, decide_eq_true_eq, decide_eq_false_iff_not] at hb
   have hhr := Reads.flat (hh i j (by omega) (by omega)) rfl
   have hps := yew t i j
   have hpl := yc1 t n i
   have hrl := ygy t i j
   have hmul : n * i ≤ 262144 := Nat.le_trans (Nat.mul_le_mul hn (by omega : i ≤ 512)) (by decide)
   have hll : (yav t n i ++ yax t i j).length ≤ 300000 := by rw [List.length_append]; omega
   have hml : ((yav t n i ++ yax t i j).map ya6).length = (yav t n i ++ yax t i j).length := by simp
   have htk : ((yav t n i ++ yax t i j).map ya6).take (yav t n i ++ yax t i j).length = (yav t n i ++ yax t i j).map ya6 := List.take_of_length_le (by simp)
   generalize hL : yav t n i ++ yax t i j = L at *
   refine AW.skip ?_
   refine hK11 _ _ _ ?_; clear hK11
   refine AW.seq fun K12 hK12 => ?_
   refine AW.block ?_
   refine AW.seq fun K13 hK13 => ?_
   refine AW.regionK 0 (fun _ => none) [1, 3, 4, 5, 8, 9, 14, 15] [1, 200] ?_
   simp only [go_sem, reduceIte, reduceCtorEq, zA, zM, zE, zL, zD, zS, zP, zB, zI, zR, htl, hlen]
   repeat with_reducible refine cj ?_ ?_
   all_goals try first | omega
   refine hK13 _ _ _ ?_; clear hK13
   refine AW.seq fun K14 hK14 => ?_
   refine AW.regionK 0 (fun ii => if ii = 3 then some (.reads true (.bool (atT t i j))) else none) [1, 3, 4, 5, 8, 9, 14, 15, 21] [1, 200] ?_
   simp only [go_sem, reduceIte, reduceCtorEq, zA, zM, zE, zL, zD, zS, zP, zB, zI, zR, htl, hlen]
   repeat with_reducible refine cj ?_ ?_
   all_goals try first | (exact hhr) | omega | exact ent (by kernel_rfl)
   refine hK14 _ _ _ ?_; clear hK14
   refine AW.cond rfl (by simp only [go_sem, reduceIte, reduceCtorEq, zA, zM, zE, zL, zD, zS, zP, zB, zI, zR]) ?_ ?_
   ·intro hb
    try simp only [hB, decide_eq_true_eq, decide_eq_false_iff_not] at hb
    rw [if_pos hb] at hps
    have hLs : yav t n i ++ yax t i (j + 1) = L ++ [((i : Int), (j : Int))] := by rw [hps, ← List.append_assoc, hL]
    refine AW.regionK 0 (fun _ => none) [1, 3, 4, 8, 9, 14, 15] [1, 200] ?_
    simp only [go_sem, reduceIte, reduceCtorEq, zA, zM, zE, zL, zD, zS, zP, zB, zI, zR, htl, hlen, htk, hml, yhi]
    repeat with_reducible refine cj ?_ ?_
    all_goals try first | omega | (simp [scP, ybi]; done) | exact ybe _ | exact ybj _ | exact ybf _
    refine hK12 _ _ _ ?_; clear hK12
    refine AW.regionK 0 (fun _ => none) [1, 3, 4, 8, 9, 14, 15] [1, 200] ?_
    simp only [go_sem, reduceIte, reduceCtorEq, zA, zM, zE, zL, zD, zS, zP, zB, zI, zR, htl, hlen]
    repeat with_reducible refine cj ?_ ?_
    all_goals try first | omega
    rw [← hQl2]
    change Exists _
    refine ⟨_, ?hm, j + 1, ?_, ?_, ?_, ?_, rfl, ?henv, ?hstore, ?hst⟩
    case henv =>
     repeat' (first | rfl | refine yaa ?_ ?_ | refine yad ?_ ?_ ?_ ?_ | refine yah ?_ | refine yae ?_ | refine yai ?_ | refine yaj ?_ | refine yan ?_ ?_ ?_ | refine yak ?_ ?_ ?_ | refine yal ?_ | refine yaf ?_ ?_ | refine yab ?_ ?_)
     all_goals (rw [hLs]; try simp)
    case hstore =>
     repeat' (first | rfl | refine yaa ?_ ?_ | refine yad ?_ ?_ ?_ ?_ | refine yah ?_ | refine yae ?_ | refine yai ?_ | refine yaj ?_ | refine yan ?_ ?_ ?_ | refine yak ?_ ?_ ?_ | refine yal ?_ | refine yaf ?_ ?_ | refine yab ?_ ?_)
     all_goals (rw [hLs])
    case hst =>
     first | trivial | omega | (simp; done) | (simp; omega)
    case hm => omega
   ·intro hb
    try simp only [hB, decide_eq_true_eq, decide_eq_false_iff_not] at hb
    rw [if_neg (by rw [hb]; simp)] at hps
    have hLs : yav t n i ++ yax t i (j + 1) = L := by rw [hps, hL]
    refine AW.skip ?_
    refine hK12 _ _ _ ?_; clear hK12
    refine AW.regionK 0 (fun _ => none) [1, 3, 4, 8, 9, 14, 15] [1, 200] ?_
    simp only [go_sem, reduceIte, reduceCtorEq, zA, zM, zE, zL, zD, zS, zP, zB, zI, zR, htl, hlen]
    repeat with_reducible refine cj ?_ ?_
    all_goals try first | omega
    rw [← hQl2]
    change Exists _
    refine ⟨_, ?hm, j + 1, ?_, ?_, ?_, ?_, rfl, ?henv, ?hstore, ?hst⟩
    case henv =>
     repeat' (first | rfl | refine yaa ?_ ?_ | refine yad ?_ ?_ ?_ ?_ | refine yah ?_ | refine yae ?_ | refine yai ?_ | refine yaj ?_ | refine yan ?_ ?_ ?_ | refine yak ?_ ?_ ?_ | refine yal ?_ | refine yaf ?_ ?_ | refine yab ?_ ?_)
     all_goals (rw [hLs]; try simp)
    case hstore =>
     repeat' (first | rfl | refine yaa ?_ ?_ | refine yad ?_ ?_ ?_ ?_ | refine yah ?_ | refine yae ?_ | refine yai ?_ | refine yaj ?_ | refine yan ?_ ?_ ?_ | refine yak ?_ ?_ ?_ | refine yal ?_ | refine yaf ?_ ?_ | refine yab ?_ ?_)
     all_goals (rw [hLs])
    case hst =>
     first | trivial | omega | (simp; done) | (simp; omega)
    case hm => omega
  ·intro hb
   try simp only [hB, decide_eq_true_eq, decide_eq_false_iff_not] at hb
   have hj : j = n := by omega
   subst hj
   have hps := yck t j i
   refine AW.exit ?_
   rw [← hQl2]
   refine hK7 _ _ _ ?_; clear hK7
   refine AW.regionK 0 (fun _ => none) [1, 3, 8, 9] [1, 200] ?_
   simp only [go_sem, reduceIte, reduceCtorEq, zA, zM, zE, zL, zD, zS, zP, zB, zI, zR, htl, hlen]
   repeat with_reducible refine cj ?_ ?_
   all_goals try first | omega
   rw [← hQl1]
   change Exists _
   refine ⟨_, ?hm, i + 1, ?_, ?_, ?_, ?_, rfl, ?henv, ?hstore, ?hst⟩
   case henv =>
    repeat' (first | rfl | refine yaa ?_ ?_ | refine yad ?_ ?_ ?_ ?_ | refine yah ?_ | refine yae ?_ | refine yai ?_ | refine yaj ?_ | refine yan ?_ ?_ ?_ | refine yak ?_ ?_ ?_ | refine yal ?_ | refine yaf ?_ ?_ | refine yab ?_ ?_)
    all_goals (rw [hps])
   case hstore =>
    repeat' (first | rfl | refine yaa ?_ ?_ | refine yad ?_ ?_ ?_ ?_ | refine yah ?_ | refine yae ?_ | refine yai ?_ | refine yaj ?_ | refine yan ?_ ?_ ?_ | refine yak ?_ ?_ ?_ | refine yal ?_ | refine yaf ?_ ?_ | refine yab ?_ ?_)
    all_goals (rw [hps])
   case hst =>
    first | trivial | omega | (simp; done) | (simp; omega)
   case hm => omega
 ·intro hb
  try simp only [hB, decide_eq_true_eq, decide_eq_false_iff_not] at hb
  refine AW.exit ?_
  rw [← hQl1]
  refine hK3 _ _ _ ?_; clear hK3
  refine AW.seq fun K15 hK15 => ?_
  refine AW.regionK 0 (fun _ => none) [2] [200] ?_
  simp only [go_sem, reduceIte, reduceCtorEq, zA, zM, zE, zL, zD, zS, zP, zB, zI, zR, htl, hlen]
  repeat with_reducible refine cj ?_ ?_
  all_goals try first | omega
  refine hK15 _ _ _ ?_; clear hK15
  refine AW.ret ?_
  rw [← hQr]
  simp only [go_sem, reduceIte, reduceCtorEq, zA, zM, zE, zL, zD, zS, zP, zB, zI, zR, htl, hlen]
  have hi : i = n := by omega
  subst hi
  rw [List.take_of_length_le (by simp), yif]
  exact Wk.refl _
theorem closure_r (n : Nat) (t : List (List Bool)) (hs : Sq n t) (hn : n ≤ 512) : Reads Tryd.prog 95 true [relB t] (relB (warsh n t)) := by
 have hlen := hs.len
 have htl := ybt t
 have hemp := yot n hn
 have hwn := ya8 (n := (n : Int)) (by omega)
 unfold relB at *
 refine Reads.bodyF (rs := [.cell 2 24]) Tryd.func95 rfl Tryd.ntmps95 rfl (by simp) ?_
 generalize hQr : retQ _ _ _ = Qr
 refine AW.seq fun K1 hK1 => ?_
 refine AW.regionK 0 (fun _ => none) [1, 2] [1, 2] ?_
 simp only [go_sem, reduceIte, reduceCtorEq, zA, zM, zE, zL, zD, zS, zP, zB, zI, zR, htl, hlen, yas]
 repeat with_reducible refine cj ?_ ?_
 all_goals try first | omega
 refine hK1 _ _ _ ?_; clear hK1
 refine AW.seq fun K2 hK2 => ?_
 refine AW.regionK 0 (fun ii => if ii = 3 then some (.upd [] (fun k => [(0, some ⟨k, k, 2, tabO (List.replicate n (List.replicate n false))⟩)]) (fun k => .agg [.sl ⟨0, k, none⟩ 0 n none])) else none) [1, 2, 3] [1, 2, 3, 11] ?_
 simp only [go_sem, reduceIte, reduceCtorEq, zA, zM, zE, zL, zD, zS, zP, zB, zI, zR, htl, hlen, yas]
 repeat with_reducible refine cj ?_ ?_
 all_goals try first | (exact hemp) | omega | exact ent (by kernel_rfl)
 refine hK2 _ _ _ ?_; clear hK2
 refine AW.seq fun K3 hK3 => ?_
 refine AW.seq fun K4 hK4 => ?_
 refine AW.regionK 0 (fun _ => none) [2, 3, 13, 14, 15] [2, 3, 11] ?_
 simp only [go_sem, reduceIte, reduceCtorEq, zA, zM, zE, zL, zD, zS, zP, zB, zI, zR, htl, hlen, yas]
 repeat with_reducible refine cj ?_ ?_
 all_goals try first | omega
 refine hK4 _ _ _ ?_; clear hK4
 refine AW.block ?_
 refine AW.loopE (fun mm ee ss kk => ∃ (i g2 v2 g3 v3 g v : Nat), n - i = mm ∧ ee = [(2, .ptr ⟨2, g2, none⟩ 0 0), (3, .ptr ⟨3, g3, none⟩ 0 0), (13, .rsl 2 (tabR t)), (14, .int .i64 n), (15, .int .i64 (i : Nat))] ∧ ss = [(2, some ⟨g2, v2, 1, [[.nilsl]]⟩), (3, some ⟨g3, v3, 1, [[.sl ⟨11, g, none⟩ 0 n none]]⟩), (11, some ⟨g, v, 2, tabO (yga t n i)⟩)] ∧ (i ≤ n)) ?_ ?_
 ·refine ⟨_, 0, ?_, ?_, ?_, ?_, ?_, ?_, rfl, ?henv, ?hstore, ?hst⟩
  case henv =>
   repeat' (first | rfl | refine yaa ?_ ?_ | refine yad ?_ ?_ ?_ ?_ | refine yah ?_ | refine yae ?_ | refine yai ?_ | refine yaj ?_ | refine yan ?_ ?_ ?_ | refine yak ?_ ?_ ?_ | refine yal ?_ | refine yaf ?_ ?_ | refine yab ?_ ?_)
   all_goals (first | (simp; done) | omega | (simp; omega))
  case hstore =>
   repeat' (first | rfl | refine yaa ?_ ?_ | refine yad ?_ ?_ ?_ ?_ | refine yah ?_ | refine yae ?_ | refine yai ?_ | refine yaj ?_ | refine yan ?_ ?_ ?_ | refine yak ?_ ?_ ?_ | refine yal ?_ | refine yaf ?_ ?_ | refine yab ?_ ?_)
   all_goals (rw [fillT_zero]; rfl)
  case hst =>
   first | trivial | omega | (simp; done) | (simp; omega)
 rintro mm ee ss kk ⟨i, g2, v2, g3, v3, g, v, rfl, rfl, rfl, hI⟩
 generalize hQl1 : ybd _ _ = Ql1
 refine AW.seq fun K5 hK5 => ?_
 refine AW.regionK 0 (fun _ => none) [2, 3, 13, 14, 15, 16] [2, 3, 11] ?_
 simp only [go_sem, reduceIte, reduceCtorEq, zA, zM, zE, zL, zD, zS, zP, zB, zI, zR, htl, hlen, yas]
 repeat with_reducible refine cj ?_ ?_
 all_goals try first | omega
 refine hK5 _ _ _ ?_; clear hK5
 refine AW.seq fun K6 hK6 => ?_
 refine AW.cond rfl (by simp only [go_sem, reduceIte, reduceCtorEq, zA, zM, zE, zL, zD, zS, zP, zB, zI, zR]) ?_ ?_
 ·intro hb
  try simp only [hB, decide_eq_true_eq, decide_eq_false_iff_not] at hb
  have hsf := fillT_sq hs (i := i) (by omega)
  have hgr := yeu (t := t) (i := i) (by omega)
  have hgo := yf1 (t := yga t n i) (i := i) (by rw [hsf.len]; omega)
  rw [fillT_row hs (by omega)] at hgo
  have hto := yb2 (yga t n i)
  have hsl := hsf.len
  have hrl := hs.rowLen (i := i) (by omega)
  have hfs := fillT_succ hs (i := i) (by omega)
  have hts := yl3 (yga t n i) i (rowT t i)
  have hwl := ya1 (rowT t i)
  have hwz := ya1 (List.replicate n false)
  rw [hrl] at hwl
  rw [List.length_replicate] at hwz
  have hmin : min (setW (rowT t i) n).length (setW (List.replicate n false) n).length = (setW (rowT t i) n).length := by omega
  have hdr : (words (setW (List.replicate n false) n)).drop (setW (rowT t i) n).length = [] := List.drop_of_length_le (by rw [ydu]; omega)
  have hro : [AV.int .i64 n, .osl 1 (words (setW (rowT t i) n))] = rowO (rowT t i) := by rw [rowO, hrl]
  refine AW.skip ?_
  refine hK6 _ _ _ ?_; clear hK6
  refine AW.seq fun K7 hK7 => ?_
  refine AW.block ?_
  refine AW.seq fun K8 hK8 => ?_
  refine AW.regionK 0 (fun _ => none) [2, 3, 4, 5, 13, 14, 15] [2, 3, 5, 11] ?_
  simp only [go_sem, reduceIte, reduceCtorEq, zA, zM, zE, zL, zD, zS, zP, zB, zI, zR, htl, hlen, yas, hgr, rowB, hrl]
  repeat with_reducible refine cj ?_ ?_
  all_goals try first | omega
  refine hK8 _ _ _ ?_; clear hK8
  refine AW.regionD yd6 0 (fun _ => none) [2, 3, 13, 14, 15] [2, 3, 11] ?_
  simp only [go_sem, reduceIte, reduceCtorEq, zA, zM, zE, zL, zD, zS, zP, zB, zI, zR, htl, hlen, yas, hgo, rowO, List.length_replicate, hmin, hdr, List.append_nil]
  repeat with_reducible refine cj ?_ ?_
  all_goals try first | omega | exact chk (by kernel_rfl) | (simp [scP, ybi]; done) | exact ybe _ | exact ybj _ | exact ybf _
  refine hK7 _ _ _ ?_; clear hK7
  refine AW.regionK 0 (fun _ => none) [2, 3, 13, 14, 15] [2, 3, 11] ?_
  simp only [go_sem, reduceIte, reduceCtorEq, zA, zM, zE, zL, zD, zS, zP, zB, zI, zR, htl, hlen, yas]
  repeat with_reducible refine cj ?_ ?_
  all_goals try first | omega
  rw [← hQl1]
  change Exists _
  refine ⟨_, ?hm, i + 1, ?_, ?_, ?_, ?_, ?_, ?_, rfl, ?henv, ?hstore, ?hst⟩
  case henv =>
   repeat' (first | rfl | refine yaa ?_ ?_ | refine yad ?_ ?_ ?_ ?_ | refine yah ?_ | refine yae ?_ | refine yai ?_ | refine yaj ?_ | refine yan ?_ ?_ ?_ | refine yak ?_ ?_ ?_ | refine yal ?_ | refine yaf ?_ ?_ | refine yab ?_ ?_)
   all_goals (first | (simp; done) | omega | (simp; omega))
  case hstore =>
   repeat' (first | rfl | refine yaa ?_ ?_ | refine yad ?_ ?_ ?_ ?_ | refine yah ?_ | refine yae ?_ | refine yai ?_ | refine yaj ?_ | refine yan ?_ ?_ ?_ | refine yak ?_ ?_ ?_ | refine yal ?_ | refine yaf ?_ ?_ | refine yab ?_ ?_)
   all_goals (rw [← hfs, ← hts, ← hro])
  case hst =>
   first | trivial | omega | (simp; done) | (simp; omega)
  case hm => omega
 ·intro hb
  try simp only [hB, decide_eq_true_eq, decide_eq_false_iff_not] at hb
  have hi : i = n := by omega
  subst hi
  rw [fillT_all hs]
  refine AW.keep [2, 3] [2, 3, 11] ?_
  try simp only [go_sem, reduceIte, reduceCtorEq, zA, zM, zE, zL, zD, zS, zP, zB, zI, zR]
  refine AW.exit ?_
  rw [← hQl1]
  refine hK3 _ _ _ ?_; clear hK3
  refine AW.seq fun K9 hK9 => ?_
  refine AW.seq fun K10 hK10 => ?_
  refine AW.regionK 0 (fun _ => none) [2, 3, 32, 33] [2, 3, 11] ?_
  simp only [go_sem, reduceIte, reduceCtorEq, zA, zM, zE, zL, zD, zS, zP, zB, zI, zR, htl, hlen, yas]
  repeat with_reducible refine cj ?_ ?_
  all_goals try first | omega
  refine hK10 _ _ _ ?_; clear hK10
  refine AW.block ?_
  refine AW.loopE (fun mm ee ss kk => ∃ (k g2 v2 g3 v3 g v : Nat), i - k = mm ∧ ee = [(2, .ptr ⟨2, g2, none⟩ 0 0), (3, .ptr ⟨3, g3, none⟩ 0 0), (32, .int .i64 i), (33, .int .i64 (k : Nat))] ∧ ss = [(2, some ⟨g2, v2, 1, [[.nilsl]]⟩), (3, some ⟨g3, v3, 1, [[.sl ⟨11, g, none⟩ 0 i none]]⟩), (11, some ⟨g, v, 2, tabO (iter (warshK i) k t)⟩)] ∧ (k ≤ i)) ?_ ?_
  ·refine ⟨_, 0, ?_, ?_, ?_, ?_, ?_, ?_, rfl, ?henv, ?hstore, ?hst⟩
   case henv =>
    repeat' (first | rfl | refine yaa ?_ ?_ | refine yad ?_ ?_ ?_ ?_ | refine yah ?_ | refine yae ?_ | refine yai ?_ | refine yaj ?_ | refine yan ?_ ?_ ?_ | refine yak ?_ ?_ ?_ | refine yal ?_ | refine yaf ?_ ?_ | refine yab ?_ ?_)
    all_goals (first | (simp; done) | omega | (simp; omega))
   case hstore =>
    repeat' (first | rfl | refine yaa ?_ ?_ | refine yad ?_ ?_ ?_ ?_ | refine yah ?_ | refine yae ?_ | refine yai ?_ | refine yaj ?_ | refine yan ?_ ?_ ?_ | refine yak ?_ ?_ ?_ | refine yal ?_ | refine yaf ?_ ?_ | refine yab ?_ ?_)
    all_goals (first | (simp; done) | omega | (simp; omega))
   case hst =>
    first | trivial | omega | (simp; done) | (simp; omega)
  rintro mm ee ss kk ⟨k, g2, v2, g3, v3, g, v, rfl, rfl, rfl, hI⟩
  generalize hQl2 : ybd _ _ = Ql2
  refine AW.seq fun K11 hK11 => ?_
  refine AW.regionK 0 (fun _ => none) [2, 3, 32, 33, 34] [2, 3, 11] ?_
  simp only [go_sem, reduceIte, reduceCtorEq, zA, zM, zE, zL, zD, zS, zP, zB, zI, zR, htl, hlen, yas]
  repeat with_reducible refine cj ?_ ?_
  all_goals try first | omega
  refine hK11 _ _ _ ?_; clear hK11
  refine AW.seq fun K12 hK12 => ?_
  refine AW.cond rfl (by simp only [go_sem, reduceIte, reduceCtorEq, zA, zM, zE, zL, zD, zS, zP, zB, zI, zR]) ?_ ?_
  ·intro hb
   try simp only [hB, decide_eq_true_eq, decide_eq_false_iff_not] at hb
   refine AW.skip ?_
   refine hK12 _ _ _ ?_; clear hK12
   refine AW.seq fun K13 hK13 => ?_
   refine AW.block ?_
   refine AW.seq fun K14 hK14 => ?_
   refine AW.regionK 0 (fun _ => none) [2, 3, 6, 32, 33] [2, 3, 11] ?_
   simp only [go_sem, reduceIte, reduceCtorEq, zA, zM, zE, zL, zD, zS, zP, zB, zI, zR, htl, hlen, yas]
   repeat with_reducible refine cj ?_ ?_
   all_goals try first | omega
   refine hK14 _ _ _ ?_; clear hK14
   refine AW.seq fun K15 hK15 => ?_
   refine AW.regionK 0 (fun _ => none) [2, 3, 6, 32, 33, 38, 39] [2, 3, 11] ?_
   simp only [go_sem, reduceIte, reduceCtorEq, zA, zM, zE, zL, zD, zS, zP, zB, zI, zR, htl, hlen, yas]
   repeat with_reducible refine cj ?_ ?_
   all_goals try first | omega
   refine hK15 _ _ _ ?_; clear hK15
   refine AW.block ?_
   refine AW.loopE (fun mm ee ss kk => ∃ (q g2 v2 g3 v3 g v : Nat), i - q = mm ∧ ee = [(2, .ptr ⟨2, g2, none⟩ 0 0), (3, .ptr ⟨3, g3, none⟩ 0 0), (6, .int .i64 (k : Nat)), (32, .int .i64 i), (33, .int .i64 (k : Nat)), (38, .int .i64 i), (39, .int .i64 (q : Nat))] ∧ ss = [(2, some ⟨g2, v2, 1, [[.nilsl]]⟩), (3, some ⟨g3, v3, 1, [[.sl ⟨11, g, none⟩ 0 i none]]⟩), (11, some ⟨g, v, 2, tabO (iter (warshI k) q (iter (warshK i) k t))⟩)] ∧ (q ≤ i)) ?_ ?_
   ·refine ⟨_, 0, ?_, ?_, ?_, ?_, ?_, ?_, rfl, ?henv, ?hstore, ?hst⟩
    case henv =>
     repeat' (first | rfl | refine yaa ?_ ?_ | refine yad ?_ ?_ ?_ ?_ | refine yah ?_ | refine yae ?_ | refine yai ?_ | refine yaj ?_ | refine yan ?_ ?_ ?_ | refine yak ?_ ?_ ?_ | refine yal ?_ | refine yaf ?_ ?_ | refine yab ?_ ?_)
     all_goals (first | (simp; done) | omega | (simp; omega))
    case hstore =>
     repeat' (first | rfl | refine yaa ?_ ?_ | refine yad ?_ ?_ ?_ ?_ | refine yah ?_ | refine yae ?_ | refine yai ?_ | refine yaj ?_ | refine yan ?_ ?_ ?_ | refine yak ?_ ?_ ?_ | refine yal ?_ | refine yaf ?_ ?_ | refine yab ?_ ?_)
     all_goals (first | (simp; done) | omega | (simp; omega))
    case hst =>
     first | trivial | omega | (simp; done) | (simp; omega)
   rintro mm ee ss kk ⟨q, g2, v2, g3, v3, g, v, rfl, rfl, rfl, hI⟩
   generalize hQl3 : ybd _ _ = Ql3
   refine AW.seq fun K16 hK16 => ?_
   refine AW.regionK 0 (fun _ => none) [2, 3, 6, 32, 33, 38, 39, 40] [2, 3, 11] ?_
   simp only [go_sem, reduceIte, reduceCtorEq, zA, zM, zE, zL, zD, zS, zP, zB, zI, zR, htl, hlen, yas]
   repeat with_reducible refine cj ?_ ?_
   all_goals try first | omega
   refine hK16 _ _ _ ?_; clear hK16
   refine AW.seq fun K17 hK17 => ?_
   refine AW.cond rfl (by simp only [go_sem, reduceIte, reduceCtorEq, zA, zM, zE, zL, zD, zS, zP, zB, zI, zR]) ?_ ?_
   ·intro hb
    try simp only [hB, decide_eq_true_eq, decide_eq_false_iff_not] at hb
    have hsu : Sq i (iter (warshI k) q (iter (warshK i) k t)) := (hs.warsh' (by omega)).warshK' (by omega) (by omega)
    have hus : iter (warshI k) (q + 1) (iter (warshK i) k t) = warshI k q (iter (warshI k) q (iter (warshK i) k t)) := rfl
    rw [ynx] at hus
    generalize hU : iter (warshI k) q (iter (warshK i) k t) = U at *
    have hhr := Reads.flat (yp1 i U hsu hn q k (by omega) (by omega)) rfl
    have hto := yb2 U
    have hsl := hsu.len
    have htk : (tabO U).take i = tabO U := List.take_of_length_le (by omega)
    have hgq := yf1 (t := U) (i := q) (by omega)
    have hgk := yf1 (t := U) (i := k) (by omega)
    have hrq := hsu.rowLen (i := q) (by omega)
    have hrk := hsu.rowLen (i := k) (by omega)
    have hwq := ya1 (rowT U q)
    have hwk := ya1 (rowT U k)
    rw [hrq] at hwq
    rw [hrk] at hwk
    have hm := fun g v => merge_s i U hsu hn q k (by omega) (by omega) g v none none
    refine AW.skip ?_
    refine hK17 _ _ _ ?_; clear hK17
    refine AW.seq fun K18 hK18 => ?_
    refine AW.block ?_
    refine AW.seq fun K19 hK19 => ?_
    refine AW.regionK 0 (fun _ => none) [2, 3, 6, 7, 32, 33, 38, 39] [2, 3, 11] ?_
    simp only [go_sem, reduceIte, reduceCtorEq, zA, zM, zE, zL, zD, zS, zP, zB, zI, zR, htl, hlen, yas]
    repeat with_reducible refine cj ?_ ?_
    all_goals try first | omega
    refine hK19 _ _ _ ?_; clear hK19
    refine AW.seq fun K20 hK20 => ?_
    refine AW.regionK 0 (fun ii => if ii = 3 then some (.reads true (.bool (atT U q k))) else none) [2, 3, 6, 7, 32, 33, 38, 39, 45] [2, 3, 11] ?_
    simp only [go_sem, reduceIte, reduceCtorEq, zA, zM, zE, zL, zD, zS, zP, zB, zI, zR, htl, hlen, yas, htk, yl2]
    repeat with_reducible refine cj ?_ ?_
    all_goals try first | (exact hhr) | omega | exact ent (by kernel_rfl)
    refine hK20 _ _ _ ?_; clear hK20
    refine AW.cond rfl (by simp only [go_sem, reduceIte, reduceCtorEq, zA, zM, zE, zL, zD, zS, zP, zB, zI, zR]) ?_ ?_
    ·intro hb
     try simp only [hB, decide_eq_true_eq, decide_eq_false_iff_not] at hb
     rw [if_pos hb] at hus
     unfold orRow at hus
     refine AW.regionD yd6 0 (fun ii => if ii = 10 then some (.upd [11] (fun kk => [(0, some ⟨g, kk, 2, tabO (U.set q (List.zipWith (· || ·) (rowT U q) (rowT U k)))⟩)]) (fun _ => .tup [])) else none) [2, 3, 6, 32, 33, 38, 39] [2, 3, 11] ?_
     simp only [go_sem, reduceIte, reduceCtorEq, zA, zM, zE, zL, zD, zS, zP, zB, zI, zR, htl, hlen, yas, hgq, hgk, rowO, hrq, hrk, hwq, hwk, yas]
     repeat with_reducible refine cj ?_ ?_
     all_goals try first | (exact hm _ _) | omega | exact chk (by kernel_rfl) | exact ent (by kernel_rfl)
     refine hK18 _ _ _ ?_; clear hK18
     refine AW.regionK 0 (fun _ => none) [2, 3, 6, 32, 33, 38, 39] [2, 3, 11] ?_
     simp only [go_sem, reduceIte, reduceCtorEq, zA, zM, zE, zL, zD, zS, zP, zB, zI, zR, htl, hlen, yas]
     repeat with_reducible refine cj ?_ ?_
     all_goals try first | omega
     rw [← hQl3]
     change Exists _
     refine ⟨_, ?hm, q + 1, ?_, ?_, ?_, ?_, ?_, ?_, rfl, ?henv, ?hstore, ?hst⟩
     case henv =>
      repeat' (first | rfl | refine yaa ?_ ?_ | refine yad ?_ ?_ ?_ ?_ | refine yah ?_ | refine yae ?_ | refine yai ?_ | refine yaj ?_ | refine yan ?_ ?_ ?_ | refine yak ?_ ?_ ?_ | refine yal ?_ | refine yaf ?_ ?_ | refine yab ?_ ?_)
      all_goals (first | (simp; done) | omega | (simp; omega))
     case hstore =>
      repeat' (first | rfl | refine yaa ?_ ?_ | refine yad ?_ ?_ ?_ ?_ | refine yah ?_ | refine yae ?_ | refine yai ?_ | refine yaj ?_ | refine yan ?_ ?_ ?_ | refine yak ?_ ?_ ?_ | refine yal ?_ | refine yaf ?_ ?_ | refine yab ?_ ?_)
      all_goals (rw [hus])
     case hst =>
      first | trivial | omega | (simp; done) | (simp; omega)
     case hm => omega
    ·intro hb
     try simp only [hB, decide_eq_true_eq, decide_eq_false_iff_not] at hb
     rw [if_neg (by rw [hb]; simp)] at hus
     refine AW.skip ?_
     refine hK18 _ _ _ ?_; clear hK18
     refine AW.regionK 0 (fun _ => none) [2, 3, 6, 32, 33, 38, 39] [2, 3, 11] ?_
     simp only [go_sem, reduceIte, reduceCtorEq, zA, zM, zE, zL, zD, zS, zP, zB, zI, zR, htl, hlen, yas]
     repeat with_reducible refine cj ?_ ?_
     all_goals try first | omega
     rw [← hQl3]
     change Exists _
     refine ⟨_, ?hm, q + 1, ?_, ?_, ?_, ?_, ?_, ?_, rfl, ?henv, ?hstore, ?hst⟩
     case henv =>
      repeat' (first | rfl | refine yaa ?_ ?_ | refine yad ?_ ?_ ?_ ?_ | refine yah ?_ | refine yae ?_ | refine yai ?_ | refine yaj ?_ | refine yan ?_ ?_ ?_ | refine yak ?_ ?_ ?_ | refine yal ?_ | refine yaf ?_ ?_ | refine yab ?_ ?_)
      all_goals (first | (simp; done) | omega | (simp; omega))
     case hstore =>
      repeat' (first | rfl | refine yaa ?_ ?_ | refine yad ?_ ?_ ?_ ?_ | refine yah ?_ | refine yae ?_ | refine yai ?_ | refine yaj ?_ | refine yan ?_ ?_ ?_ | refine yak ?_ ?_ ?_ | refine yal ?_ | refine yaf ?_ ?_ | refine yab ?_ ?_)
      all_goals (rw [hus])
     case hst =>
      first | trivial | omega | (simp; done) | (simp; omega)
     case hm => omega
   ·intro hb
    try simp only [hB, decide_eq_true_eq, decide_eq_false_iff_not] at hb
    have hq : q = i := by omega
    subst hq
    refine AW.keep [2, 3, 32, 33] [2, 3, 11] ?_
    try simp only [go_sem, reduceIte, reduceCtorEq, zA, zM, zE, zL, zD, zS, zP, zB, zI, zR]
    refine AW.exit ?_
    rw [← hQl3]
    refine hK13 _ _ _ ?_; clear hK13
    refine AW.regionK 0 (fun _ => none) [2, 3, 32, 33] [2, 3, 11] ?_
    simp only [go_sem, reduceIte, reduceCtorEq, zA, zM, zE, zL, zD, zS, zP, zB, zI, zR, htl, hlen, yas]
    repeat with_reducible refine cj ?_ ?_
    all_goals try first | omega
    rw [← hQl2]
    change Exists _
    refine ⟨_, ?hm, k + 1, ?_, ?_, ?_, ?_, ?_, ?_, rfl, ?henv, ?hstore, ?hst⟩
    case henv =>
     repeat' (first | rfl | refine yaa ?_ ?_ | refine yad ?_ ?_ ?_ ?_ | refine yah ?_ | refine yae ?_ | refine yai ?_ | refine yaj ?_ | refine yan ?_ ?_ ?_ | refine yak ?_ ?_ ?_ | refine yal ?_ | refine yaf ?_ ?_ | refine yab ?_ ?_)
     all_goals (first | (simp; done) | omega | (simp; omega))
    case hstore =>
     repeat' (first | rfl | refine yaa ?_ ?_ | refine yad ?_ ?_ ?_ ?_ | refine yah ?_ | refine yae ?_ | refine yai ?_ | refine yaj ?_ | refine yan ?_ ?_ ?_ | refine yak ?_ ?_ ?_ | refine yal ?_ | refine yaf ?_ ?_ | refine yab ?_ ?_)
     all_goals rfl
    case hst =>
     first | trivial | omega | (simp; done) | (simp; omega)
    case hm => omega
  ·intro hb
   try simp only [hB, decide_eq_true_eq, decide_eq_false_iff_not] at hb
   refine AW.keep [2, 3] [2, 3, 11] ?_
   try simp only [go_sem, reduceIte, reduceCtorEq, zA, zM, zE, zL, zD, zS, zP, zB, zI, zR]
   refine AW.exit ?_
   rw [← hQl2]
   refine hK9 _ _ _ ?_; clear hK9
   refine AW.seq fun K21 hK21 => ?_
   refine AW.regionK 0 (fun _ => none) [2] [2, 11] ?_
   simp only [go_sem, reduceIte, reduceCtorEq, zA, zM, zE, zL, zD, zS, zP, zB, zI, zR, htl, hlen, yas]
   repeat with_reducible refine cj ?_ ?_
   all_goals try first | omega
   refine hK21 _ _ _ ?_; clear hK21
   refine AW.ret ?_
   rw [← hQr]
   simp only [go_sem, reduceIte, reduceCtorEq, zA, zM, zE, zL, zD, zS, zP, zB, zI, zR, htl, hlen, yas]
   have hk : k = i := by omega
   subst hk
   refine Wk.of_eq ?_
   rw [List.take_of_length_le (by rw [yb2, (hs.warsh' (Nat.le_refl _)).len]; exact Nat.le_refl _), vwcF_tabO]
   rfl
end Go.Proofs.W

namespace Go.Proofs.W
open Go.AM Go
set_option maxRecDepth 100000
set_option maxHeartbeats 1000000
def ynz (rs : List USet) : Prop := rs.length ≤ 9223372036854775807 ∧ ∀ x ∈ rs, x.W.length ≤ 9223372036854775807
theorem yl8 (n : Nat) (t : List (List Bool)) (hs : Sq n t) (hn : n ≤ 512) : Reads Tryd.prog 53 false [relB t] (.bool true) := by
 have h := rvalid_r (t.map SB) (by simp [hs.len]; omega) (fun x hx => by
  obtain ⟨b, hb, rfl⟩ := List.mem_map.1 hx
  have := hs.row b hb
  have hwn := ya8 (n := (b.length : Int)) (by omega)
  show (setW b b.length).length ≤ _
  rw [ya1]; omega)
 rw [ynq hs hn, ← yih] at h
 exact h
end Go.Proofs.W

namespace Go.Proofs.W
open Go.AM Go
set_option maxRecDepth 100000
set_option maxHeartbeats 1000000
theorem acyclic_g (n : Nat) (t : List (List Bool)) (hs : Sq n t) (hn : n ≤ 512) : Reads Tryd.prog 87 false [relB t] (.bool (acyc n t)) := by
 have h := yl8 n t hs hn
 have ha := closure_r n t hs hn
 have hsw := hs.warsh
 have hlw : (tabR (warsh n t)).length = n := by rw [ybt, hsw.len]
 have hh := fun j hj => yp1 n (warsh n t) hsw hn j j hj hj
 have hac : acyc n t = (List.range n).all fun i => !atT (warsh n t) i i := rfl
 generalize warsh n t = c at *
 unfold relB at *
 refine Reads.body (rs := [.tmp 2]) Tryd.func87 rfl Tryd.ntmps87 rfl (by simp) ?_
 generalize hQr : retQ _ _ _ = Qr
 refine AW.seq fun K1 hK1 => ?_
 refine AW.regionK 0 (fun _ => none) [1] [1] ?_
 simp only [go_sem, reduceIte, reduceCtorEq, zA, zM, zE, zL, zD, zS, zP, zB, zI, zR, hlw]
 repeat with_reducible refine cj ?_ ?_
 all_goals try first | omega
 refine hK1 _ _ _ ?_; clear hK1
 refine AW.seq fun K2 hK2 => ?_
 refine AW.seq fun K3 hK3 => ?_
 refine AW.regionK 0 (fun ii => if ii = 1 then some (.reads false (.bool true)) else none) [1, 7] [1] ?_
 simp only [go_sem, reduceIte, reduceCtorEq, zA, zM, zE, zL, zD, zS, zP, zB, zI, zR, hlw]
 repeat with_reducible refine cj ?_ ?_
 all_goals try first | (exact h) | omega | exact ent (by kernel_rfl)
 refine hK3 _ _ _ ?_; clear hK3
 refine AW.cond rfl (by simp only [go_sem, reduceIte, reduceCtorEq, zA, zM, zE, zL, zD, zS, zP, zB, zI, zR]) ?_ ?_
 ·intro hb
  try simp only [hB, decide_eq_true_eq, decide_eq_false_iff_not] at hb
  simp at hb
 ·intro hb
  try simp only [hB, decide_eq_true_eq, decide_eq_false_iff_not] at hb
  refine AW.skip ?_
  refine hK2 _ _ _ ?_; clear hK2
  refine AW.seq fun K4 hK4 => ?_
  refine AW.regionK 0 (fun ii => if ii = 1 then some (.reads true (.agg [.rsl 2 (tabR c)])) else none) [3] [3] ?_
  simp only [go_sem, reduceIte, reduceCtorEq, zA, zM, zE, zL, zD, zS, zP, zB, zI, zR, hlw]
  repeat with_reducible refine cj ?_ ?_
  all_goals try first | (exact ha) | omega | exact ent (by kernel_rfl)
  refine hK4 _ _ _ ?_; clear hK4
  refine AW.seq fun K5 hK5 => ?_
  refine AW.seq fun K6 hK6 => ?_
  refine AW.regionK 0 (fun _ => none) [3, 12, 13] [3] ?_
  simp only [go_sem, reduceIte, reduceCtorEq, zA, zM, zE, zL, zD, zS, zP, zB, zI, zR, hlw]
  repeat with_reducible refine cj ?_ ?_
  all_goals try first | omega
  refine hK6 _ _ _ ?_; clear hK6
  refine AW.block ?_
  refine AW.loopE (fun mm ee ss kk => ∃ (j g3 v3 : Nat), n - j = mm ∧ ee = [(3, .ptr ⟨3, g3, none⟩ 0 0), (12, .int .i64 n), (13, .int .i64 (j : Nat))] ∧ ss = [(3, some ⟨g3, v3, 1, [[.rsl 2 (tabR c)]]⟩)] ∧ (j ≤ n ∧ ((List.range j).all fun i => !atT c i i) = true)) ?_ ?_
  ·refine ⟨_, 0, ?_, ?_, rfl, ?henv, ?hstore, ?hst⟩
   case henv =>
    repeat' (first | rfl | refine yaa ?_ ?_ | refine yad ?_ ?_ ?_ ?_ | refine yah ?_ | refine yae ?_ | refine yai ?_ | refine yaj ?_ | refine yan ?_ ?_ ?_ | refine yak ?_ ?_ ?_ | refine yal ?_ | refine yaf ?_ ?_ | refine yab ?_ ?_)
    all_goals (first | (simp; done) | omega | (simp; omega))
   case hstore =>
    repeat' (first | rfl | refine yaa ?_ ?_ | refine yad ?_ ?_ ?_ ?_ | refine yah ?_ | refine yae ?_ | refine yai ?_ | refine yaj ?_ | refine yan ?_ ?_ ?_ | refine yak ?_ ?_ ?_ | refine yal ?_ | refine yaf ?_ ?_ | refine yab ?_ ?_)
    all_goals (first | (simp; done) | omega | (simp; omega))
   case hst =>
    exact ⟨Nat.zero_le _, rfl⟩
  rintro mm ee ss kk ⟨j, g3, v3, rfl, rfl, rfl, hI⟩
  generalize hQl1 : ybd _ _ = Ql1
  obtain ⟨hj, hall⟩ := hI
  refine AW.seq fun K7 hK7 => ?_
  refine AW.regionK 0 (fun _ => none) [3, 12, 13, 14] [3] ?_
  simp only [go_sem, reduceIte, reduceCtorEq, zA, zM, zE, zL, zD, zS, zP, zB, zI, zR, hlw]
  repeat with_reducible refine cj ?_ ?_
  all_goals try first | omega
  refine hK7 _ _ _ ?_; clear hK7
  refine AW.seq fun K8 hK8 => ?_
  refine AW.cond rfl (by simp only [go_sem, reduceIte, reduceCtorEq, zA, zM, zE, zL, zD, zS, zP, zB, zI, zR]) ?_ ?_
  ·intro hb
   try simp only [hB, decide_eq_true_eq, decide_eq_false_iff_not] at hb
   have hhj := hh j (by omega)
   have hrs := ygh (p := fun i => !atT c i i) j
   rw [hall] at hrs
   refine AW.skip ?_
   refine hK8 _ _ _ ?_; clear hK8
   refine AW.seq fun K9 hK9 => ?_
   refine AW.block ?_
   refine AW.seq fun K10 hK10 => ?_
   refine AW.regionK 0 (fun _ => none) [3, 4, 12, 13] [3] ?_
   simp only [go_sem, reduceIte, reduceCtorEq, zA, zM, zE, zL, zD, zS, zP, zB, zI, zR, hlw]
   repeat with_reducible refine cj ?_ ?_
   all_goals try first | omega
   refine hK10 _ _ _ ?_; clear hK10
   refine AW.seq fun K11 hK11 => ?_
   refine AW.regionK 0 (fun ii => if ii = 3 then some (.reads false (.bool (atT c j j))) else none) [3, 12, 13, 19] [3] ?_
   simp only [go_sem, reduceIte, reduceCtorEq, zA, zM, zE, zL, zD, zS, zP, zB, zI, zR, hlw]
   repeat with_reducible refine cj ?_ ?_
   all_goals try first | (exact hhj) | omega | exact ent (by kernel_rfl)
   refine hK11 _ _ _ ?_; clear hK11
   refine AW.cond rfl (by simp only [go_sem, reduceIte, reduceCtorEq, zA, zM, zE, zL, zD, zS, zP, zB, zI, zR]) ?_ ?_
   ·intro hb
    try simp only [hB, decide_eq_true_eq, decide_eq_false_iff_not] at hb
    refine AW.seq fun K12 hK12 => ?_
    refine AW.regionK 0 (fun _ => none) [2] [] ?_
    simp only [go_sem, reduceIte, reduceCtorEq, zA, zM, zE, zL, zD, zS, zP, zB, zI, zR, hlw]
    repeat with_reducible refine cj ?_ ?_
    all_goals try first | omega
    refine hK12 _ _ _ ?_; clear hK12
    refine AW.ret ?_
    rw [← hQl1]
    rw [← hQr]
    simp only [go_sem, reduceIte, reduceCtorEq, zA, zM, zE, zL, zD, zS, zP, zB, zI, zR, hlw]
    exact Wk.of_eq (by rw [hac, yfo (j := j) (by omega) (by rw [hb]; rfl)])
   ·intro hb
    try simp only [hB, decide_eq_true_eq, decide_eq_false_iff_not] at hb
    refine AW.skip ?_
    refine hK9 _ _ _ ?_; clear hK9
    refine AW.regionK 0 (fun _ => none) [3, 12, 13] [3] ?_
    simp only [go_sem, reduceIte, reduceCtorEq, zA, zM, zE, zL, zD, zS, zP, zB, zI, zR, hlw]
    repeat with_reducible refine cj ?_ ?_
    all_goals try first | omega
    rw [← hQl1]
    change Exists _
    refine ⟨_, ?hm, j + 1, ?_, ?_, rfl, ?henv, ?hstore, ?hst⟩
    case henv =>
     repeat' (first | rfl | refine yaa ?_ ?_ | refine yad ?_ ?_ ?_ ?_ | refine yah ?_ | refine yae ?_ | refine yai ?_ | refine yaj ?_ | refine yan ?_ ?_ ?_ | refine yak ?_ ?_ ?_ | refine yal ?_ | refine yaf ?_ ?_ | refine yab ?_ ?_)
     all_goals (first | (simp; done) | omega | (simp; omega))
    case hstore =>
     repeat' (first | rfl | refine yaa ?_ ?_ | refine yad ?_ ?_ ?_ ?_ | refine yah ?_ | refine yae ?_ | refine yai ?_ | refine yaj ?_ | refine yan ?_ ?_ ?_ | refine yak ?_ ?_ ?_ | refine yal ?_ | refine yaf ?_ ?_ | refine yab ?_ ?_)
     all_goals (first | (simp; done) | omega | (simp; omega))
    case hst =>
     exact ⟨by omega, by rw [hrs, hb]; rfl⟩
    case hm => omega
  ·intro hb
   try simp only [hB, decide_eq_true_eq, decide_eq_false_iff_not] at hb
   refine AW.keep [] [] ?_
   try simp only [go_sem, reduceIte, reduceCtorEq, zA, zM, zE, zL, zD, zS, zP, zB, zI, zR]
   refine AW.exit ?_
   rw [← hQl1]
   refine hK5 _ _ _ ?_; clear hK5
   refine AW.seq fun K13 hK13 => ?_
   refine AW.regionK 0 (fun _ => none) [2] [] ?_
   simp only [go_sem, reduceIte, reduceCtorEq, zA, zM, zE, zL, zD, zS, zP, zB, zI, zR, hlw]
   repeat with_reducible refine cj ?_ ?_
   all_goals try first | omega
   refine hK13 _ _ _ ?_; clear hK13
   refine AW.ret ?_
   rw [← hQr]
   simp only [go_sem, reduceIte, reduceCtorEq, zA, zM, zE, zL, zD, zS, zP, zB, zI, zR, hlw]
   have hj2 : j = n := by omega
   subst hj2
   exact Wk.of_eq (by rw [hac, hall])
theorem yn0 (n : Nat) (t : List (List Bool)) (hs : Sq n t) (hn : n ≤ 512) : Reads Tryd.prog 25 false [relB t] (.tup [relB (invT n t), .int .i64 ((0 : Nat) : Int)]) := by
 have h := yl8 n t hs hn
 have ha := ys7 n t hs hn
 have hemp := yot n hn
 have hlt : (tabR t).length = n := by rw [ybt, hs.len]
 have hin := you (yhj (t := t) (n := n))
 have hpl : (yat t n).length ≤ 262144 := Nat.le_trans (yc1 t n n) (Nat.le_trans (Nat.mul_le_mul hn hn) (by decide))
 have hiv : invT n t = putL (yev n) ((yat t n).map ygb) := rfl
 have hsq := fun j => Sq.putL (n := n) (((yat t n).map ygb).take j) (Sq.rep n) (fun p hp => hin p (List.mem_of_mem_take hp))
 generalize hL : yat t n = L at *
 unfold relB at *
 refine Reads.body (rs := [.cell 2 24, .tmp 3]) Tryd.func25 rfl Tryd.ntmps25 rfl (by simp) ?_
 generalize hQr : retQ _ _ _ = Qr
 refine AW.seq fun K1 hK1 => ?_
 refine AW.regionK 0 (fun _ => none) [1, 2] [1, 2] ?_
 simp only [go_sem, reduceIte, reduceCtorEq, zA, zM, zE, zL, zD, zS, zP, zB, zI, zR, hlt, yas]
 repeat with_reducible refine cj ?_ ?_
 all_goals try first | omega
 refine hK1 _ _ _ ?_; clear hK1
 refine AW.seq fun K2 hK2 => ?_
 refine AW.seq fun K3 hK3 => ?_
 refine AW.regionK 0 (fun ii => if ii = 1 then some (.reads false (.bool true)) else none) [1, 2, 9] [1, 2] ?_
 simp only [go_sem, reduceIte, reduceCtorEq, zA, zM, zE, zL, zD, zS, zP, zB, zI, zR, hlt, yas]
 repeat with_reducible refine cj ?_ ?_
 all_goals try first | (exact h) | omega | exact ent (by kernel_rfl)
 refine hK3 _ _ _ ?_; clear hK3
 refine AW.cond rfl (by simp only [go_sem, reduceIte, reduceCtorEq, zA, zM, zE, zL, zD, zS, zP, zB, zI, zR]) ?_ ?_
 ·intro hb
  try simp only [hB, decide_eq_true_eq, decide_eq_false_iff_not] at hb
  simp at hb
 ·intro hb
  try simp only [hB, decide_eq_true_eq, decide_eq_false_iff_not] at hb
  refine AW.skip ?_
  refine hK2 _ _ _ ?_; clear hK2
  refine AW.seq fun K4 hK4 => ?_
  refine AW.regionK 0 (fun ii => if ii = 3 then some (.upd [] (fun k => [(0, some ⟨k, k, 2, tabO (List.replicate n (List.replicate n false))⟩)]) (fun k => .agg [.sl ⟨0, k, none⟩ 0 n none])) else none) [1, 2, 4] [1, 2, 4, 14] ?_
  simp only [go_sem, reduceIte, reduceCtorEq, zA, zM, zE, zL, zD, zS, zP, zB, zI, zR, hlt, yas]
  repeat with_reducible refine cj ?_ ?_
  all_goals try first | (exact hemp) | omega | exact ent (by kernel_rfl)
  refine hK4 _ _ _ ?_; clear hK4
  refine AW.seq fun K5 hK5 => ?_
  refine AW.seq fun K6 hK6 => ?_
  refine AW.regionK 0 (fun ii => if ii = 1 then some (.reads true (.rsl 2 (L.map ya6))) else none) [2, 4, 16, 17, 18] [2, 4, 14] ?_
  simp only [go_sem, reduceIte, reduceCtorEq, zA, zM, zE, zL, zD, zS, zP, zB, zI, zR, hlt, yas]
  repeat with_reducible refine cj ?_ ?_
  all_goals try first | (exact ha) | omega | exact ent (by kernel_rfl)
  refine hK6 _ _ _ ?_; clear hK6
  refine AW.block ?_
  refine AW.loopE (fun mm ee ss kk => ∃ (j g2 v2 g4 v4 g v : Nat), L.length - j = mm ∧ ee = [(2, .ptr ⟨2, g2, none⟩ 0 0), (4, .ptr ⟨4, g4, none⟩ 0 0), (16, .rsl 2 (L.map ya6)), (17, .int .i64 L.length), (18, .int .i64 (j : Nat))] ∧ ss = [(2, some ⟨g2, v2, 1, [[.nilsl]]⟩), (4, some ⟨g4, v4, 1, [[.sl ⟨14, g, none⟩ 0 n none]]⟩), (14, some ⟨g, v, 2, tabO (putL (yev n) ((L.map ygb).take j))⟩)] ∧ (j ≤ L.length)) ?_ ?_
  ·refine ⟨_, 0, ?_, ?_, ?_, ?_, ?_, ?_, rfl, ?henv, ?hstore, ?hst⟩
   case henv =>
    repeat' (first | rfl | refine yaa ?_ ?_ | refine yad ?_ ?_ ?_ ?_ | refine yah ?_ | refine yae ?_ | refine yai ?_ | refine yaj ?_ | refine yan ?_ ?_ ?_ | refine yak ?_ ?_ ?_ | refine yal ?_ | refine yaf ?_ ?_ | refine yab ?_ ?_)
    all_goals (first | (simp; done) | omega | (simp; omega))
   case hstore =>
    repeat' (first | rfl | refine yaa ?_ ?_ | refine yad ?_ ?_ ?_ ?_ | refine yah ?_ | refine yae ?_ | refine yai ?_ | refine yaj ?_ | refine yan ?_ ?_ ?_ | refine yak ?_ ?_ ?_ | refine yal ?_ | refine yaf ?_ ?_ | refine yab ?_ ?_)
    all_goals (first | (simp; done) | omega | (simp; omega))
   case hst =>
    first | trivial | omega | (simp; done) | (simp; omega)
  rintro mm ee ss kk ⟨j, g2, v2, g4, v4, g, v, rfl, rfl, rfl, hI⟩
  generalize hQl1 : ybd _ _ = Ql1
  refine AW.seq fun K7 hK7 => ?_
  refine AW.regionK 0 (fun _ => none) [2, 4, 16, 17, 18, 19] [2, 4, 14] ?_
  simp only [go_sem, reduceIte, reduceCtorEq, zA, zM, zE, zL, zD, zS, zP, zB, zI, zR, hlt, yas]
  repeat with_reducible refine cj ?_ ?_
  all_goals try first | omega
  refine hK7 _ _ _ ?_; clear hK7
  refine AW.seq fun K8 hK8 => ?_
  refine AW.cond rfl (by simp only [go_sem, reduceIte, reduceCtorEq, zA, zM, zE, zL, zD, zS, zP, zB, zI, zR]) ?_ ?_
  ·intro hb
   try simp only [hB, decide_eq_true_eq, decide_eq_false_iff_not] at hb
   obtain ⟨p, hp⟩ := getI (l := L) (j := j) (by omega)
   have hgp := getV (f := ya6) hp
   have hps : (L.map ygb)[j]? = some (ygb p) := by simp [hp]
   have hip := hin (ygb p) (List.mem_of_getElem? hps)
   have hpt := yny (u := yev n) hps
   have hsu := hsq j
   change Sq n (putL (yev n) _) at hsu
   unfold inP at hip
   simp only [ygb] at hip hpt
   generalize putL (yev n) ((L.map ygb).take j) = U at *
   have hpu := fun g v => ys6 n U hsu hn p.2.toNat p.1.toNat (by omega) (by omega) g v none
   rw [Int.toNat_of_nonneg hip.1, Int.toNat_of_nonneg hip.2.2.1] at hpu
   unfold putT at hpt
   refine AW.skip ?_
   refine hK8 _ _ _ ?_; clear hK8
   refine AW.seq fun K9 hK9 => ?_
   refine AW.block ?_
   refine AW.seq fun K10 hK10 => ?_
   refine AW.regionK 0 (fun _ => none) [2, 4, 6, 16, 17, 18] [2, 4, 6, 14] ?_
   simp only [go_sem, reduceIte, reduceCtorEq, zA, zM, zE, zL, zD, zS, zP, zB, zI, zR, hlt, yas, hgp, ya6]
   repeat with_reducible refine cj ?_ ?_
   all_goals try first | omega
   refine hK10 _ _ _ ?_; clear hK10
   refine AW.regionK 0 (fun ii => if ii = 5 then some (.upd [14] (fun kk => [(0, some ⟨g, kk, 2, tabO (U.set p.2.toNat ((rowT U p.2.toNat).set p.1.toNat true))⟩)]) (fun _ => .tup [])) else none) [2, 4, 16, 17, 18] [2, 4, 14] ?_
   simp only [go_sem, reduceIte, reduceCtorEq, zA, zM, zE, zL, zD, zS, zP, zB, zI, zR, hlt, yas]
   repeat with_reducible refine cj ?_ ?_
   all_goals try first | (exact hpu _ _) | omega | exact ent (by kernel_rfl)
   refine hK9 _ _ _ ?_; clear hK9
   refine AW.regionK 0 (fun _ => none) [2, 4, 16, 17, 18] [2, 4, 14] ?_
   simp only [go_sem, reduceIte, reduceCtorEq, zA, zM, zE, zL, zD, zS, zP, zB, zI, zR, hlt, yas]
   repeat with_reducible refine cj ?_ ?_
   all_goals try first | omega
   rw [← hQl1]
   change Exists _
   refine ⟨_, ?hm, j + 1, ?_, ?_, ?_, ?_, ?_, ?_, rfl, ?henv, ?hstore, ?hst⟩
   case henv =>
    repeat' (first | rfl | refine yaa ?_ ?_ | refine yad ?_ ?_ ?_ ?_ | refine yah ?_ | refine yae ?_ | refine yai ?_ | refine yaj ?_ | refine yan ?_ ?_ ?_ | refine yak ?_ ?_ ?_ | refine yal ?_ | refine yaf ?_ ?_ | refine yab ?_ ?_)
    all_goals (first | (simp; done) | omega | (simp; omega))
   case hstore =>
    repeat' (first | rfl | refine yaa ?_ ?_ | refine yad ?_ ?_ ?_ ?_ | refine yah ?_ | refine yae ?_ | refine yai ?_ | refine yaj ?_ | refine yan ?_ ?_ ?_ | refine yak ?_ ?_ ?_ | refine yal ?_ | refine yaf ?_ ?_ | refine yab ?_ ?_)
    all_goals (rw [hpt])
   case hst =>
    first | trivial | omega | (simp; done) | (simp; omega)
   case hm => omega
  ·intro hb
   try simp only [hB, decide_eq_true_eq, decide_eq_false_iff_not] at hb
   refine AW.keep [2, 4] [2, 4, 14] ?_
   try simp only [go_sem, reduceIte, reduceCtorEq, zA, zM, zE, zL, zD, zS, zP, zB, zI, zR]
   refine AW.exit ?_
   rw [← hQl1]
   refine hK5 _ _ _ ?_; clear hK5
   refine AW.seq fun K11 hK11 => ?_
   refine AW.regionK 0 (fun _ => none) [2, 3] [2, 14] ?_
   simp only [go_sem, reduceIte, reduceCtorEq, zA, zM, zE, zL, zD, zS, zP, zB, zI, zR, hlt, yas]
   repeat with_reducible refine cj ?_ ?_
   all_goals try first | omega
   refine hK11 _ _ _ ?_; clear hK11
   refine AW.ret ?_
   rw [← hQr]
   simp only [go_sem, reduceIte, reduceCtorEq, zA, zM, zE, zL, zD, zS, zP, zB, zI, zR, hlt, yas]
   have hj2 : j = L.length := by omega
   subst hj2
   have hfl : ((L.map ygb).take L.length) = L.map ygb := List.take_of_length_le (by simp)
   rw [hfl, ← hiv]
   refine Wk.of_eq ?_
   rw [List.take_of_length_le (by rw [yb2, hiv, ← hfl]; exact Nat.le_of_eq (hsq _).len), yl2]
   rfl
end Go.Proofs.W

namespace Go.Proofs.W
open Go.AM Go
set_option maxRecDepth 100000
set_option maxHeartbeats 1000000
def yki (n : Int) (p : Int × Int) : Bool := !(decide (0 ≤ p.1) && decide (p.1 < n)) || !(decide (0 ≤ p.2) && decide (p.2 < n))
theorem in_r (n i : Int) : Reads Tryd.prog 69 false [.int .i64 i, .rptr [.int .i64 n]] (.bool (decide (0 ≤ i) && decide (i < n))) := by
 refine Reads.body (rs := [.tmp 3]) Tryd.func69 rfl Tryd.ntmps69 rfl (by simp) ?_
 generalize hQr : retQ _ _ _ = Qr
 refine AW.seq fun K1 hK1 => ?_
 refine AW.regionK 0 (fun _ => none) [0, 1] [] ?_
 simp only [go_sem, reduceIte, reduceCtorEq, zA, zM, zE, zL, zD, zS, zP, zB, zI, zR]
 repeat with_reducible refine cj ?_ ?_
 all_goals try first | omega
 refine hK1 _ _ _ ?_; clear hK1
 refine AW.seq fun K2 hK2 => ?_
 refine AW.regionK 0 (fun _ => none) [3] [] ?_
 simp only [go_sem, reduceIte, reduceCtorEq, zA, zM, zE, zL, zD, zS, zP, zB, zI, zR]
 repeat with_reducible refine cj ?_ ?_
 all_goals try first | omega | (intros; (repeat' apply And.intro) <;> first | assumption | omega | decide) | (intro hgd; exact absurd hgd (by decide)) | rfl | (simp only [go_sem, reduceIte, reduceCtorEq, zA, zM, zE, zL, zD, zS, zP, zB, zI, zR]; done) | (intro _hgd; simp_all [go_sem]; done)
 refine hK2 _ _ _ ?_; clear hK2
 refine AW.ret ?_
 rw [← hQr]
 simp only [go_sem, reduceIte, reduceCtorEq, zA, zM, zE, zL, zD, zS, zP, zB, zI, zR]
 exact Wk.of_eq (by simp)
theorem badpr_r (n : Int) (p : Int × Int) : Reads Tryd.prog 71 false [.agg (ya6 p), .rptr [.fn 69 [.rptr [.int .i64 n]]]] (.bool (yki n p)) := by
 have h := in_r n
 unfold ya6
 refine Reads.body (rs := [.tmp 3]) Tryd.func71 rfl Tryd.ntmps71 rfl (by simp) ?_
 generalize hQr : retQ _ _ _ = Qr
 refine AW.seq fun K1 hK1 => ?_
 refine AW.regionK 0 (fun _ => none) [1, 2] [2] ?_
 simp only [go_sem, reduceIte, reduceCtorEq, zA, zM, zE, zL, zD, zS, zP, zB, zI, zR]
 repeat with_reducible refine cj ?_ ?_
 all_goals try first | omega
 refine hK1 _ _ _ ?_; clear hK1
 refine AW.seq fun K2 hK2 => ?_
 refine AW.regionK 0 (fun ii => if ii = 3 then some (.reads false (.bool (decide (0 ≤ p.1) && decide (p.1 < n)))) else if ii = 9 then some (.reads false (.bool (decide (0 ≤ p.2) && decide (p.2 < n)))) else none) [3] [] ?_
 simp only [go_sem, reduceIte, reduceCtorEq, zA, zM, zE, zL, zD, zS, zP, zB, zI, zR]
 repeat with_reducible refine cj ?_ ?_
 all_goals try first | (first | exact h p.1 | (intro hh; exact ⟨hh, h p.2⟩)) | (intros; (repeat' apply And.intro) <;> first | assumption | (first | exact h p.1 | (intro hh; exact ⟨hh, h p.2⟩))) | omega | exact ent (by kernel_rfl) | (intro hgd; exact absurd hgd (by decide)) | rfl | (simp only [go_sem, reduceIte, reduceCtorEq, zA, zM, zE, zL, zD, zS, zP, zB, zI, zR]; done) | (intro _hgd; simp_all [go_sem]; done)
 refine hK2 _ _ _ ?_; clear hK2
 refine AW.ret ?_
 rw [← hQr]
 simp only [go_sem, reduceIte, reduceCtorEq, zA, zM, zE, zL, zD, zS, zP, zB, zI, zR]
 exact Wk.of_eq (by unfold yki; simp)
theorem ixpr_r (n : Int) (ns : List (Int × Int)) (hl2 : ns.length ≤ 9223372036854775807) : Reads Tryd.prog 89 false [.rsl 2 (ns.map ya6), .fn 71 [.rptr [.fn 69 [.rptr [.int .i64 n]]]]] (.int .i64 (ixf (yki n) ns)) := by
 have hbp := fun p => badpr_r n p
 refine Reads.body (rs := [.tmp 4]) Tryd.func89 rfl Tryd.ntmps89 rfl (by simp) ?_
 generalize hQr : retQ _ _ _ = Qr
 refine AW.seq fun K1 hK1 => ?_
 refine AW.regionK 0 (fun _ => none) [0, 1] [] ?_
 simp only [go_sem, reduceIte, reduceCtorEq, zA, zM, zE, zL, zD, zS, zP, zB, zI, zR]
 repeat with_reducible refine cj ?_ ?_
 all_goals try first | omega
 refine hK1 _ _ _ ?_; clear hK1
 refine AW.seq fun K2 hK2 => ?_
 refine AW.seq fun K3 hK3 => ?_
 refine AW.regionK 0 (fun _ => none) [0, 1, 7, 8] [] ?_
 simp only [go_sem, reduceIte, reduceCtorEq, zA, zM, zE, zL, zD, zS, zP, zB, zI, zR]
 repeat with_reducible refine cj ?_ ?_
 all_goals try first | omega
 refine hK3 _ _ _ ?_; clear hK3
 refine AW.block ?_
 refine AW.loopE (fun mm ee ss kk => ∃ (j : Nat), ns.length - j = mm ∧ ee = [(0, .rsl 2 (ns.map ya6)), (1, .fn 71 [.rptr [.fn 69 [.rptr [.int .i64 n]]]]), (7, .int .i64 ns.length), (8, .int .i64 (j : Nat))] ∧ ss = [] ∧ (j ≤ ns.length ∧ (ns.take j).any (yki n) = false)) ?_ ?_
 ·refine ⟨_, 0, rfl, ?henv, ?hstore, ?hst⟩
  case henv =>
   repeat' (first | rfl | refine yaa ?_ ?_ | refine yad ?_ ?_ ?_ ?_ | refine yah ?_ | refine yae ?_ | refine yai ?_ | refine yaj ?_ | refine yan ?_ ?_ ?_ | refine yak ?_ ?_ ?_ | refine yal ?_ | refine yaf ?_ ?_ | refine yab ?_ ?_)
   all_goals (first | (simp; done) | omega | (simp; omega))
  case hstore =>
   repeat' (first | rfl | refine yaa ?_ ?_ | refine yad ?_ ?_ ?_ ?_ | refine yah ?_ | refine yae ?_ | refine yai ?_ | refine yaj ?_ | refine yan ?_ ?_ ?_ | refine yak ?_ ?_ ?_ | refine yal ?_ | refine yaf ?_ ?_ | refine yab ?_ ?_)
   all_goals (first | (simp; done) | omega | (simp; omega))
  case hst =>
   first | trivial | omega | (simp; done) | (simp; omega)
 rintro mm ee ss kk ⟨j, rfl, rfl, rfl, hI⟩
 generalize hQl1 : ybd _ _ = Ql1
 obtain ⟨hj, hall⟩ := hI
 refine AW.seq fun K4 hK4 => ?_
 refine AW.regionK 0 (fun _ => none) [0, 1, 7, 8, 9] [] ?_
 simp only [go_sem, reduceIte, reduceCtorEq, zA, zM, zE, zL, zD, zS, zP, zB, zI, zR]
 repeat with_reducible refine cj ?_ ?_
 all_goals try first | omega
 refine hK4 _ _ _ ?_; clear hK4
 refine AW.seq fun K5 hK5 => ?_
 refine AW.cond rfl (by simp only [go_sem, reduceIte, reduceCtorEq, zA, zM, zE, zL, zD, zS, zP, zB, zI, zR]) ?_ ?_
 ·intro hb
  try simp only [hB, decide_eq_true_eq, decide_eq_false_iff_not] at hb
  obtain ⟨x, hx⟩ := getI (l := ns) (j := j) (by omega)
  have hgx := getV (f := ya6) hx
  have hats := yco (p := yki n) hx
  have hbx := hbp x
  unfold ya6 at hbx
  refine AW.skip ?_
  refine hK5 _ _ _ ?_; clear hK5
  refine AW.seq fun K6 hK6 => ?_
  refine AW.block ?_
  refine AW.seq fun K7 hK7 => ?_
  refine AW.regionK 0 (fun _ => none) [0, 1, 5, 7, 8] [] ?_
  simp only [go_sem, reduceIte, reduceCtorEq, zA, zM, zE, zL, zD, zS, zP, zB, zI, zR]
  repeat with_reducible refine cj ?_ ?_
  all_goals try first | omega
  refine hK7 _ _ _ ?_; clear hK7
  refine AW.seq fun K8 hK8 => ?_
  refine AW.regionK 0 (fun ii => if ii = 5 then some (.reads false (.bool (yki n x))) else none) [0, 1, 5, 7, 8, 16] [] ?_
  simp only [go_sem, reduceIte, reduceCtorEq, zA, zM, zE, zL, zD, zS, zP, zB, zI, zR, hgx, ya6]
  repeat with_reducible refine cj ?_ ?_
  all_goals try first | (exact hbx) | omega | exact ent (by kernel_rfl)
  refine hK8 _ _ _ ?_; clear hK8
  refine AW.cond rfl (by simp only [go_sem, reduceIte, reduceCtorEq, zA, zM, zE, zL, zD, zS, zP, zB, zI, zR]) ?_ ?_
  ·intro hb
   try simp only [hB, decide_eq_true_eq, decide_eq_false_iff_not] at hb
   refine AW.seq fun K9 hK9 => ?_
   refine AW.regionK 0 (fun _ => none) [4] [] ?_
   simp only [go_sem, reduceIte, reduceCtorEq, zA, zM, zE, zL, zD, zS, zP, zB, zI, zR]
   repeat with_reducible refine cj ?_ ?_
   all_goals try first | omega
   refine hK9 _ _ _ ?_; clear hK9
   refine AW.ret ?_
   rw [← hQl1]
   rw [← hQr]
   simp only [go_sem, reduceIte, reduceCtorEq, zA, zM, zE, zL, zD, zS, zP, zB, zI, zR]
   exact Wk.of_eq (by rw [yla hx hb hall])
  ·intro hb
   try simp only [hB, decide_eq_true_eq, decide_eq_false_iff_not] at hb
   refine AW.skip ?_
   refine hK6 _ _ _ ?_; clear hK6
   refine AW.regionK 0 (fun _ => none) [0, 1, 7, 8] [] ?_
   simp only [go_sem, reduceIte, reduceCtorEq, zA, zM, zE, zL, zD, zS, zP, zB, zI, zR]
   repeat with_reducible refine cj ?_ ?_
   all_goals try first | omega
   rw [← hQl1]
   change Exists _
   refine ⟨_, ?hm, j + 1, rfl, ?henv, ?hstore, ?hst⟩
   case henv =>
    repeat' (first | rfl | refine yaa ?_ ?_ | refine yad ?_ ?_ ?_ ?_ | refine yah ?_ | refine yae ?_ | refine yai ?_ | refine yaj ?_ | refine yan ?_ ?_ ?_ | refine yak ?_ ?_ ?_ | refine yal ?_ | refine yaf ?_ ?_ | refine yab ?_ ?_)
    all_goals (first | (simp; done) | omega | (simp; omega))
   case hstore =>
    repeat' (first | rfl | refine yaa ?_ ?_ | refine yad ?_ ?_ ?_ ?_ | refine yah ?_ | refine yae ?_ | refine yai ?_ | refine yaj ?_ | refine yan ?_ ?_ ?_ | refine yak ?_ ?_ ?_ | refine yal ?_ | refine yaf ?_ ?_ | refine yab ?_ ?_)
    all_goals (first | (simp; done) | omega | (simp; omega))
   case hst =>
    exact ⟨by omega, by rw [hats, hall, hb]; rfl⟩
   case hm => omega
 ·intro hb
  try simp only [hB, decide_eq_true_eq, decide_eq_false_iff_not] at hb
  refine AW.keep [] [] ?_
  try simp only [go_sem, reduceIte, reduceCtorEq, zA, zM, zE, zL, zD, zS, zP, zB, zI, zR]
  refine AW.exit ?_
  rw [← hQl1]
  refine hK2 _ _ _ ?_; clear hK2
  refine AW.seq fun K10 hK10 => ?_
  refine AW.regionK 0 (fun _ => none) [4] [] ?_
  simp only [go_sem, reduceIte, reduceCtorEq, zA, zM, zE, zL, zD, zS, zP, zB, zI, zR]
  repeat with_reducible refine cj ?_ ?_
  all_goals try first | omega
  refine hK10 _ _ _ ?_; clear hK10
  refine AW.ret ?_
  rw [← hQr]
  simp only [go_sem, reduceIte, reduceCtorEq, zA, zM, zE, zL, zD, zS, zP, zB, zI, zR]
  exact Wk.of_eq (by rw [List.take_of_length_le (by omega)] at hall; rw [yhc hall])
theorem ctpr_r (n : Int) (ns : List (Int × Int)) (hl2 : ns.length ≤ 9223372036854775807) : Reads Tryd.prog 70 false [.rsl 2 (ns.map ya6), .fn 71 [.rptr [.fn 69 [.rptr [.int .i64 n]]]]] (.bool (ns.any (yki n))) := by
 have h := ixpr_r n ns hl2
 have hge := ypy (yki n) ns
 refine Reads.body (rs := [.tmp 4]) Tryd.func70 rfl Tryd.ntmps70 rfl (by simp) ?_
 generalize hQr : retQ _ _ _ = Qr
 refine AW.seq fun K1 hK1 => ?_
 refine AW.regionK 0 (fun _ => none) [0, 1] [] ?_
 simp only [go_sem, reduceIte, reduceCtorEq, zA, zM, zE, zL, zD, zS, zP, zB, zI, zR]
 repeat with_reducible refine cj ?_ ?_
 all_goals try first | omega
 refine hK1 _ _ _ ?_; clear hK1
 refine AW.seq fun K2 hK2 => ?_
 refine AW.regionK 0 (fun ii => if ii = 2 then some (.reads false (.int .i64 (ixf (yki n) ns))) else none) [4] [] ?_
 simp only [go_sem, reduceIte, reduceCtorEq, zA, zM, zE, zL, zD, zS, zP, zB, zI, zR]
 repeat with_reducible refine cj ?_ ?_
 all_goals try first | (exact h) | omega | exact ent (by kernel_rfl)
 refine hK2 _ _ _ ?_; clear hK2
 refine AW.ret ?_
 rw [← hQr]
 simp only [go_sem, reduceIte, reduceCtorEq, zA, zM, zE, zL, zD, zS, zP, zB, zI, zR]
 exact Wk.of_eq (by rw [hge])
theorem make_g (n : Nat) (ns : List (Int × Int)) (hl2 : ns.length ≤ 9223372036854775807) (hn : n ≤ 512) (hin : ∀ p ∈ ns, inP n p) : Reads Tryd.prog 42 false [.int .i64 n, .rsl 2 (ns.map ya6)] (.tup [relB (putL (yev n) ns), .int .i64 ((0 : Nat) : Int)]) := by
 have h := Reads.flat (ctpr_r n ns hl2) rfl
 have hnb : ns.any (yki n) = false := by
  rw [List.any_eq_false]; intro p hp
  have := hin p hp
  unfold inP at this
  simp [yki]; omega
 rw [hnb] at h
 have hemp := yot n hn
 have hsq := fun j => Sq.putL (n := n) (ns.take j) (Sq.rep n) (fun p hp => hin p (List.mem_of_mem_take hp))
 unfold relB
 refine Reads.body (rs := [.cell 4 24, .tmp 5]) Tryd.func42 rfl Tryd.ntmps42 rfl (by simp) ?_
 generalize hQr : retQ _ _ _ = Qr
 refine AW.seq fun K1 hK1 => ?_
 refine AW.regionK 0 (fun _ => none) [1, 2, 4] [2, 4] ?_
 simp only [go_sem, reduceIte, reduceCtorEq, zA, zM, zE, zL, zD, zS, zP, zB, zI, zR, yas]
 repeat with_reducible refine cj ?_ ?_
 all_goals try first | omega
 refine hK1 _ _ _ ?_; clear hK1
 refine AW.seq fun K2 hK2 => ?_
 refine AW.regionK 0 (fun _ => none) [1, 2, 4, 6] [2, 4, 6] ?_
 simp only [go_sem, reduceIte, reduceCtorEq, zA, zM, zE, zL, zD, zS, zP, zB, zI, zR, yas]
 repeat with_reducible refine cj ?_ ?_
 all_goals try first | omega
 refine hK2 _ _ _ ?_; clear hK2
 refine AW.seq fun K3 hK3 => ?_
 refine AW.seq fun K4 hK4 => ?_
 refine AW.regionK 0 (fun ii => if ii = 9 then some (.reads true (.bool false)) else none) [1, 2, 4, 21] [2, 4] ?_
 simp only [go_sem, reduceIte, reduceCtorEq, zA, zM, zE, zL, zD, zS, zP, zB, zI, zR, yas]
 repeat with_reducible refine cj ?_ ?_
 all_goals try first | ((intro hh; exact ⟨hh, h⟩)) | (intros; (repeat' apply And.intro) <;> first | assumption | ((intro hh; exact ⟨hh, h⟩))) | omega | exact ent (by kernel_rfl) | (intro hgd; exact absurd hgd (by decide)) | rfl | (simp only [go_sem, reduceIte, reduceCtorEq, zA, zM, zE, zL, zD, zS, zP, zB, zI, zR, yas]; done) | (intro _hgd; simp_all [go_sem]; done)
 refine hK4 _ _ _ ?_; clear hK4
 refine AW.cond rfl (by simp only [go_sem, reduceIte, reduceCtorEq, zA, zM, zE, zL, zD, zS, zP, zB, zI, zR]) ?_ ?_
 ·intro hb
  try simp only [hB, decide_eq_true_eq, decide_eq_false_iff_not] at hb
  exfalso; first | omega | (simp at hb; omega)
 ·intro hb
  try simp only [hB, decide_eq_true_eq, decide_eq_false_iff_not] at hb
  refine AW.skip ?_
  refine hK3 _ _ _ ?_; clear hK3
  refine AW.seq fun K5 hK5 => ?_
  refine AW.regionK 0 (fun ii => if ii = 1 then some (.upd [] (fun k => [(0, some ⟨k, k, 2, tabO (List.replicate n (List.replicate n false))⟩)]) (fun k => .agg [.sl ⟨0, k, none⟩ 0 n none])) else none) [1, 4, 7] [4, 7, 24] ?_
  simp only [go_sem, reduceIte, reduceCtorEq, zA, zM, zE, zL, zD, zS, zP, zB, zI, zR, yas]
  repeat with_reducible refine cj ?_ ?_
  all_goals try first | (exact hemp) | omega | exact ent (by kernel_rfl)
  refine hK5 _ _ _ ?_; clear hK5
  refine AW.seq fun K6 hK6 => ?_
  refine AW.seq fun K7 hK7 => ?_
  refine AW.regionK 0 (fun _ => none) [4, 7, 25, 26, 27] [4, 7, 24] ?_
  simp only [go_sem, reduceIte, reduceCtorEq, zA, zM, zE, zL, zD, zS, zP, zB, zI, zR, yas]
  repeat with_reducible refine cj ?_ ?_
  all_goals try first | omega
  refine hK7 _ _ _ ?_; clear hK7
  refine AW.block ?_
  refine AW.loopE (fun mm ee ss kk => ∃ (j g4 v4 g7 v7 g v : Nat), ns.length - j = mm ∧ ee = [(4, .ptr ⟨4, g4, none⟩ 0 0), (7, .ptr ⟨7, g7, none⟩ 0 0), (25, .rsl 2 (ns.map ya6)), (26, .int .i64 ns.length), (27, .int .i64 (j : Nat))] ∧ ss = [(4, some ⟨g4, v4, 1, [[.nilsl]]⟩), (7, some ⟨g7, v7, 1, [[.sl ⟨24, g, none⟩ 0 n none]]⟩), (24, some ⟨g, v, 2, tabO (putL (yev n) (ns.take j))⟩)] ∧ (j ≤ ns.length)) ?_ ?_
  ·refine ⟨_, 0, ?_, ?_, ?_, ?_, ?_, ?_, rfl, ?henv, ?hstore, ?hst⟩
   case henv =>
    repeat' (first | rfl | refine yaa ?_ ?_ | refine yad ?_ ?_ ?_ ?_ | refine yah ?_ | refine yae ?_ | refine yai ?_ | refine yaj ?_ | refine yan ?_ ?_ ?_ | refine yak ?_ ?_ ?_ | refine yal ?_ | refine yaf ?_ ?_ | refine yab ?_ ?_)
    all_goals (first | (simp; done) | omega | (simp; omega))
   case hstore =>
    repeat' (first | rfl | refine yaa ?_ ?_ | refine yad ?_ ?_ ?_ ?_ | refine yah ?_ | refine yae ?_ | refine yai ?_ | refine yaj ?_ | refine yan ?_ ?_ ?_ | refine yak ?_ ?_ ?_ | refine yal ?_ | refine yaf ?_ ?_ | refine yab ?_ ?_)
    all_goals (first | (simp; done) | omega | (simp; omega))
   case hst =>
    first | trivial | omega | (simp; done) | (simp; omega)
  rintro mm ee ss kk ⟨j, g4, v4, g7, v7, g, v, rfl, rfl, rfl, hI⟩
  generalize hQl1 : ybd _ _ = Ql1
  refine AW.seq fun K8 hK8 => ?_
  refine AW.regionK 0 (fun _ => none) [4, 7, 25, 26, 27, 28] [4, 7, 24] ?_
  simp only [go_sem, reduceIte, reduceCtorEq, zA, zM, zE, zL, zD, zS, zP, zB, zI, zR, yas]
  repeat with_reducible refine cj ?_ ?_
  all_goals try first | omega
  refine hK8 _ _ _ ?_; clear hK8
  refine AW.seq fun K9 hK9 => ?_
  refine AW.cond rfl (by simp only [go_sem, reduceIte, reduceCtorEq, zA, zM, zE, zL, zD, zS, zP, zB, zI, zR]) ?_ ?_
  ·intro hb
   try simp only [hB, decide_eq_true_eq, decide_eq_false_iff_not] at hb
   obtain ⟨p, hp⟩ := getI (l := ns) (j := j) (by omega)
   have hgp := getV (f := ya6) hp
   have hip := hin p (List.mem_of_getElem? hp)
   have hpt := yny (u := yev n) hp
   have hsu := hsq j
   change Sq n (putL (yev n) _) at hsu
   unfold inP at hip
   generalize putL (yev n) (ns.take j) = U at *
   have hpu := fun g v => ys6 n U hsu hn p.1.toNat p.2.toNat (by omega) (by omega) g v none
   rw [Int.toNat_of_nonneg hip.1, Int.toNat_of_nonneg hip.2.2.1] at hpu
   unfold putT at hpt
   refine AW.skip ?_
   refine hK9 _ _ _ ?_; clear hK9
   refine AW.seq fun K10 hK10 => ?_
   refine AW.block ?_
   refine AW.seq fun K11 hK11 => ?_
   refine AW.regionK 0 (fun _ => none) [4, 7, 9, 25, 26, 27] [4, 7, 9, 24] ?_
   simp only [go_sem, reduceIte, reduceCtorEq, zA, zM, zE, zL, zD, zS, zP, zB, zI, zR, yas, hgp, ya6]
   repeat with_reducible refine cj ?_ ?_
   all_goals try first | omega
   refine hK11 _ _ _ ?_; clear hK11
   refine AW.regionK 0 (fun ii => if ii = 5 then some (.upd [24] (fun kk => [(0, some ⟨g, kk, 2, tabO (U.set p.1.toNat ((rowT U p.1.toNat).set p.2.toNat true))⟩)]) (fun _ => .tup [])) else none) [4, 7, 25, 26, 27] [4, 7, 24] ?_
   simp only [go_sem, reduceIte, reduceCtorEq, zA, zM, zE, zL, zD, zS, zP, zB, zI, zR, yas]
   repeat with_reducible refine cj ?_ ?_
   all_goals try first | (exact hpu _ _) | omega | exact ent (by kernel_rfl)
   refine hK10 _ _ _ ?_; clear hK10
   refine AW.regionK 0 (fun _ => none) [4, 7, 25, 26, 27] [4, 7, 24] ?_
   simp only [go_sem, reduceIte, reduceCtorEq, zA, zM, zE, zL, zD, zS, zP, zB, zI, zR, yas]
   repeat with_reducible refine cj ?_ ?_
   all_goals try first | omega
   rw [← hQl1]
   change Exists _
   refine ⟨_, ?hm, j + 1, ?_, ?_, ?_, ?_, ?_, ?_, rfl, ?henv, ?hstore, ?hst⟩
   case henv =>
    repeat' (first | rfl | refine yaa ?_ ?_ | refine yad ?_ ?_ ?_ ?_ | refine yah ?_ | refine yae ?_ | refine yai ?_ | refine yaj ?_ | refine yan ?_ ?_ ?_ | refine yak ?_ ?_ ?_ | refine yal ?_ | refine yaf ?_ ?_ | refine yab ?_ ?_)
    all_goals (first | (simp; done) | omega | (simp; omega))
   case hstore =>
    repeat' (first | rfl | refine yaa ?_ ?_ | refine yad ?_ ?_ ?_ ?_ | refine yah ?_ | refine yae ?_ | refine yai ?_ | refine yaj ?_ | refine yan ?_ ?_ ?_ | refine yak ?_ ?_ ?_ | refine yal ?_ | refine yaf ?_ ?_ | refine yab ?_ ?_)
    all_goals (rw [hpt])
   case hst =>
    first | trivial | omega | (simp; done) | (simp; omega)
   case hm => omega
  ·intro hb
   try simp only [hB, decide_eq_true_eq, decide_eq_false_iff_not] at hb
   refine AW.keep [4, 7] [4, 7, 24] ?_
   try simp only [go_sem, reduceIte, reduceCtorEq, zA, zM, zE, zL, zD, zS, zP, zB, zI, zR]
   refine AW.exit ?_
   rw [← hQl1]
   refine hK6 _ _ _ ?_; clear hK6
   refine AW.seq fun K12 hK12 => ?_
   refine AW.regionK 0 (fun _ => none) [4, 5] [4, 24] ?_
   simp only [go_sem, reduceIte, reduceCtorEq, zA, zM, zE, zL, zD, zS, zP, zB, zI, zR, yas]
   repeat with_reducible refine cj ?_ ?_
   all_goals try first | omega
   refine hK12 _ _ _ ?_; clear hK12
   refine AW.ret ?_
   rw [← hQr]
   simp only [go_sem, reduceIte, reduceCtorEq, zA, zM, zE, zL, zD, zS, zP, zB, zI, zR, yas]
   have hj2 : j = ns.length := by omega
   subst hj2
   have hfl : ns.take ns.length = ns := List.take_of_length_le (Nat.le_refl _)
   have hsz := hsq ns.length
   rw [hfl] at *
   refine Wk.of_eq ?_
   rw [List.take_of_length_le (by rw [yb2]; exact Nat.le_of_eq hsz.len), yl2]
   rfl
end Go.Proofs.W

/- More on tables: what the reference computes. -/
namespace Go.AM
def ykx (b : List Bool) (n i : Nat) : List Bool := b.take i ++ List.replicate (n - i) false
theorem fillB_zero (b : List Bool) (n : Nat) : ykx b n 0 = List.replicate n false := by simp [ykx]
theorem fillB_len {b : List Bool} {n i : Nat} (h : b.length = n) (hi : i ≤ n) : (ykx b n i).length = n := by simp [ykx]; omega
theorem fillB_all {b : List Bool} {n : Nat} (h : b.length = n) : ykx b n n = b := by unfold ykx; rw [List.take_of_length_le (by omega)]; simp
theorem fillB_succ {b : List Bool} {n i : Nat} (h : b.length = n) (hi : i < n) : (ykx b n i).set i (b.getD i false) = ykx b n (i + 1) := by
  unfold ykx
  have hl : (b.take i).length = i := by simp; omega
  rw [List.set_append_right _ _ (by omega), hl, Nat.sub_self, show n - i = (n - (i + 1)) + 1 by omega, List.replicate_succ, List.set_cons_zero, List.take_succ_eq_append_getElem (show i < b.length by omega), List.append_assoc]
  simp [List.getD_eq_getElem?_getD, show i < b.length by omega]
theorem take_succT {t : List (List Bool)} {i : Nat} (h : i < t.length) : t.take (i + 1) = t.take i ++ [rowT t i] := by
  obtain ⟨h1, h2⟩ := List.getElem?_eq_some_iff.1 (yjk h)
  rw [List.take_succ_eq_append_getElem h1, h2]
theorem yrk {α : Type} (l : List (List α)) (x : List α) {i : Nat} (h : l.length = i) : (l ++ [x]).getD i [] = x := by
  rw [List.getD_eq_getElem?_getD, List.getElem?_append_right (by omega), h]; simp
theorem yrl {α : Type} (l : List α) (x y : α) {i : Nat} (h : l.length = i) : (l ++ [x]).set i y = l ++ [y] := by
  rw [List.set_append_right _ _ (by omega), h]; simp
theorem yrm {α : Type} (l : List α) (x : α) {i : Nat} (h : l.length = i) : (l ++ [x]).length = i + 1 := by simp [h]
theorem noOsl_bools (l : List Bool) : yf6 (ybc l) := ykc (f := fun x : Bool => [AV.bool x]) (fun x i sz q e => by
  rcases i with _ | i <;> simp at e) l
section
variable (s : yao) (d : Nat)
theorem vwcF_rowsO (t : List (List Bool)) : (ygx t).map (fun cs => cs.map (vwcF s (d + 1))) = yii t := by
  have e : ∀ b : List Bool, (ybc b).map (fun row => row.map (vwF s (d + 1))) = ybc b := fun b => by
    have : ∀ x : Bool, vwF s (d + 1) (.bool x) = .bool x := fun x => rfl
    simp [ybc, this]
  simp [ygx, yii, yjh, e]
end
end Go.AM

namespace Go.Proofs.W
open Go.AM Go
set_option maxRecDepth 100000
set_option maxHeartbeats 1000000
end Go.Proofs.W

/- The algebra of relations. -/
namespace Go.AM
theorem yl9 {x y : Bool} (h : x = true ↔ y = true) : x = y := by cases x <;> cases y <;> simp_all
theorem yma {n : Nat} {a : List (List Bool)} (ha : Sq n a) : invT n (invT n a) = a :=
  yrh (n := n) Sq.inv ha fun i j hi hj => by rw [ydx hi hj, ydx hj hi]
end Go.AM

