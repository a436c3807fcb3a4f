/- Lemmas and contracts, part 6: an abstract machine over the model, and the functions that the statement reaches. -/
import Derived.Test.YtodcjknicbmakaaDoorWidthDualP5
import Derived.Carry
import Derived.RowKit
import Derived.OpenShut
import Derived.Below
import Derived.ChangeSame
import Derived.JoinedOf
import Derived.Handed
import Derived.MakeChecks
import Derived.LaidMore
import Derived.Test.YtodcjknicbmakaaDoorRows
set_option linter.unusedVariables false
set_option linter.unusedSimpArgs false
open Nat renaming reduceAdd → zA, reduceMul → zM, reduceEqDiff → zE, reduceLT → zL, reduceLeDiff → zD, reduceSub → zS, reducePow → zP, reduceBEq → zB
open Int renaming reduceToNat → zI
open List renaming reduceReplicate → zR
namespace Go.Proofs.W
open Go.AM Go
set_option maxRecDepth 100000
set_option maxHeartbeats 2000000
theorem ysx (rs : List USet) (hl : ynz rs) (hv : yc9 rs = false) : Reads Tryd.prog 16 false [relV rs] (.bool false) := by
 have h := R.rrvalid_r rs hl.1 hl.2
 rw [hv] at h
 unfold relV at *
 refine Reads.body (rs := [.tmp 2]) Tryd.func16 rfl Tryd.ntmps16 rfl (by simp) ?_
 generalize hQr : retQ _ _ _ = Qr
 refine AW.seq fun K1 hK1 => ?_
 refine AW.regionK 0 (fun _ => none) [1] [1] ?_
 simp only [go_sem, reduceIte, reduceCtorEq, zA, zM, zE, zL, zD, zS, zP, zB, zI, zR]
 repeat with_reducible refine cj ?_ ?_
 all_goals try first | omega
 refine hK1 _ _ _ ?_; clear hK1
 refine AW.seq fun K2 hK2 => ?_
 refine AW.seq fun K3 hK3 => ?_
 refine AW.regionK 0 (fun ii => if ii = 1 then some (.reads false (.bool false)) else none) [1, 9] [1] ?_
 simp only [go_sem, reduceIte, reduceCtorEq, zA, zM, zE, zL, zD, zS, zP, zB, zI, zR]
 repeat with_reducible refine cj ?_ ?_
 all_goals try first | (exact h) | omega | exact ent (by kernel_rfl)
 refine hK3 _ _ _ ?_; clear hK3
 refine AW.cond rfl (by simp only [go_sem, reduceIte, reduceCtorEq, zA, zM, zE, zL, zD, zS, zP, zB, zI, zR]) ?_ ?_
 ·intro hb
  try simp only [hB, decide_eq_true_eq, decide_eq_false_iff_not] at hb
  refine AW.seq fun K4 hK4 => ?_
  refine AW.regionK 0 (fun _ => none) [2] [] ?_
  simp only [go_sem, reduceIte, reduceCtorEq, zA, zM, zE, zL, zD, zS, zP, zB, zI, zR]
  repeat with_reducible refine cj ?_ ?_
  all_goals try first | omega
  refine hK4 _ _ _ ?_; clear hK4
  refine AW.ret ?_
  rw [← hQr]
  simp only [go_sem, reduceIte, reduceCtorEq, zA, zM, zE, zL, zD, zS, zP, zB, zI, zR]
  exact Wk.refl _
 ·intro hb
  try simp only [hB, decide_eq_true_eq, decide_eq_false_iff_not] at hb
  exfalso; simp at hb
theorem yr1 (n : Nat) (t : List (List Bool)) (hs : Sq n t) (hn : n ≤ 512) : Reads Tryd.prog 16 false [relB t] (.bool (poB n t)) := by
 have hlen := hs.len
 have hlm : (t.map SB).length = n := by simp [hlen]
 have hW : ∀ x ∈ t.map SB, x.W.length ≤ 9223372036854775807 := fun x hx => by
  obtain ⟨b, hb, rfl⟩ := List.mem_map.1 hx
  have := yjm (b := b) (by rw [hs.row b hb]; exact hn)
  simp only [SB]; omega
 have h := R.rrvalid_r (t.map SB) (by omega) hW
 rw [ynq hs hn, ← yih] at h
 have ht := (R.table_r n t hs hn).old
 have hrl := yns t
 have hpo := ydc hs
 unfold relB at *
 refine Reads.body (rs := [.tmp 2]) Tryd.func16 rfl Tryd.ntmps16 rfl (by simp) ?_
 generalize hQr : retQ _ _ _ = Qr
 refine AW.seq fun K1 hK1 => ?_
 refine AW.regionK 0 (fun _ => none) [1] [1] ?_
 simp only [go_sem, reduceIte, reduceCtorEq, zA, zM, zE, zL, zD, zS, zP, zB, zI, zR, hrl, hlen, yap]
 repeat with_reducible refine cj ?_ ?_
 all_goals try first | omega
 refine hK1 _ _ _ ?_; clear hK1
 refine AW.seq fun K2 hK2 => ?_
 refine AW.seq fun K3 hK3 => ?_
 refine AW.regionK 0 (fun ii => if ii = 1 then some (.reads false (.bool true)) else none) [1, 9] [1] ?_
 simp only [go_sem, reduceIte, reduceCtorEq, zA, zM, zE, zL, zD, zS, zP, zB, zI, zR, hrl, hlen, yap]
 repeat with_reducible refine cj ?_ ?_
 all_goals try first | (exact h) | omega | exact ent (by kernel_rfl)
 refine hK3 _ _ _ ?_; clear hK3
 refine AW.cond rfl (by simp only [go_sem, reduceIte, reduceCtorEq, zA, zM, zE, zL, zD, zS, zP, zB, zI, zR]) ?_ ?_
 ·intro hb
  try simp only [hB, decide_eq_true_eq, decide_eq_false_iff_not] at hb
  exfalso; simp at hb
 ·intro hb
  try simp only [hB, decide_eq_true_eq, decide_eq_false_iff_not] at hb
  refine AW.skip ?_
  refine hK2 _ _ _ ?_; clear hK2
  refine AW.seq fun K4 hK4 => ?_
  refine AW.regionK 0 (fun ii => if ii = 1 then some (.reads false (.rsl 1 (yii t))) else none) [3] [] ?_
  simp only [go_sem, reduceIte, reduceCtorEq, zA, zM, zE, zL, zD, zS, zP, zB, zI, zR, hrl, hlen, yap]
  repeat with_reducible refine cj ?_ ?_
  all_goals try first | (exact ht) | omega | exact ent (by kernel_rfl)
  refine hK4 _ _ _ ?_; clear hK4
  refine AW.seq fun K5 hK5 => ?_
  refine AW.seq fun K6 hK6 => ?_
  refine AW.regionK 0 (fun _ => none) [3, 4] [] ?_
  simp only [go_sem, reduceIte, reduceCtorEq, zA, zM, zE, zL, zD, zS, zP, zB, zI, zR, hrl, hlen, yap]
  repeat with_reducible refine cj ?_ ?_
  all_goals try first | omega
  refine hK6 _ _ _ ?_; clear hK6
  refine AW.block ?_
  refine AW.loopE (fun mm ee ss kk => ∃ (i : Nat), n - i = mm ∧ ee = [(3, .rsl 1 (yii t)), (4, .int .i64 (i : Nat))] ∧ ss = [] ∧ (i ≤ n ∧ ∀ a, a < i → atT t a a = false ∧ ∀ b c, b < n → c < n → atT t a b = true → atT t b c = true → atT t a c = true)) ?_ ?_
  ·refine ⟨_, 0, rfl, ?henv, ?hstore, ?hst⟩
   case henv =>
    repeat' (first | rfl | refine yaa ?_ ?_ | refine yad ?_ ?_ ?_ ?_ | refine yah ?_ | refine yae ?_ | refine yai ?_ | refine yaj ?_ | refine yan ?_ ?_ ?_ | refine yak ?_ ?_ ?_ | refine yal ?_ | refine yaf ?_ ?_ | refine yab ?_ ?_)
    all_goals (first | (simp; done) | omega | (simp; omega))
   case hstore =>
    repeat' (first | rfl | refine yaa ?_ ?_ | refine yad ?_ ?_ ?_ ?_ | refine yah ?_ | refine yae ?_ | refine yai ?_ | refine yaj ?_ | refine yan ?_ ?_ ?_ | refine yak ?_ ?_ ?_ | refine yal ?_ | refine yaf ?_ ?_ | refine yab ?_ ?_)
    all_goals (first | (simp; done) | omega | (simp; omega))
   case hst =>
    exact ⟨by omega, fun a ha => by omega⟩
  rintro mm ee ss kk ⟨i, rfl, rfl, rfl, hI⟩
  generalize hQl1 : ybd _ _ = Ql1
  obtain ⟨hi, hal⟩ := hI
  refine AW.seq fun K7 hK7 => ?_
  refine AW.seq fun K8 hK8 => ?_
  refine AW.regionK 0 (fun _ => none) [3, 4, 15] [] ?_
  simp only [go_sem, reduceIte, reduceCtorEq, zA, zM, zE, zL, zD, zS, zP, zB, zI, zR, hrl, hlen, yap]
  repeat with_reducible refine cj ?_ ?_
  all_goals try first | omega
  refine hK8 _ _ _ ?_; clear hK8
  refine AW.cond rfl (by simp only [go_sem, reduceIte, reduceCtorEq, zA, zM, zE, zL, zD, zS, zP, zB, zI, zR]) ?_ ?_
  ·intro hb
   try simp only [hB, decide_eq_true_eq, decide_eq_false_iff_not] at hb
   have hgi := yke (t := t) (i := i) (by omega)
   have hri := hs.rowLen (i := i) (by omega)
   have hgii := yc0 (l := rowT t i) (i := i) (by omega)
   have hat : atT t i i = (rowT t i).getD i false := rfl
   rw [← hat] at hgii
   refine AW.skip ?_
   refine hK7 _ _ _ ?_; clear hK7
   refine AW.seq fun K9 hK9 => ?_
   refine AW.block ?_
   refine AW.seq fun K10 hK10 => ?_
   refine AW.seq fun K11 hK11 => ?_
   refine AW.regionK 0 (fun _ => none) [3, 4, 24] [] ?_
   simp only [go_sem, reduceIte, reduceCtorEq, zA, zM, zE, zL, zD, zS, zP, zB, zI, zR, hrl, hlen, yap, hgi, hri, hgii]
   repeat with_reducible refine cj ?_ ?_
   all_goals try first | omega
   refine hK11 _ _ _ ?_; clear hK11
   refine AW.cond rfl (by simp only [go_sem, reduceIte, reduceCtorEq, zA, zM, zE, zL, zD, zS, zP, zB, zI, zR]) ?_ ?_
   ·intro hb
    try simp only [hB, decide_eq_true_eq, decide_eq_false_iff_not] at hb
    refine AW.seq fun K12 hK12 => ?_
    refine AW.regionK 0 (fun _ => none) [2] [] ?_
    simp only [go_sem, reduceIte, reduceCtorEq, zA, zM, zE, zL, zD, zS, zP, zB, zI, zR, hrl, hlen, yap]
    repeat with_reducible refine cj ?_ ?_
    all_goals try first | omega
    refine hK12 _ _ _ ?_; clear hK12
    refine AW.ret ?_
    rw [← hQl1]
    rw [← hQr]
    simp only [go_sem, reduceIte, reduceCtorEq, zA, zM, zE, zL, zD, zS, zP, zB, zI, zR, hrl, hlen, yap]
    have hf : poB n t = false := by
     cases e : poB n t with
     | false => rfl
     | true => have := (hpo.1 e).irr i (by omega); rw [hb] at this; cases this
    exact Wk.of_eq (by rw [hf])
   ·intro hb
    try simp only [hB, decide_eq_true_eq, decide_eq_false_iff_not] at hb
    have hir : atT t i i = false := by simpa using hb
    clear hb
    refine AW.skip ?_
    refine hK10 _ _ _ ?_; clear hK10
    refine AW.seq fun K13 hK13 => ?_
    refine AW.regionK 0 (fun _ => none) [3, 4, 5] [] ?_
    simp only [go_sem, reduceIte, reduceCtorEq, zA, zM, zE, zL, zD, zS, zP, zB, zI, zR, hrl, hlen, yap]
    repeat with_reducible refine cj ?_ ?_
    all_goals try first | omega
    refine hK13 _ _ _ ?_; clear hK13
    refine AW.block ?_
    refine AW.loopE (fun mm ee ss kk => ∃ (j : Nat), n - j = mm ∧ ee = [(3, .rsl 1 (yii t)), (4, .int .i64 (i : Nat)), (5, .int .i64 (j : Nat))] ∧ ss = [] ∧ (j ≤ n ∧ ∀ b c, b < j → c < n → atT t i b = true → atT t b c = true → atT t i c = true)) ?_ ?_
    ·refine ⟨_, 0, rfl, ?henv, ?hstore, ?hst⟩
     case henv =>
      repeat' (first | rfl | refine yaa ?_ ?_ | refine yad ?_ ?_ ?_ ?_ | refine yah ?_ | refine yae ?_ | refine yai ?_ | refine yaj ?_ | refine yan ?_ ?_ ?_ | refine yak ?_ ?_ ?_ | refine yal ?_ | refine yaf ?_ ?_ | refine yab ?_ ?_)
      all_goals (first | (simp; done) | omega | (simp; omega))
     case hstore =>
      repeat' (first | rfl | refine yaa ?_ ?_ | refine yad ?_ ?_ ?_ ?_ | refine yah ?_ | refine yae ?_ | refine yai ?_ | refine yaj ?_ | refine yan ?_ ?_ ?_ | refine yak ?_ ?_ ?_ | refine yal ?_ | refine yaf ?_ ?_ | refine yab ?_ ?_)
      all_goals (first | (simp; done) | omega | (simp; omega))
     case hst =>
      exact ⟨by omega, fun b c hb => by omega⟩
    rintro mm ee ss kk ⟨j, rfl, rfl, rfl, hI⟩
    generalize hQl2 : ybd _ _ = Ql2
    obtain ⟨hj, hal2⟩ := hI
    refine AW.seq fun K14 hK14 => ?_
    refine AW.seq fun K15 hK15 => ?_
    refine AW.regionK 0 (fun _ => none) [3, 4, 5, 28] [] ?_
    simp only [go_sem, reduceIte, reduceCtorEq, zA, zM, zE, zL, zD, zS, zP, zB, zI, zR, hrl, hlen, yap]
    repeat with_reducible refine cj ?_ ?_
    all_goals try first | omega
    refine hK15 _ _ _ ?_; clear hK15
    refine AW.cond rfl (by simp only [go_sem, reduceIte, reduceCtorEq, zA, zM, zE, zL, zD, zS, zP, zB, zI, zR]) ?_ ?_
    ·intro hb
     try simp only [hB, decide_eq_true_eq, decide_eq_false_iff_not] at hb
     have hgj := yke (t := t) (i := j) (by omega)
     have hrj := hs.rowLen (i := j) (by omega)
     have hgij := yc0 (l := rowT t i) (i := j) (by omega)
     have hatij : atT t i j = (rowT t i).getD j false := rfl
     rw [← hatij] at hgij
     refine AW.skip ?_
     refine hK14 _ _ _ ?_; clear hK14
     refine AW.seq fun K16 hK16 => ?_
     refine AW.block ?_
     refine AW.seq fun K17 hK17 => ?_
     refine AW.regionK 0 (fun _ => none) [3, 4, 5, 6] [] ?_
     simp only [go_sem, reduceIte, reduceCtorEq, zA, zM, zE, zL, zD, zS, zP, zB, zI, zR, hrl, hlen, yap]
     repeat with_reducible refine cj ?_ ?_
     all_goals try first | omega
     refine hK17 _ _ _ ?_; clear hK17
     refine AW.block ?_
     refine AW.loopE (fun mm ee ss kk => ∃ (k : Nat), n - k = mm ∧ ee = [(3, .rsl 1 (yii t)), (4, .int .i64 (i : Nat)), (5, .int .i64 (j : Nat)), (6, .int .i64 (k : Nat))] ∧ ss = [] ∧ (k ≤ n ∧ ∀ c, c < k → atT t i j = true → atT t j c = true → atT t i c = true)) ?_ ?_
     ·refine ⟨_, 0, rfl, ?henv, ?hstore, ?hst⟩
      case henv =>
       repeat' (first | rfl | refine yaa ?_ ?_ | refine yad ?_ ?_ ?_ ?_ | refine yah ?_ | refine yae ?_ | refine yai ?_ | refine yaj ?_ | refine yan ?_ ?_ ?_ | refine yak ?_ ?_ ?_ | refine yal ?_ | refine yaf ?_ ?_ | refine yab ?_ ?_)
       all_goals (first | (simp; done) | omega | (simp; omega))
      case hstore =>
       repeat' (first | rfl | refine yaa ?_ ?_ | refine yad ?_ ?_ ?_ ?_ | refine yah ?_ | refine yae ?_ | refine yai ?_ | refine yaj ?_ | refine yan ?_ ?_ ?_ | refine yak ?_ ?_ ?_ | refine yal ?_ | refine yaf ?_ ?_ | refine yab ?_ ?_)
       all_goals (first | (simp; done) | omega | (simp; omega))
      case hst =>
       exact ⟨by omega, fun c hc => by omega⟩
     rintro mm ee ss kk ⟨k, rfl, rfl, rfl, hI⟩
     generalize hQl3 : ybd _ _ = Ql3
     obtain ⟨hk, hal3⟩ := hI
     refine AW.seq fun K18 hK18 => ?_
     refine AW.seq fun K19 hK19 => ?_
     refine AW.regionK 0 (fun _ => none) [3, 4, 5, 6, 34] [] ?_
     simp only [go_sem, reduceIte, reduceCtorEq, zA, zM, zE, zL, zD, zS, zP, zB, zI, zR, hrl, hlen, yap]
     repeat with_reducible refine cj ?_ ?_
     all_goals try first | omega
     refine hK19 _ _ _ ?_; clear hK19
     refine AW.cond rfl (by simp only [go_sem, reduceIte, reduceCtorEq, zA, zM, zE, zL, zD, zS, zP, zB, zI, zR]) ?_ ?_
     ·intro hb
      try simp only [hB, decide_eq_true_eq, decide_eq_false_iff_not] at hb
      have hgjk := yc0 (l := rowT t j) (i := k) (by omega)
      have hgik := yc0 (l := rowT t i) (i := k) (by omega)
      have hatjk : atT t j k = (rowT t j).getD k false := rfl
      have hatik : atT t i k = (rowT t i).getD k false := rfl
      rw [← hatjk] at hgjk
      rw [← hatik] at hgik
      refine AW.skip ?_
      refine hK18 _ _ _ ?_; clear hK18
      refine AW.seq fun K20 hK20 => ?_
      refine AW.block ?_
      refine AW.seq fun K21 hK21 => ?_
      refine AW.regionK 0 (fun _ => none) [3, 4, 5, 6, 62] [] ?_
      simp only [go_sem, reduceIte, reduceCtorEq, zA, zM, zE, zL, zD, zS, zP, zB, zI, zR, hrl, hlen, yap, hgi, hri, hgj, hrj, hgij, hgjk, hgik]
      repeat with_reducible refine cj ?_ ?_
      all_goals try first | ((intro hh; (repeat' apply And.intro) <;> first | exact hh | omega)) | (intros; (repeat' apply And.intro) <;> first | assumption | ((intro hh; (repeat' apply And.intro) <;> first | exact hh | omega))) | omega | (intro hgd; exact absurd hgd (by decide)) | rfl | (simp only [go_sem, reduceIte, reduceCtorEq, zA, zM, zE, zL, zD, zS, zP, zB, zI, zR, hrl, hlen, yap, hgi, hri, hgj, hrj, hgij, hgjk, hgik]; done) | (intro _hgd; simp_all [go_sem]; done)
      refine hK21 _ _ _ ?_; clear hK21
      refine AW.cond rfl (by simp only [go_sem, reduceIte, reduceCtorEq, zA, zM, zE, zL, zD, zS, zP, zB, zI, zR]) ?_ ?_
      ·intro hb
       try simp only [hB, decide_eq_true_eq, decide_eq_false_iff_not] at hb
       refine AW.seq fun K22 hK22 => ?_
       refine AW.regionK 0 (fun _ => none) [2] [] ?_
       simp only [go_sem, reduceIte, reduceCtorEq, zA, zM, zE, zL, zD, zS, zP, zB, zI, zR, hrl, hlen, yap]
       repeat with_reducible refine cj ?_ ?_
       all_goals try first | omega
       refine hK22 _ _ _ ?_; clear hK22
       refine AW.ret ?_
       rw [← hQl3]
       rw [← hQl2]
       rw [← hQl1]
       rw [← hQr]
       simp only [go_sem, reduceIte, reduceCtorEq, zA, zM, zE, zL, zD, zS, zP, zB, zI, zR, hrl, hlen, yap]
       have hf : poB n t = false := by
        cases e : poB n t with
        | false => rfl
        | true => have := (hpo.1 e).trans i j k (by omega) (by omega) (by omega) hb.1.1 hb.1.2; rw [hb.2] at this; cases this
       exact Wk.of_eq (by rw [hf])
      ·intro hb
       try simp only [hB, decide_eq_true_eq, decide_eq_false_iff_not] at hb
       refine AW.skip ?_
       refine hK20 _ _ _ ?_; clear hK20
       refine AW.regionK 0 (fun _ => none) [3, 4, 5, 6] [] ?_
       simp only [go_sem, reduceIte, reduceCtorEq, zA, zM, zE, zL, zD, zS, zP, zB, zI, zR, hrl, hlen, yap]
       repeat with_reducible refine cj ?_ ?_
       all_goals try first | omega
       rw [← hQl3]
       change Exists _
       refine ⟨_, ?hm, k + 1, rfl, ?henv, ?hstore, ?hst⟩
       case henv =>
        repeat' (first | rfl | refine yaa ?_ ?_ | refine yad ?_ ?_ ?_ ?_ | refine yah ?_ | refine yae ?_ | refine yai ?_ | refine yaj ?_ | refine yan ?_ ?_ ?_ | refine yak ?_ ?_ ?_ | refine yal ?_ | refine yaf ?_ ?_ | refine yab ?_ ?_)
        all_goals (first | (simp; done) | omega | (simp; omega))
       case hstore =>
        repeat' (first | rfl | refine yaa ?_ ?_ | refine yad ?_ ?_ ?_ ?_ | refine yah ?_ | refine yae ?_ | refine yai ?_ | refine yaj ?_ | refine yan ?_ ?_ ?_ | refine yak ?_ ?_ ?_ | refine yal ?_ | refine yaf ?_ ?_ | refine yab ?_ ?_)
        all_goals (first | (simp; done) | omega | (simp; omega))
       case hst =>
        refine ⟨by omega, fun c hc h1 h2 => ?_⟩
        by_cases e : c = k
        ·subst e
         revert hb; rw [h1, h2]; cases atT t i c <;> simp
        ·exact hal3 c (by omega) h1 h2
       case hm => omega
     ·intro hb
      try simp only [hB, decide_eq_true_eq, decide_eq_false_iff_not] at hb
      have hk2 : k = n := by omega
      refine AW.keep [3, 4, 5] [] ?_
      try simp only [go_sem, reduceIte, reduceCtorEq, zA, zM, zE, zL, zD, zS, zP, zB, zI, zR]
      refine AW.exit ?_
      rw [← hQl3]
      refine hK16 _ _ _ ?_; clear hK16
      refine AW.regionK 0 (fun _ => none) [3, 4, 5] [] ?_
      simp only [go_sem, reduceIte, reduceCtorEq, zA, zM, zE, zL, zD, zS, zP, zB, zI, zR, hrl, hlen, yap]
      repeat with_reducible refine cj ?_ ?_
      all_goals try first | omega
      rw [← hQl2]
      change Exists _
      refine ⟨_, ?hm, j + 1, rfl, ?henv, ?hstore, ?hst⟩
      case henv =>
       repeat' (first | rfl | refine yaa ?_ ?_ | refine yad ?_ ?_ ?_ ?_ | refine yah ?_ | refine yae ?_ | refine yai ?_ | refine yaj ?_ | refine yan ?_ ?_ ?_ | refine yak ?_ ?_ ?_ | refine yal ?_ | refine yaf ?_ ?_ | refine yab ?_ ?_)
       all_goals (first | (simp; done) | omega | (simp; omega))
      case hstore =>
       repeat' (first | rfl | refine yaa ?_ ?_ | refine yad ?_ ?_ ?_ ?_ | refine yah ?_ | refine yae ?_ | refine yai ?_ | refine yaj ?_ | refine yan ?_ ?_ ?_ | refine yak ?_ ?_ ?_ | refine yal ?_ | refine yaf ?_ ?_ | refine yab ?_ ?_)
       all_goals (first | (simp; done) | omega | (simp; omega))
      case hst =>
       refine ⟨by omega, fun b c hb2 hc h1 h2 => ?_⟩
       by_cases e : b = j
       ·subst e; exact hal3 c (by omega) h1 h2
       ·exact hal2 b c (by omega) hc h1 h2
      case hm => omega
    ·intro hb
     try simp only [hB, decide_eq_true_eq, decide_eq_false_iff_not] at hb
     have hj2 : j = n := by omega
     refine AW.keep [3, 4] [] ?_
     try simp only [go_sem, reduceIte, reduceCtorEq, zA, zM, zE, zL, zD, zS, zP, zB, zI, zR]
     refine AW.exit ?_
     rw [← hQl2]
     refine hK9 _ _ _ ?_; clear hK9
     refine AW.regionK 0 (fun _ => none) [3, 4] [] ?_
     simp only [go_sem, reduceIte, reduceCtorEq, zA, zM, zE, zL, zD, zS, zP, zB, zI, zR, hrl, hlen, yap]
     repeat with_reducible refine cj ?_ ?_
     all_goals try first | omega
     rw [← hQl1]
     change Exists _
     refine ⟨_, ?hm, i + 1, rfl, ?henv, ?hstore, ?hst⟩
     case henv =>
      repeat' (first | rfl | refine yaa ?_ ?_ | refine yad ?_ ?_ ?_ ?_ | refine yah ?_ | refine yae ?_ | refine yai ?_ | refine yaj ?_ | refine yan ?_ ?_ ?_ | refine yak ?_ ?_ ?_ | refine yal ?_ | refine yaf ?_ ?_ | refine yab ?_ ?_)
      all_goals (first | (simp; done) | omega | (simp; omega))
     case hstore =>
      repeat' (first | rfl | refine yaa ?_ ?_ | refine yad ?_ ?_ ?_ ?_ | refine yah ?_ | refine yae ?_ | refine yai ?_ | refine yaj ?_ | refine yan ?_ ?_ ?_ | refine yak ?_ ?_ ?_ | refine yal ?_ | refine yaf ?_ ?_ | refine yab ?_ ?_)
      all_goals (first | (simp; done) | omega | (simp; omega))
     case hst =>
      refine ⟨by omega, fun a ha => ?_⟩
      by_cases e : a = i
      ·subst e; exact ⟨hir, fun b c hb2 hc => hal2 b c (by omega) hc⟩
      ·exact hal a (by omega)
     case hm => omega
  ·intro hb
   try simp only [hB, decide_eq_true_eq, decide_eq_false_iff_not] at hb
   refine AW.keep [] [] ?_
   try simp only [go_sem, reduceIte, reduceCtorEq, zA, zM, zE, zL, zD, zS, zP, zB, zI, zR]
   refine AW.exit ?_
   rw [← hQl1]
   refine hK5 _ _ _ ?_; clear hK5
   refine AW.seq fun K23 hK23 => ?_
   refine AW.regionK 0 (fun _ => none) [2] [] ?_
   simp only [go_sem, reduceIte, reduceCtorEq, zA, zM, zE, zL, zD, zS, zP, zB, zI, zR, hrl, hlen, yap]
   repeat with_reducible refine cj ?_ ?_
   all_goals try first | omega
   refine hK23 _ _ _ ?_; clear hK23
   refine AW.ret ?_
   rw [← hQr]
   simp only [go_sem, reduceIte, reduceCtorEq, zA, zM, zE, zL, zD, zS, zP, zB, zI, zR, hrl, hlen, yap]
   have hi2 : i = n := by omega
   have hp : IsPo n t := ⟨fun a ha => (hal a (by omega)).1, fun a b c ha hb2 hc => (hal a (by omega)).2 b c hb2 hc⟩
   exact Wk.of_eq (by rw [hpo.2 hp])
end Go.Proofs.W

namespace Go.Proofs.W
open Go.AM Go
set_option maxRecDepth 100000
set_option maxHeartbeats 2000000
def ykr (x : USet) : Bool := decide ((20 : Int) < x.W.length)
theorem great1_r (x : USet) (hx : x.W.length ≤ 9223372036854775807) : Reads Tryd.prog 35 false [.agg (rowV x)] (.bool (ykr x)) := by
 unfold rowV
 refine Reads.body (rs := [.tmp 2]) Tryd.func35 rfl Tryd.ntmps35 rfl (by simp) ?_
 generalize hQr : retQ _ _ _ = Qr
 refine AW.seq fun K1 hK1 => ?_
 refine AW.regionK 0 (fun _ => none) [1] [1] ?_
 simp only [go_sem, reduceIte, reduceCtorEq, zA, zM, zE, zL, zD, zS, zP, zB, zI, zR]
 repeat with_reducible refine cj ?_ ?_
 all_goals try first | omega
 refine hK1 _ _ _ ?_; clear hK1
 refine AW.seq fun K2 hK2 => ?_
 refine AW.regionK 0 (fun _ => none) [2] [] ?_
 simp only [go_sem, reduceIte, reduceCtorEq, zA, zM, zE, zL, zD, zS, zP, zB, zI, zR]
 repeat with_reducible refine cj ?_ ?_
 all_goals try first | omega
 refine hK2 _ _ _ ?_; clear hK2
 refine AW.ret ?_
 rw [← hQr]
 simp only [go_sem, reduceIte, reduceCtorEq, zA, zM, zE, zL, zD, zS, zP, zB, zI, zR]
 exact Wk.of_eq (by unfold ykr; simp)
theorem ixgreat_r (rs : List USet) (hl : ynz rs) : Reads Tryd.prog 64 false [.rsl 2 (rs.map rowV), .fn 35 []] (.int .i64 (ixf ykr rs)) := by
 have hbp := fun x hxm => great1_r x (hl.2 x hxm)
 have hl1 := hl.1
 refine Reads.body (rs := [.tmp 4]) Tryd.func64 rfl Tryd.ntmps64 rfl (by simp) ?_
 generalize hQr : retQ _ _ _ = Qr
 refine AW.seq fun K1 hK1 => ?_
 refine AW.regionK 0 (fun _ => none) [0, 1] [] ?_
 simp only [go_sem, reduceIte, reduceCtorEq, zA, zM, zE, zL, zD, zS, zP, zB, zI, zR]
 repeat with_reducible refine cj ?_ ?_
 all_goals try first | omega
 refine hK1 _ _ _ ?_; clear hK1
 refine AW.seq fun K2 hK2 => ?_
 refine AW.seq fun K3 hK3 => ?_
 refine AW.regionK 0 (fun _ => none) [0, 1, 7, 8] [] ?_
 simp only [go_sem, reduceIte, reduceCtorEq, zA, zM, zE, zL, zD, zS, zP, zB, zI, zR]
 repeat with_reducible refine cj ?_ ?_
 all_goals try first | omega
 refine hK3 _ _ _ ?_; clear hK3
 refine AW.block ?_
 refine AW.loopE (fun mm ee ss kk => ∃ (j : Nat), rs.length - j = mm ∧ ee = [(0, .rsl 2 (rs.map rowV)), (1, .fn 35 []), (7, .int .i64 rs.length), (8, .int .i64 (j : Nat))] ∧ ss = [] ∧ (j ≤ rs.length ∧ (rs.take j).any ykr = false)) ?_ ?_
 ·refine ⟨_, 0, rfl, ?henv, ?hstore, ?hst⟩
  case henv =>
   repeat' (first | rfl | refine yaa ?_ ?_ | refine yad ?_ ?_ ?_ ?_ | refine yah ?_ | refine yae ?_ | refine yai ?_ | refine yaj ?_ | refine yan ?_ ?_ ?_ | refine yak ?_ ?_ ?_ | refine yal ?_ | refine yaf ?_ ?_ | refine yab ?_ ?_)
   all_goals (first | (simp; done) | omega | (simp; omega))
  case hstore =>
   repeat' (first | rfl | refine yaa ?_ ?_ | refine yad ?_ ?_ ?_ ?_ | refine yah ?_ | refine yae ?_ | refine yai ?_ | refine yaj ?_ | refine yan ?_ ?_ ?_ | refine yak ?_ ?_ ?_ | refine yal ?_ | refine yaf ?_ ?_ | refine yab ?_ ?_)
   all_goals (first | (simp; done) | omega | (simp; omega))
  case hst =>
   first | trivial | omega | (simp; done) | (simp; omega)
 rintro mm ee ss kk ⟨j, rfl, rfl, rfl, hI⟩
 generalize hQl1 : ybd _ _ = Ql1
 obtain ⟨hj, hall⟩ := hI
 refine AW.seq fun K4 hK4 => ?_
 refine AW.regionK 0 (fun _ => none) [0, 1, 7, 8, 9] [] ?_
 simp only [go_sem, reduceIte, reduceCtorEq, zA, zM, zE, zL, zD, zS, zP, zB, zI, zR]
 repeat with_reducible refine cj ?_ ?_
 all_goals try first | omega
 refine hK4 _ _ _ ?_; clear hK4
 refine AW.seq fun K5 hK5 => ?_
 refine AW.cond rfl (by simp only [go_sem, reduceIte, reduceCtorEq, zA, zM, zE, zL, zD, zS, zP, zB, zI, zR]) ?_ ?_
 ·intro hb
  try simp only [hB, decide_eq_true_eq, decide_eq_false_iff_not] at hb
  obtain ⟨x, hx⟩ := getI (l := rs) (j := j) (by omega)
  have hgx := getV (f := rowV) hx
  have hats := yco (p := ykr) hx
  have hbx := hbp x (List.mem_of_getElem? hx)
  refine AW.skip ?_
  refine hK5 _ _ _ ?_; clear hK5
  refine AW.seq fun K6 hK6 => ?_
  refine AW.block ?_
  refine AW.seq fun K7 hK7 => ?_
  refine AW.regionK 0 (fun _ => none) [0, 1, 5, 7, 8] [] ?_
  simp only [go_sem, reduceIte, reduceCtorEq, zA, zM, zE, zL, zD, zS, zP, zB, zI, zR]
  repeat with_reducible refine cj ?_ ?_
  all_goals try first | omega
  refine hK7 _ _ _ ?_; clear hK7
  refine AW.seq fun K8 hK8 => ?_
  refine AW.regionK 0 (fun ii => if ii = 5 then some (.reads false (.bool (ykr x))) else none) [0, 1, 5, 7, 8, 16] [] ?_
  simp only [go_sem, reduceIte, reduceCtorEq, zA, zM, zE, zL, zD, zS, zP, zB, zI, zR, hgx, rowV]
  repeat with_reducible refine cj ?_ ?_
  all_goals try first | (exact hbx) | omega | exact ent (by kernel_rfl)
  refine hK8 _ _ _ ?_; clear hK8
  refine AW.cond rfl (by simp only [go_sem, reduceIte, reduceCtorEq, zA, zM, zE, zL, zD, zS, zP, zB, zI, zR]) ?_ ?_
  ·intro hb
   try simp only [hB, decide_eq_true_eq, decide_eq_false_iff_not] at hb
   refine AW.seq fun K9 hK9 => ?_
   refine AW.regionK 0 (fun _ => none) [4] [] ?_
   simp only [go_sem, reduceIte, reduceCtorEq, zA, zM, zE, zL, zD, zS, zP, zB, zI, zR]
   repeat with_reducible refine cj ?_ ?_
   all_goals try first | omega
   refine hK9 _ _ _ ?_; clear hK9
   refine AW.ret ?_
   rw [← hQl1]
   rw [← hQr]
   simp only [go_sem, reduceIte, reduceCtorEq, zA, zM, zE, zL, zD, zS, zP, zB, zI, zR]
   exact Wk.of_eq (by rw [yla hx hb hall])
  ·intro hb
   try simp only [hB, decide_eq_true_eq, decide_eq_false_iff_not] at hb
   refine AW.skip ?_
   refine hK6 _ _ _ ?_; clear hK6
   refine AW.regionK 0 (fun _ => none) [0, 1, 7, 8] [] ?_
   simp only [go_sem, reduceIte, reduceCtorEq, zA, zM, zE, zL, zD, zS, zP, zB, zI, zR]
   repeat with_reducible refine cj ?_ ?_
   all_goals try first | omega
   rw [← hQl1]
   change Exists _
   refine ⟨_, ?hm, j + 1, rfl, ?henv, ?hstore, ?hst⟩
   case henv =>
    repeat' (first | rfl | refine yaa ?_ ?_ | refine yad ?_ ?_ ?_ ?_ | refine yah ?_ | refine yae ?_ | refine yai ?_ | refine yaj ?_ | refine yan ?_ ?_ ?_ | refine yak ?_ ?_ ?_ | refine yal ?_ | refine yaf ?_ ?_ | refine yab ?_ ?_)
    all_goals (first | (simp; done) | omega | (simp; omega))
   case hstore =>
    repeat' (first | rfl | refine yaa ?_ ?_ | refine yad ?_ ?_ ?_ ?_ | refine yah ?_ | refine yae ?_ | refine yai ?_ | refine yaj ?_ | refine yan ?_ ?_ ?_ | refine yak ?_ ?_ ?_ | refine yal ?_ | refine yaf ?_ ?_ | refine yab ?_ ?_)
    all_goals (first | (simp; done) | omega | (simp; omega))
   case hst =>
    exact ⟨by omega, by rw [hats, hall, hb]; rfl⟩
   case hm => omega
 ·intro hb
  try simp only [hB, decide_eq_true_eq, decide_eq_false_iff_not] at hb
  refine AW.keep [] [] ?_
  try simp only [go_sem, reduceIte, reduceCtorEq, zA, zM, zE, zL, zD, zS, zP, zB, zI, zR]
  refine AW.exit ?_
  rw [← hQl1]
  refine hK2 _ _ _ ?_; clear hK2
  refine AW.seq fun K10 hK10 => ?_
  refine AW.regionK 0 (fun _ => none) [4] [] ?_
  simp only [go_sem, reduceIte, reduceCtorEq, zA, zM, zE, zL, zD, zS, zP, zB, zI, zR]
  repeat with_reducible refine cj ?_ ?_
  all_goals try first | omega
  refine hK10 _ _ _ ?_; clear hK10
  refine AW.ret ?_
  rw [← hQr]
  simp only [go_sem, reduceIte, reduceCtorEq, zA, zM, zE, zL, zD, zS, zP, zB, zI, zR]
  exact Wk.of_eq (by rw [List.take_of_length_le (by omega)] at hall; rw [yhc hall])
theorem ctgreat_r (rs : List USet) (hl : ynz rs) : Reads Tryd.prog 34 false [.rsl 2 (rs.map rowV), .fn 35 []] (.bool (rs.any ykr)) := by
 have h := ixgreat_r rs hl
 have hge := ypy ykr rs
 refine Reads.body (rs := [.tmp 4]) Tryd.func34 rfl Tryd.ntmps34 rfl (by simp) ?_
 generalize hQr : retQ _ _ _ = Qr
 refine AW.seq fun K1 hK1 => ?_
 refine AW.regionK 0 (fun _ => none) [0, 1] [] ?_
 simp only [go_sem, reduceIte, reduceCtorEq, zA, zM, zE, zL, zD, zS, zP, zB, zI, zR]
 repeat with_reducible refine cj ?_ ?_
 all_goals try first | omega
 refine hK1 _ _ _ ?_; clear hK1
 refine AW.seq fun K2 hK2 => ?_
 refine AW.regionK 0 (fun ii => if ii = 2 then some (.reads false (.int .i64 (ixf ykr rs))) else none) [4] [] ?_
 simp only [go_sem, reduceIte, reduceCtorEq, zA, zM, zE, zL, zD, zS, zP, zB, zI, zR]
 repeat with_reducible refine cj ?_ ?_
 all_goals try first | (exact h) | omega | exact ent (by kernel_rfl)
 refine hK2 _ _ _ ?_; clear hK2
 refine AW.ret ?_
 rw [← hQr]
 simp only [go_sem, reduceIte, reduceCtorEq, zA, zM, zE, zL, zD, zS, zP, zB, zI, zR]
 exact Wk.of_eq (by rw [hge])
def yr2 (rs : List USet) : Bool := decide ((70 : Int) < rs.length) && decide ((rs.length : Int) ≤ 512) || decide ((520 : Int) < rs.length) || rs.any ykr
theorem yo0 (rs : List USet) (hl : ynz rs) : Reads Tryd.prog 9 false [relV rs] (.bool (yr2 rs)) := by
 have h := Reads.flat (ctgreat_r rs hl) rfl
 have hl1 := hl.1
 unfold relV
 refine Reads.body (rs := [.tmp 2]) Tryd.func9 rfl Tryd.ntmps9 rfl (by simp) ?_
 generalize hQr : retQ _ _ _ = Qr
 refine AW.seq fun K1 hK1 => ?_
 refine AW.regionK 0 (fun _ => none) [1] [1] ?_
 simp only [go_sem, reduceIte, reduceCtorEq, zA, zM, zE, zL, zD, zS, zP, zB, zI, zR]
 repeat with_reducible refine cj ?_ ?_
 all_goals try first | omega
 refine hK1 _ _ _ ?_; clear hK1
 refine AW.seq fun K2 hK2 => ?_
 refine AW.regionK 0 (fun ii => if ii = 19 then some (.reads true (.bool (rs.any ykr))) else none) [2] [] ?_
 simp only [go_sem, reduceIte, reduceCtorEq, zA, zM, zE, zL, zD, zS, zP, zB, zI, zR]
 repeat with_reducible refine cj ?_ ?_
 all_goals try first | ((intro hh; exact ⟨hh, h⟩)) | (intros; (repeat' apply And.intro) <;> first | assumption | ((intro hh; exact ⟨hh, h⟩))) | omega | exact ent (by kernel_rfl) | (intro hgd; exact absurd hgd (by decide)) | rfl | (simp only [go_sem, reduceIte, reduceCtorEq, zA, zM, zE, zL, zD, zS, zP, zB, zI, zR]; done) | (intro _hgd; simp_all [go_sem]; done)
 refine hK2 _ _ _ ?_; clear hK2
 refine AW.ret ?_
 rw [← hQr]
 simp only [go_sem, reduceIte, reduceCtorEq, zA, zM, zE, zL, zD, zS, zP, zB, zI, zR]
 exact Wk.of_eq (by unfold yr2; rfl)
def dPs : List (Int × Int) := [(0, 1), (0, 2), (1, 3), (2, 3), (0, 3)]
def dT : List (List Bool) := putL (yev 4) dPs
theorem yn9 : dT = [[false, true, true, true], [false, false, false, true], [false, false, false, true], [false, false, false, false]] := by decide +kernel
theorem yr3 : Sq 4 dT := by rw [yn9]; exact ⟨rfl, by decide⟩
theorem diamond_r : Reads Tryd.prog 33 false [] (relB dT) := by
 have h := make_g 4 dPs (by decide) (by decide) (fun p hp => by simp only [dPs, List.mem_cons, List.mem_nil_iff, or_false] at hp; rcases hp with rfl | rfl | rfl | rfl | rfl <;> simp [inP])
 rw [show putL (yev 4) dPs = dT from rfl] at h
 simp only [dPs, ya6, List.map_cons, List.map_nil] at h
 unfold relB at *
 generalize tabR dT = D at *
 refine Reads.body (rs := [.cell 0 24]) Tryd.func33 rfl Tryd.ntmps33 rfl (by simp) ?_
 generalize hQr : retQ _ _ _ = Qr
 refine AW.seq fun K1 hK1 => ?_
 refine AW.regionK 0 (fun _ => none) [0] [0] ?_
 simp only [go_sem, reduceIte, reduceCtorEq, zA, zM, zE, zL, zD, zS, zP, zB, zI, zR]
 repeat with_reducible refine cj ?_ ?_
 all_goals try first | omega
 refine hK1 _ _ _ ?_; clear hK1
 refine AW.seq fun K2 hK2 => ?_
 refine AW.regionG 0 (fun ii => if ii = 6 then some (.reads false (.tup [.agg [.rsl 2 D], .int .i64 ((0 : Nat) : Int)])) else none) (fun ii => if ii = 6 then some ([9], [9]) else none) [0, 1] [0, 1] ?_
 simp only [go_sem, reduceIte, reduceCtorEq, zA, zM, zE, zL, zD, zS, zP, zB, zI, zR]
 repeat with_reducible refine cj ?_ ?_
 all_goals try first | (exact h) | omega | exact ent (by kernel_rfl)
 refine hK2 _ _ _ ?_; clear hK2
 refine AW.seq fun K3 hK3 => ?_
 refine AW.regionK 0 (fun _ => none) [0] [0] ?_
 simp only [go_sem, reduceIte, reduceCtorEq, zA, zM, zE, zL, zD, zS, zP, zB, zI, zR]
 repeat with_reducible refine cj ?_ ?_
 all_goals try first | omega
 refine hK3 _ _ _ ?_; clear hK3
 refine AW.ret ?_
 rw [← hQr]
 simp only [go_sem, reduceIte, reduceCtorEq, zA, zM, zE, zL, zD, zS, zP, zB, zI, zR]
 exact Wk.refl _
end Go.Proofs.W

namespace Go.Proofs.W
open Go.AM Go
set_option maxRecDepth 100000
set_option maxHeartbeats 2000000
theorem ymq {l : List Int} {B : Int} (hB : 0 ≤ B) (h : ∀ x ∈ l, 0 ≤ x ∧ x ≤ B) : ∀ j, 0 ≤ mxU l j ∧ mxU l j ≤ B
 | 0 => by
  unfold mxU
  by_cases h0 : 0 < l.length
  ·exact h _ (yb1 h0 0)
  ·rw [getD_out (by omega)]; omega
 | j + 1 => by
  have ih := ymq hB h j
  unfold mxU
  have : 0 ≤ l.getD (j + 1) 0 ∧ l.getD (j + 1) 0 ≤ B := by
   by_cases h0 : j + 1 < l.length
   ·exact h _ (yb1 h0 0)
   ·rw [getD_out (by omega)]; omega
  omega
theorem yr4 : poB 4 dT = true := by rw [yn9]; decide +kernel
theorem yqg : (yat dT 4).length ≤ 2000 := by rw [yn9]; decide +kernel
theorem yr5 : levO 4 dT = [0, 1, 1, 2] := by rw [yn9]; decide +kernel
theorem dT_w : (chainsT 4 dT).length = 2 := by rw [yn9]; decide +kernel
theorem dT_h : heightT 4 dT = 3 := by unfold heightT; rw [yr5]; decide +kernel
theorem dT_c1 : chainB 4 dT [0, 1, 3] = true := by rw [yn9]; decide +kernel
theorem dT_c2 : chainB 4 dT [1, 2] = false := by rw [yn9]; decide +kernel
theorem dT_a : yeh dT [false, true, true, false] = true := by rw [yn9]; decide +kernel
theorem dT_s : setW [false, true, true, false] 4 = [6] := by decide +kernel
theorem yo1 : Reads Tryd.prog 8 false [] (.bool true) := by
 have hd := diamond_r
 have hw := ykq 4 dT yr3 (by decide) yr4 yqg
 have hh := yqf 4 dT yr3 (by decide) yr4 yqg (by rw [yr5]; rfl) (fun j => by have := ymq (l := levO 4 dT) (B := 4) (by decide) (by rw [yr5]; decide) j; omega)
 have h1 := Reads.flat (yeg 4 dT yr3 (by decide) yr4 [0, 1, 3] (by decide)) rfl
 have h2 := Reads.flat (yeg 4 dT yr3 (by decide) yr4 [1, 2] (by decide)) rfl
 have h3 := Reads.flat (yht 4 dT yr3 (by decide) yr4 [false, true, true, false] rfl) rfl
 rw [dT_w] at hw
 rw [dT_h] at hh
 rw [dT_c1] at h1
 rw [dT_c2] at h2
 rw [dT_a, dT_s] at h3
 simp only [ints, words, List.map_cons, List.map_nil] at h1 h2 h3
 unfold relB at *
 generalize tabR dT = D at *
 refine Reads.body (rs := [.tmp 0]) Tryd.func8 rfl Tryd.ntmps8 rfl (by simp) ?_
 generalize hQr : retQ _ _ _ = Qr
 refine AW.seq fun K1 hK1 => ?_
 refine AW.regionK 0 (fun _ => none) [] [] ?_
 simp only [go_sem, reduceIte, reduceCtorEq, zA, zM, zE, zL, zD, zS, zP, zB, zI, zR, decide_true, eq_self]
 repeat with_reducible refine cj ?_ ?_
 all_goals try first | omega
 refine hK1 _ _ _ ?_; clear hK1
 refine AW.seq fun K2 hK2 => ?_
 refine AW.regionK 0 (fun ii => if ii = 0 then some (.reads false (.agg [.rsl 2 D])) else if ii = 1 then some (.reads false (.tup [.int .i64 ((2 : Nat) : Int), .int .i64 0])) else none) [1, 2] [] ?_
 simp only [go_sem, reduceIte, reduceCtorEq, zA, zM, zE, zL, zD, zS, zP, zB, zI, zR, decide_true, eq_self]
 repeat with_reducible refine cj ?_ ?_
 all_goals try first | (first | exact hd | exact hw) | omega | exact ent (by kernel_rfl)
 refine hK2 _ _ _ ?_; clear hK2
 refine AW.seq fun K3 hK3 => ?_
 refine AW.regionK 0 (fun ii => if ii = 0 then some (.reads false (.agg [.rsl 2 D])) else if ii = 1 then some (.reads false (.tup [.int .i64 3, .int .i64 0])) else none) [1, 2, 3, 4] [] ?_
 simp only [go_sem, reduceIte, reduceCtorEq, zA, zM, zE, zL, zD, zS, zP, zB, zI, zR, decide_true, eq_self]
 repeat with_reducible refine cj ?_ ?_
 all_goals try first | (first | exact hd | exact hh) | omega | exact ent (by kernel_rfl)
 refine hK3 _ _ _ ?_; clear hK3
 refine AW.seq fun K4 hK4 => ?_
 refine AW.regionK 0 (fun ii => if ii = 15 then some (.reads false (.agg [.rsl 2 D])) else if ii = 17 then some (.reads true (.bool true)) else if ii = 20 then some (.reads false (.agg [.rsl 2 D])) else if ii = 22 then some (.reads true (.bool false)) else if ii = 26 then some (.reads false (.agg [.rsl 2 D])) else if ii = 29 then some (.reads true (.bool true)) else none) [0] [] ?_
 simp only [go_sem, reduceIte, reduceCtorEq, zA, zM, zE, zL, zD, zS, zP, zB, zI, zR, decide_true, eq_self]
 repeat with_reducible refine cj ?_ ?_
 all_goals try first | (first | exact hd | exact h1 | exact h2 | exact h3) | (intros; (repeat' apply And.intro) <;> first | assumption | (first | exact hd | exact h1 | exact h2 | exact h3)) | omega | exact ent (by kernel_rfl) | (intro hgd; exact absurd hgd (by decide)) | rfl | (simp only [go_sem, reduceIte, reduceCtorEq, zA, zM, zE, zL, zD, zS, zP, zB, zI, zR, decide_true, eq_self]; done) | (intro _hgd; simp_all [go_sem]; done)
 refine hK4 _ _ _ ?_; clear hK4
 refine AW.ret ?_
 rw [← hQr]
 simp only [go_sem, reduceIte, reduceCtorEq, zA, zM, zE, zL, zD, zS, zP, zB, zI, zR, decide_true, eq_self]
 exact Wk.refl _
end Go.Proofs.W

namespace Go.Proofs.W
open Go.AM Go
set_option maxRecDepth 100000
set_option maxHeartbeats 2000000
end Go.Proofs.W

/- Neighbors out of a table; the size of a maximum matching. -/
namespace Go.AM
theorem Mch.nb {n m : Nat} {nb nb' : List (List Int)} {L R : List Int} (h : Mch n m nb L R) (hm : ∀ l r, r ∈ nbl nb l → r ∈ nbl nb' l) : Mch n m nb' L R :=
  ⟨h.hL, h.hR, h.hRn, h.hLm, h.hC, fun l hl => hm _ _ (h.hE l hl)⟩
theorem NoAug.nb {n : Nat} {nb nb' : List (List Int)} {L R : List Int} (h : NoAug nb n L R) (hm : ∀ l r, r ∈ nbl nb' l → r ∈ nbl nb l) : NoAug nb' n L R := by
  obtain ⟨T, h1, h2⟩ := h
  exact ⟨T, fun r hr => ⟨(h1 r hr).1, fun x hx => (h1 r hr).2 x (hm _ _ hx)⟩, fun l hl hf r hr => h2 l hl hf r (hm _ _ hr)⟩
end Go.AM

namespace Go.Proofs.W
open Go.AM Go
set_option maxRecDepth 100000
set_option maxHeartbeats 2000000
end Go.Proofs.W

/- One augmentation of a matching. -/
namespace Go.AM
structure Grown (n m : Nat) (nb : List (List Int)) (L R L' R' : List Int) : Prop where
  hM : Mch n m nb L' R'
  hL : ∃ l, l < n ∧ gi L l < 0 ∧ ∀ l', 0 ≤ gi L' l' ↔ (0 ≤ gi L l' ∨ l' = l)
  hR : ∀ r, 0 ≤ gi R r → 0 ≤ gi R' r
theorem Grown.count {n m : Nat} {nb : List (List Int)} {L R L' R' : List Int} (h : Grown n m nb L R L' R') : cnt (pL L') n = cnt (pL L) n + 1 := by
  obtain ⟨l, h1, h2, h3⟩ := h.hL
  have e : ∀ i, pL L' i = (pL L i || decide (i = l)) := fun i => by
    have := h3 i
    simp only [pL]
    rw [← Bool.decide_or]
    exact decide_eq_decide.2 this
  rw [show pL L' = fun i => pL L i || decide (i = l) from funext e]
  have hp : pL L l = false := by simp [pL]; omega
  clear h2 h3 e h
  have : ∀ n, cnt (fun i => pL L i || decide (i = l)) n = cnt (pL L) n + if l < n then 1 else 0 := by
    intro n
    induction n with
    | zero => rfl
    | succ n ih =>
      rw [yce, yce, ih]
      by_cases e : n = l
      · subst e; rw [hp]; simp
      · simp only [e, decide_false, Bool.or_false]
        have h1 : (if l < n then 1 else 0) = (if l < n + 1 then 1 else (0 : Nat)) := by split <;> split <;> omega
        rw [h1]; omega
  rw [this, if_pos h1]
end Go.AM

namespace Go.Proofs.W
open Go.AM Go
set_option maxRecDepth 100000
set_option maxHeartbeats 2000000
end Go.Proofs.W

/- The reference's heights: rounds over all pairs. -/
namespace Go.AM
structure HgtI (n : Nat) (t : List (List Bool)) (L : List Int) (r : Nat) (vi : Nat → Prop) (vis : Nat → Nat → Prop) (o : List Int) : Prop where
  len : o.length = n
  pos : ∀ j, j < n → 0 ≤ o.getD j 0
  le : ∀ j, j < n → o.getD j 0 ≤ L.getD j 0 + 1
  low : ∀ j, j < n → min (L.getD j 0 + 1) r ≤ o.getD j 0
  one : ∀ i, i < n → vi i → 1 ≤ o.getD i 0
  nxt : ∀ i j, i < n → j < n → vis i j → atT t i j = true → min (L.getD i 0 + 1) r + 1 ≤ o.getD j 0
theorem HgtI.start {n : Nat} {t : List (List Bool)} {L : List Int} (hL : IsLev n t L) : HgtI n t L 0 (fun _ => False) (fun _ _ => False) (List.replicate n 0) := by
  have e : ∀ j, (List.replicate n (0 : Int)).getD j 0 = 0 := fun j => by rw [List.getD_eq_getElem?_getD, List.getElem?_replicate]; split <;> rfl
  refine ⟨by simp, fun j _ => by rw [e]; exact Int.le_refl _, fun j hj => by rw [e]; have := hL.pos j hj; omega, fun j hj => ?_, fun _ _ h => h.elim, fun _ _ _ _ h => h.elim⟩
  rw [e]; have := hL.pos j hj; omega
theorem HgtI.bump {n : Nat} {t : List (List Bool)} {L : List Int} {r : Nat} {vi : Nat → Prop} {vis : Nat → Nat → Prop} {o : List Int} (h : HgtI n t L r vi vis o) {k : Nat} (hk : k < n) {v : Int} (h1 : o.getD k 0 ≤ v) (h2 : v ≤ L.getD k 0 + 1) : HgtI n t L r vi vis (o.set k v) := by
  have hg : ∀ j, (o.set k v).getD j 0 = if j = k then v else o.getD j 0 := fun j => by
    by_cases e : j = k
    · subst e; rw [if_pos rfl]; exact Go.AM.getD_set_eq (by rw [h.len]; exact hk) _ _
    · rw [if_neg e]; exact Go.AM.getD_set_ne (fun q => e q.symm) ..
  have hge : ∀ j, o.getD j 0 ≤ (o.set k v).getD j 0 := fun j => by rw [hg]; split; (rename_i e; subst e; omega); exact Int.le_refl _
  refine ⟨by simp [h.len], fun j hj => Int.le_trans (h.pos j hj) (hge j), fun j hj => ?_, fun j hj => Int.le_trans (h.low j hj) (hge j), fun i hi hv => Int.le_trans (h.one i hi hv) (hge i), fun i j hi hj hv ha => Int.le_trans (h.nxt i j hi hj hv ha) (hge j)⟩
  rw [hg]
  split
  · rename_i e; subst e; exact h2
  · exact h.le j hj
theorem HgtI.put {n : Nat} {t : List (List Bool)} {L : List Int} (hL : IsLev n t L) {r : Nat} {vi : Nat → Prop} {vis vis' : Nat → Nat → Prop} {o : List Int} (h : HgtI n t L r vi vis o) {i j : Nat} (hi : i < n) (hj : j < n) (ht : atT t i j = true) (hv : ∀ a b, vis' a b → vis a b ∨ (a = i ∧ b = j)) :
    HgtI n t L r vi vis' (o.set j (max (o.getD j 0) (o.getD i 0 + 1))) := by
  have hb := h.bump hj (v := max (o.getD j 0) (o.getD i 0 + 1)) (by omega) (by have := h.le i hi; have := h.le j hj; have := hL.up i j hi hj ht; omega)
  refine ⟨hb.len, hb.pos, hb.le, hb.low, hb.one, fun a b ha hb2 hab hat => ?_⟩
  rcases hv a b hab with h1 | ⟨rfl, rfl⟩
  · exact hb.nxt a b ha hb2 h1 hat
  · rw [Go.AM.getD_set_eq (by rw [h.len]; exact hj)]
    have := h.low a ha
    omega
theorem HgtI.skip {n : Nat} {t : List (List Bool)} {L : List Int} {r : Nat} {vi vi' : Nat → Prop} {vis vis' : Nat → Nat → Prop} {o : List Int} (h : HgtI n t L r vi vis o) (hv : ∀ a, vi' a → vi a) (hv2 : ∀ a b, a < n → b < n → atT t a b = true → vis' a b → vis a b) : HgtI n t L r vi' vis' o :=
  ⟨h.len, h.pos, h.le, h.low, fun a ha hva => h.one a ha (hv a hva), fun a b ha hb hab hat => h.nxt a b ha hb (hv2 a b ha hb hat hab) hat⟩
theorem HgtI.next {n : Nat} {t : List (List Bool)} {L : List Int} (hL : IsLev n t L) {r : Nat} {vi : Nat → Prop} {vis : Nat → Nat → Prop} {o : List Int} (h : HgtI n t L r vi vis o) (hv : ∀ i, i < n → vi i) (hv2 : ∀ i j, i < n → j < n → vis i j) : HgtI n t L (r + 1) (fun _ => False) (fun _ _ => False) o := by
  refine ⟨h.len, h.pos, h.le, fun j hj => ?_, fun _ _ hh => hh.elim, fun _ _ _ _ hh => hh.elim⟩
  rcases hL.att j hj with h0 | ⟨i, hi, ha, he⟩
  · have := h.one j hj (hv j hj); omega
  · have := h.nxt i j hi hj (hv2 i j hi hj) ha; omega
theorem HgtI.last {n : Nat} {t : List (List Bool)} {L : List Int} (hL : IsLev n t L) {vi : Nat → Prop} {vis : Nat → Nat → Prop} {o : List Int} (h : HgtI n t L n vi vis o) {k : Nat} (hk : k < n) : o.getD k 0 = L.getD k 0 + 1 := by
  have h1 := h.low k hk
  have h2 := h.le k hk
  have h3 := yp5 hL hk
  omega
end Go.AM

namespace Go.Proofs.W
open Go.AM Go
set_option maxRecDepth 100000
set_option maxHeartbeats 2000000
end Go.Proofs.W

/- Antichains, chains and matchings of an order. -/
namespace Go.AM
/-- An antichain leaves out an end of each pair of a matching. -/
theorem anti_le {n : Nat} {t : List (List Bool)} (hp : IsPo n t) {L R : List Int} (hM : Mch n n (nbOf n (yat t n)) L R) (hE : ∀ e ∈ yat t n, yb8 n n e = true) (X : Nat → Bool) (hX : ∀ i j, i < n → j < n → X i = true → X j = true → atT t i j = false) : cnt X n + cnt (pL L) n ≤ n := by
  have hstep : ∀ i, i < n → 0 ≤ gi L i → (gi L i).toNat < n ∧ atT t i (gi L i).toNat = true := fun i hi h0 => by
    have h1 := (yc5 hE i _).1 (hM.hE i h0)
    obtain ⟨a, b, e, ha, hb, hab⟩ := pairsT_mem.1 h1
    simp only [Prod.mk.injEq] at e
    have e1 : i = a := by omega
    have e2 : (gi L i).toNat = b := by omega
    rw [e1] at *
    exact ⟨by omega, by rw [e2]; exact hab⟩
  let D : Nat → Bool := fun i => X i || (List.range n).any fun x => X x && atT t x i
  have hD : ∀ i, D i = true ↔ X i = true ∨ ∃ x, x < n ∧ X x = true ∧ atT t x i = true := fun i => by
    simp only [D, Bool.or_eq_true, List.any_eq_true, List.mem_range, Bool.and_eq_true]
  have h := yfq (p := pL L) (q := fun i => !X i) (n := n) (m := n) (fun i => if D i = true then (gi L i).toNat else i) (fun i hi hpi => by
    simp only [pL, decide_eq_true_eq] at hpi
    obtain ⟨h1, h2⟩ := hstep i hi hpi
    by_cases hd : D i = true
    · simp only [hd, if_true]
      refine ⟨h1, ?_⟩
      cases hx : X (gi L i).toNat with
      | false => rfl
      | true =>
        exfalso
        rcases (hD i).1 hd with h3 | ⟨x, h3, h4, h5⟩
        · have := hX i _ hi h1 h3 hx; rw [h2] at this; cases this
        · have := hX x _ h3 h1 h4 hx; rw [hp.trans x i _ h3 hi h1 h5 h2] at this; cases this
    · simp only [hd]
      refine ⟨by simpa using hi, ?_⟩
      have hxi : X i = false := by
        cases hx : X i with
        | false => rfl
        | true => exact absurd ((hD i).2 (.inl hx)) hd
      simp [hxi]) (fun i j hi hj hpi hpj e => by
    simp only [pL, decide_eq_true_eq] at hpi hpj
    obtain ⟨h1, h2⟩ := hstep i hi hpi
    obtain ⟨h3, h4⟩ := hstep j hj hpj
    have up : ∀ a b, a < n → b < n → D a = true → atT t a b = true → D b = true := fun a b ha hb hda hab => by
      rcases (hD a).1 hda with h5 | ⟨x, h5, h6, h7⟩
      · exact (hD b).2 (.inr ⟨a, ha, h5, hab⟩)
      · exact (hD b).2 (.inr ⟨x, h5, h6, hp.trans x a b h5 ha hb h7 hab⟩)
    by_cases hdi : D i = true <;> by_cases hdj : D j = true
    · simp only [hdi, hdj, if_true] at e
      have k1 := (hM.hC i (gi L i).toNat).1 (by omega)
      have k2 := (hM.hC j (gi L i).toNat).1 (by omega)
      omega
    · simp only [hdi, hdj, if_true] at e
      simp at e
      exfalso
      exact hdj (by rw [← e]; exact up i _ hi h1 hdi h2)
    · simp only [hdi, hdj, if_true] at e
      simp at e
      exfalso
      exact hdi (by rw [e]; exact up j _ hj h3 hdj h4)
    · simp only [hdi, hdj] at e
      simpa using e)
  have := ymo X n
  omega
end Go.AM

namespace Go.Proofs.W
open Go.AM Go
set_option maxRecDepth 100000
set_option maxHeartbeats 2000000
def antI (A B : List Bool) (j : Nat) : List Int := ((List.range j).filter fun i => !A.getD i false && !B.getD i false).map fun (i : Nat) => (i : Int)
theorem antI_mem (A B : List Bool) (j : Nat) (x : Int) : x ∈ antI A B j ↔ ∃ i : Nat, x = i ∧ i < j ∧ A.getD i false = false ∧ B.getD i false = false := by
 simp only [antI, List.mem_map, List.mem_filter, List.mem_range, Bool.and_eq_true, Bool.not_eq_true']
 constructor
 ·rintro ⟨i, ⟨h1, h2⟩, rfl⟩; exact ⟨i, rfl, h1, h2⟩
 ·rintro ⟨i, rfl, h1, h2⟩; exact ⟨i, ⟨h1, h2⟩, rfl⟩
def antF (n : Nat) (t : List (List Bool)) : List Bool := rowL n (antI (M.cvL n n (yat t n)) (M.cvR n n (yat t n)) n)
theorem ymr (rs : List USet) (h : Reads Tryd.prog 16 false [relV rs] (.bool false)) : Reads Tryd.prog 30 false [relV rs] (.int .i64 1) := by
 unfold relV at *
 refine Reads.body (rs := [.tmp 2]) Tryd.func30 rfl Tryd.ntmps30 rfl (by simp) ?_
 generalize hQr : retQ _ _ _ = Qr
 refine AW.seq fun K1 hK1 => ?_
 refine AW.regionK 0 (fun _ => none) [1] [1] ?_
 simp only [go_sem, reduceIte, reduceCtorEq, zA, zM, zE, zL, zD, zS, zP, zB, zI, zR]
 repeat with_reducible refine cj ?_ ?_
 all_goals try first | omega
 refine hK1 _ _ _ ?_; clear hK1
 refine AW.seq fun K2 hK2 => ?_
 refine AW.block ?_
 refine AW.seq fun K3 hK3 => ?_
 refine AW.regionK 0 (fun ii => if ii = 1 then some (.reads false (.bool false)) else none) [1, 3] [1] ?_
 simp only [go_sem, reduceIte, reduceCtorEq, zA, zM, zE, zL, zD, zS, zP, zB, zI, zR]
 repeat with_reducible refine cj ?_ ?_
 all_goals try first | (exact h) | omega | exact ent (by kernel_rfl)
 refine hK3 _ _ _ ?_; clear hK3
 refine AW.cond rfl (by simp only [go_sem, reduceIte, reduceCtorEq, zA, zM, zE, zL, zD, zS, zP, zB, zI, zR]) ?_ ?_
 ·intro hb
  try simp only [hB, decide_eq_true_eq, decide_eq_false_iff_not] at hb
  refine AW.seq fun K4 hK4 => ?_
  refine AW.regionK 0 (fun _ => none) [2] [] ?_
  simp only [go_sem, reduceIte, reduceCtorEq, zA, zM, zE, zL, zD, zS, zP, zB, zI, zR]
  repeat with_reducible refine cj ?_ ?_
  all_goals try first | omega
  refine hK4 _ _ _ ?_; clear hK4
  refine AW.ret ?_
  rw [← hQr]
  simp only [go_sem, reduceIte, reduceCtorEq, zA, zM, zE, zL, zD, zS, zP, zB, zI, zR]
  exact Wk.refl _
 ·intro hb
  try simp only [hB, decide_eq_true_eq, decide_eq_false_iff_not] at hb
  exfalso; simp at hb
theorem yms (n : Nat) (t : List (List Bool)) (hs : Sq n t) (hn : n ≤ 512) (hp : poB n t = true) : Reads Tryd.prog 30 false [relB t] (.int .i64 (if (yat t n).length ≤ 2000 then 0 else 9)) := by
 have hrv := yr1 n t hs hn
 rw [hp] at hrv
 have hpr := (R.rpairs_r n t hs hn).old
 have hpl := yc1 t n n
 have hmul : n * n ≤ 262144 := Nat.le_trans (Nat.mul_le_mul hn hn) (by decide)
 have hpe : yav t n n = yat t n := rfl
 rw [hpe] at hpl
 unfold relB at *
 refine Reads.body (rs := [.tmp 2]) Tryd.func30 rfl Tryd.ntmps30 rfl (by simp) ?_
 generalize hQr : retQ _ _ _ = Qr
 refine AW.seq fun K1 hK1 => ?_
 refine AW.regionK 0 (fun _ => none) [1] [1] ?_
 simp only [go_sem, reduceIte, reduceCtorEq, zA, zM, zE, zL, zD, zS, zP, zB, zI, zR]
 repeat with_reducible refine cj ?_ ?_
 all_goals try first | omega
 refine hK1 _ _ _ ?_; clear hK1
 refine AW.seq fun K2 hK2 => ?_
 refine AW.block ?_
 refine AW.seq fun K3 hK3 => ?_
 refine AW.regionK 0 (fun ii => if ii = 1 then some (.reads false (.bool true)) else none) [1, 3] [1] ?_
 simp only [go_sem, reduceIte, reduceCtorEq, zA, zM, zE, zL, zD, zS, zP, zB, zI, zR]
 repeat with_reducible refine cj ?_ ?_
 all_goals try first | (exact hrv) | omega | exact ent (by kernel_rfl)
 refine hK3 _ _ _ ?_; clear hK3
 refine AW.cond rfl (by simp only [go_sem, reduceIte, reduceCtorEq, zA, zM, zE, zL, zD, zS, zP, zB, zI, zR]) ?_ ?_
 ·intro hb
  try simp only [hB, decide_eq_true_eq, decide_eq_false_iff_not] at hb
  exfalso; simp at hb
 ·intro hb
  try simp only [hB, decide_eq_true_eq, decide_eq_false_iff_not] at hb
  refine AW.seq fun K4 hK4 => ?_
  refine AW.regionK 0 (fun ii => if ii = 1 then some (.reads false (.rsl 2 ((yat t n).map ya6))) else none) [7] [] ?_
  simp only [go_sem, reduceIte, reduceCtorEq, zA, zM, zE, zL, zD, zS, zP, zB, zI, zR]
  repeat with_reducible refine cj ?_ ?_
  all_goals try first | (exact hpr) | omega | exact ent (by kernel_rfl)
  refine hK4 _ _ _ ?_; clear hK4
  refine AW.cond rfl (by simp only [go_sem, reduceIte, reduceCtorEq, zA, zM, zE, zL, zD, zS, zP, zB, zI, zR]) ?_ ?_
  ·intro hb
   try simp only [hB, decide_eq_true_eq, decide_eq_false_iff_not] at hb
   refine AW.seq fun K5 hK5 => ?_
   refine AW.regionK 0 (fun _ => none) [2] [] ?_
   simp only [go_sem, reduceIte, reduceCtorEq, zA, zM, zE, zL, zD, zS, zP, zB, zI, zR]
   repeat with_reducible refine cj ?_ ?_
   all_goals try first | omega
   refine hK5 _ _ _ ?_; clear hK5
   refine AW.ret ?_
   rw [← hQr]
   simp only [go_sem, reduceIte, reduceCtorEq, zA, zM, zE, zL, zD, zS, zP, zB, zI, zR]
   exact Wk.of_eq (by rw [if_neg (by omega)])
  ·intro hb
   try simp only [hB, decide_eq_true_eq, decide_eq_false_iff_not] at hb
   refine AW.skip ?_
   refine hK2 _ _ _ ?_; clear hK2
   refine AW.seq fun K6 hK6 => ?_
   refine AW.regionK 0 (fun _ => none) [2] [] ?_
   simp only [go_sem, reduceIte, reduceCtorEq, zA, zM, zE, zL, zD, zS, zP, zB, zI, zR]
   repeat with_reducible refine cj ?_ ?_
   all_goals try first | omega
   refine hK6 _ _ _ ?_; clear hK6
   refine AW.ret ?_
   rw [← hQr]
   simp only [go_sem, reduceIte, reduceCtorEq, zA, zM, zE, zL, zD, zS, zP, zB, zI, zR]
   exact Wk.of_eq (by rw [if_pos (by omega)])
end Go.Proofs.W

namespace Go.Proofs.W
open Go.AM Go
set_option maxRecDepth 100000
set_option maxHeartbeats 2000000
theorem ysy (a b : Nat → Bool) : ∀ n, cnt (fun i => a i || b i) n ≤ cnt a n + cnt b n
 | 0 => Nat.le_refl _
 | n + 1 => by
  have := ysy a b n
  rw [yce, yce, yce]
  cases a n <;> cases b n <;> simp <;> omega
theorem yqh {n : Nat} {E : List (Int × Int)} (h : M.Gd n n E) : (M.maxP n n E).length = cnt (pL (maxLR (nbOf n E) n n n).1) n := yqa h.max.1.hL
theorem yli {n : Nat} {t : List (List Bool)} (h : M.Gd n n (yat t n)) : (chainsT n t).length + (M.maxP n n (yat t n)).length = n := by
 have hpl := plT h
 have h1 := hpl.len h.hE
 have h2 := mch_cnt hpl.hM
 have h3 := ymo (pL (plc n n (M.maxP n n (yat t n))).2) n
 have h4 : (chainsT n t).length = cnt (fun i => !pL (plc n n (M.maxP n n (yat t n))).2 i) n := by
  unfold chainsT chAt
  rw [List.length_map]
  show cnt (fun i => (begT n t).getD i false) n = _
  refine yhu fun i hi => ?_
  unfold begT
  rw [begF_get hi]
  congr 1
  have := hpl.hR i
  cases hq : (M.maxP n n (yat t n)).any fun p => decide (p.2 = (i : Int)) with
  | true => exact (decide_eq_true (this.2 hq)).symm
  | false => exact (decide_eq_false (fun h0 => by rw [this.1 h0] at hq; cases hq)).symm
 omega
def inS (n : Nat) (t : List (List Bool)) (i : Nat) : Bool := decide ((i : Int) ∈ (M.rchM n n (yat t n)).l)
def inT (n : Nat) (t : List (List Bool)) (i : Nat) : Bool := decide ((i : Int) ∈ (M.rchM n n (yat t n)).q)
theorem rchT {n : Nat} {t : List (List Bool)} (h : M.Gd n n (yat t n)) : Rch n n (yat t n) (maxLR (nbOf n (yat t n)) n n n).1 (maxLR (nbOf n (yat t n)) n n n).2 (inS n t) (inT n t) := by
 obtain ⟨_, h1, h2⟩ := reachP_spec (yf4 n (yat t n)) h.rng h.max.1
 exact ⟨h.max.1, h.max.2, h.hE, fun i => by unfold inS; rw [decide_eq_true_eq]; exact h1 i, fun i => by unfold inT; rw [decide_eq_true_eq]; exact h2 i⟩
theorem yhw (n : Nat) (t : List (List Bool)) : (antF n t).length = n := rowL_len _ _
theorem ymt {n : Nat} {t : List (List Bool)} {i : Nat} (hi : i < n) : (antF n t).getD i false = (inS n t i && !inT n t i) := by
 have hA : (M.cvL n n (yat t n)).getD i false = !inS n t i := by
  unfold M.cvL
  rw [ymh hi]
  unfold inS
  rw [← decide_not]
  refine decide_eq_decide.2 ?_
  rw [M.restI_mem]
  constructor
  ·rintro ⟨k, e, _, h2⟩
   have : i = k := by omega
   subst this; exact h2
  ·intro h2; exact ⟨i, rfl, hi, h2⟩
 have hB : (M.cvR n n (yat t n)).getD i false = inT n t i := by
  unfold M.cvR inT
  rw [ymh hi]
 unfold antF
 rw [ymh hi]
 have : ((i : Int) ∈ antI (M.cvL n n (yat t n)) (M.cvR n n (yat t n)) n) ↔ (inS n t i && !inT n t i) = true := by
  rw [antI_mem]
  constructor
  ·rintro ⟨k, e, _, h1, h2⟩
   have : i = k := by omega
   subst this
   rw [hA] at h1
   rw [hB] at h2
   rw [h2]
   simpa using h1
  ·intro h
   simp only [Bool.and_eq_true, Bool.not_eq_true'] at h
   exact ⟨i, rfl, hi, by rw [hA, h.1]; rfl, by rw [hB]; exact h.2⟩
 cases hx : inS n t i && !inT n t i with
 | true => exact decide_eq_true (this.2 hx)
 | false => exact decide_eq_false (fun hm => by rw [this.1 hm] at hx; cases hx)
theorem antF_free {n : Nat} {t : List (List Bool)} (h : M.Gd n n (yat t n)) {i j : Nat} (hi : i < n) (hj : j < n) (h1 : (antF n t).getD i false = true) (h2 : (antF n t).getD j false = true) : atT t i j = false := by
 rw [ymt hi] at h1
 rw [ymt hj] at h2
 simp only [Bool.and_eq_true, Bool.not_eq_true'] at h1 h2
 cases ha : atT t i j with
 | false => rfl
 | true =>
  have he : (((i : Nat) : Int), ((j : Nat) : Int)) ∈ yat t n := pairsT_mem.2 ⟨i, j, rfl, hi, hj, ha⟩
  have := (rchT h).edge he (by simpa using h1.1)
  simp only [Int.toNat_natCast] at this
  rw [h2.2] at this; cases this
theorem yoa {n : Nat} {t : List (List Bool)} (h : M.Gd n n (yat t n)) : yeh t (antF n t) = true := by
 rw [← frU_anti (yhw n t)]
 unfold frU frI
 rw [List.all_eq_true]
 intro i hi
 rw [List.all_eq_true]
 intro j hj
 have hi := List.mem_range.1 hi
 have hj := List.mem_range.1 hj
 cases h1 : (antF n t).getD i false with
 | false => rfl
 | true =>
  cases h2 : (antF n t).getD j false with
  | false => rfl
  | true => rw [antF_free h hi hj h1 h2]; rfl
theorem yqi {n : Nat} {t : List (List Bool)} (hp : IsPo n t) (h : M.Gd n n (yat t n)) {b : List Bool} (hb : b.length = n) (ha : yeh t b = true) : (memB b).length ≤ (chainsT n t).length := by
 have h1 := anti_le hp h.max.1 h.hE (fun i => b.getD i false) (fun i j hi hj h1 h2 => by
  cases hat : atT t i j with
  | false => rfl
  | true =>
   have := ykp (t := t) (memB_mem.2 ⟨by omega, h1⟩) (memB_mem.2 ⟨by omega, h2⟩) hat
   unfold yeh at ha
   rw [this] at ha; cases ha)
 have h2 := yqh h
 have h3 := yli h
 rw [yp9, hb]
 omega
theorem antF_size {n : Nat} {t : List (List Bool)} (hp : IsPo n t) (h : M.Gd n n (yat t n)) : (memB (antF n t)).length = (chainsT n t).length := by
 refine Nat.le_antisymm (yqi hp h (yhw n t) (yoa h)) ?_
 have h1 := (rchT h).cover
 have h2 := yqh h
 have h3 := yli h
 have h4 := ymo (fun i => inS n t i && !inT n t i) n
 have h5 : cnt (fun i => !(inS n t i && !inT n t i)) n ≤ cnt (fun i => !inS n t i) n + cnt (inT n t) n := by
  have := ysy (fun i => !inS n t i) (inT n t) n
  rw [show (fun i => !(inS n t i && !inT n t i)) = fun i => !inS n t i || inT n t i from funext fun i => by cases inS n t i <;> cases inT n t i <;> rfl]
  exact this
 have h6 : (memB (antF n t)).length = cnt (fun i => inS n t i && !inT n t i) n := by
  rw [yp9, yhw]
  exact yhu fun i hi => ymt hi
 omega
end Go.Proofs.W

namespace Go.Proofs.W
open Go.AM Go
set_option maxRecDepth 100000
set_option maxHeartbeats 2000000
theorem yqj {N : List Int} {f : Nat} {a x : Int} (h : (chR N f a)[0]? = some x) : x = a := by
 cases f with
 | zero => simp [chR] at h
 | succ f =>
  unfold chR at h
  by_cases e : 0 ≤ a
  ·rw [if_pos e] at h; simp at h; exact h.symm
  ·rw [if_neg e] at h; simp at h
theorem ymu {N : List Int} : ∀ {f : Nat} {k : Nat} {a x : Int}, (chR N f a)[k + 1]? = some x → 0 ≤ x ∧ ∃ y, (chR N f a)[k]? = some y ∧ 0 ≤ y ∧ N.getD y.toNat 0 = x
 | 0, k, a, x, h => by simp [chR] at h
 | f + 1, k, a, x, h => by
  unfold chR at h
  by_cases e : 0 ≤ a
  ·rw [if_pos e, List.getElem?_cons_succ] at h
   have e2 : chR N (f + 1) a = a :: chR N f (N.getD a.toNat 0) := by rw [chR, if_pos e]
   rw [e2]
   cases k with
   | zero =>
    have hx := yqj h
    refine ⟨?_, a, by simp, e, hx.symm⟩
    cases f with
    | zero => simp [chR] at h
    | succ f =>
     unfold chR at h
     by_cases e3 : 0 ≤ N.getD a.toNat 0
     ·omega
     ·rw [if_neg e3] at h; simp at h
   | succ k =>
    obtain ⟨h1, y, h2, h3⟩ := ymu h
    exact ⟨h1, y, by rw [List.getElem?_cons_succ]; exact h2, h3⟩
  ·rw [if_neg e] at h; simp at h
theorem yqk {N : List Int} : ∀ {f : Nat} {k : Nat} {a y : Int}, (chR N f a)[k]? = some y → k + 1 < f → 0 ≤ N.getD y.toNat 0 → (chR N f a)[k + 1]? = some (N.getD y.toNat 0)
 | 0, k, a, y, h, _, _ => by simp [chR] at h
 | f + 1, k, a, y, h, hk, hn => by
  unfold chR at h ⊢
  by_cases e : 0 ≤ a
  ·rw [if_pos e] at h ⊢
   rw [List.getElem?_cons_succ]
   cases k with
   | zero =>
    simp at h; subst h
    cases f with
    | zero => omega
    | succ f => rw [chR, if_pos hn]; simp
   | succ k =>
    rw [List.getElem?_cons_succ] at h
    exact yqk h (by omega) hn
  ·rw [if_neg e] at h; simp at h
/-- The facts about a matching that make its chains a partition. -/
structure NxI (n : Nat) (t : List (List Bool)) (N R : List Int) : Prop where
 up : ∀ i : Nat, i < n → 0 ≤ N.getD i 0 → N.getD i 0 < n ∧ atT t i (N.getD i 0).toNat = true ∧ gi R (N.getD i 0).toNat = i
 dn : ∀ j : Nat, j < n → 0 ≤ gi R j → gi R j < n ∧ N.getD (gi R j).toNat 0 = j
theorem NxI.rng {n : Nat} {t : List (List Bool)} {N R : List Int} (h : NxI n t N R) {f : Nat} {a : Nat} (ha : a < n) : ∀ {k : Nat} {x : Int}, (chR N f a)[k]? = some x → 0 ≤ x ∧ x < n
 | 0, x, hx => by have := yqj hx; omega
 | k + 1, x, hx => by
  obtain ⟨h1, y, h2, h3, h4⟩ := ymu hx
  have := h.rng ha h2
  have := (h.up y.toNat (by omega) (by omega)).1
  omega
theorem NxI.cover {n : Nat} {t : List (List Bool)} {N R : List Int} (hp : IsPo n t) (h : NxI n t N R) : ∀ (m x : Nat), x < n → n ≤ upc n t x + m → ∃ a k : Nat, a < n ∧ gi R a < 0 ∧ k + upc n t x ≤ n ∧ (chR N (n + 1) a)[k]? = some (x : Int) := by
 intro m
 induction m with
 | zero =>
  intro x hx hm
  by_cases e : 0 ≤ gi R x
  ·obtain ⟨h1, h2⟩ := h.dn x hx e
   have h3 := (h.up (gi R x).toNat (by omega) (by omega)).2.1
   rw [h2] at h3
   simp only [Int.toNat_natCast] at h3
   have := yrz hp (by omega) hx h3
   have := yqe n t (gi R x).toNat
   omega
  ·exact ⟨x, 0, hx, by omega, by have := yqe n t x; omega, by rw [chR, if_pos (by omega)]; simp⟩
 | succ m ih =>
  intro x hx hm
  by_cases e : 0 ≤ gi R x
  ·obtain ⟨h1, h2⟩ := h.dn x hx e
   have h3 := (h.up (gi R x).toNat (by omega) (by omega)).2.1
   rw [h2] at h3
   simp only [Int.toNat_natCast] at h3
   have h4 := yrz hp (by omega) hx h3
   obtain ⟨a, k, g1, g2, g3, g4⟩ := ih (gi R x).toNat (by omega) (by omega)
   refine ⟨a, k + 1, g1, g2, by omega, ?_⟩
   have := yqk g4 (by omega) (by rw [Int.toNat_natCast, h2]; omega)
   rw [Int.toNat_natCast, h2] at this
   exact this
  ·exact ⟨x, 0, hx, by omega, by have := yqe n t x; omega, by rw [chR, if_pos (by omega)]; simp⟩
theorem NxI.chain {n : Nat} {t : List (List Bool)} {N R : List Int} (h : NxI n t N R) {f a : Nat} (ha : a < n) : okC n t (chR N (f + 1) a) = true := by
 have hr := fun {k : Nat} {x : Int} => h.rng (f := f + 1) ha (k := k) (x := x)
 unfold okC chainB
 simp only [Bool.and_eq_true, Bool.not_eq_true', decide_eq_false_iff_not]
 refine ⟨by rw [chR, if_pos (by omega)]; simp, ?_, ?_⟩
 ·rw [List.any_eq_false]
  intro x hx
  obtain ⟨k, hk⟩ := List.getElem?_of_mem hx
  have := hr hk
  unfold outB
  simp only [Bool.or_eq_true, decide_eq_true_eq]
  omega
 ·unfold ygj
  rw [List.all_eq_true]
  intro k hk
  have hk := List.mem_range.1 hk
  cases k with
  | zero => rfl
  | succ k =>
   obtain ⟨x, hx⟩ : ∃ x, (chR N (f + 1) a)[k + 1]? = some x := ⟨_, List.getElem?_eq_getElem hk⟩
   obtain ⟨g1, y, g2, g3, g4⟩ := ymu hx
   have hy := hr g2
   have hz := hr hx
   have hu := (h.up y.toNat (by omega) (by omega)).2.1
   rw [g4] at hu
   simp only [Nat.add_sub_cancel]
   rw [List.getD_eq_getElem?_getD, List.getD_eq_getElem?_getD, g2, hx]
   simp only [Option.getD_some]
   unfold yjb
   rw [hu, decide_eq_true hy.1, decide_eq_true hy.2, decide_eq_true hz.1, decide_eq_true hz.2]
   simp
end Go.Proofs.W

namespace Go.Proofs.W
open Go.AM Go
set_option maxRecDepth 100000
set_option maxHeartbeats 2000000
theorem yi5 (es : List (List AV)) (k : Nat) (hk : k < 100) (h : Reads Tryd.prog 30 false [.agg [.rsl 2 es]] (.int .i64 k)) : Reads Tryd.prog 10 false [.agg [.rsl 2 es]] (.bool (decide (k = 0))) := by
 refine Reads.body (rs := [.tmp 2]) Tryd.func10 rfl Tryd.ntmps10 rfl (by simp) ?_
 generalize hQr : retQ _ _ _ = Qr
 refine AW.seq fun K1 hK1 => ?_
 refine AW.regionK 0 (fun _ => none) [1] [1] ?_
 simp only [go_sem, reduceIte, reduceCtorEq, zA, zM, zE, zL, zD, zS, zP, zB, zI, zR]
 repeat with_reducible refine cj ?_ ?_
 all_goals try first | omega
 refine hK1 _ _ _ ?_; clear hK1
 refine AW.seq fun K2 hK2 => ?_
 refine AW.regionK 0 (fun ii => if ii = 1 then some (.reads false (.int .i64 k)) else none) [2] [] ?_
 simp only [go_sem, reduceIte, reduceCtorEq, zA, zM, zE, zL, zD, zS, zP, zB, zI, zR]
 repeat with_reducible refine cj ?_ ?_
 all_goals try first | (exact h) | omega | exact ent (by kernel_rfl)
 refine hK2 _ _ _ ?_; clear hK2
 refine AW.ret ?_
 rw [← hQr]
 simp only [go_sem, reduceIte, reduceCtorEq, zA, zM, zE, zL, zD, zS, zP, zB, zI, zR]
 exact Wk.of_eq (by congr 1; first | rfl | exact decide_eq_decide.2 (by omega))
end Go.Proofs.W

namespace Go.Proofs.W
open Go.AM Go
set_option maxRecDepth 100000
set_option maxHeartbeats 2000000
theorem ysz {l : List Int} : ∀ (j i : Nat), i ≤ j → l.getD i 0 ≤ mxU l j
 | 0, i, h => by rw [show i = 0 by omega]; unfold mxU; omega
 | j + 1, i, h => by
  unfold mxU
  by_cases e : i = j + 1
  ·rw [e]; omega
  ·have := ysz (l := l) j i (by omega); omega
theorem yob {n : Nat} {t : List (List Bool)} {i : Nat} (hi : i < n) : (levO n t).getD i 0 + 1 ≤ heightT n t := by
 unfold heightT
 rw [if_neg (by omega)]
 have := ysz (l := levO n t) (n - 1) i (by omega)
 omega
theorem yoc {n : Nat} {t : List (List Bool)} (hL : IsLev n t (levO n t)) {B : Int} (hB : 0 ≤ B) (h : ∀ i, i < n → (levO n t).getD i 0 + 1 ≤ B) : heightT n t ≤ B := by
 unfold heightT
 by_cases e : n = 0
 ·rw [if_pos e]; exact hB
 ·rw [if_neg e]
  have h0 := h 0 (by omega)
  have p0 := hL.pos 0 (by omega)
  have := (ymq (l := levO n t) (B := B - 1) (by omega) (fun x hx => by
   obtain ⟨i, hi, rfl⟩ := List.getElem_of_mem hx
   have h1 := hL.pos i (by rw [← hL.len]; exact hi)
   have h2 := h i (by rw [← hL.len]; exact hi)
   rw [List.getD_eq_getElem?_getD, List.getElem?_eq_getElem hi, Option.getD_some] at h1 h2
   omega) (n - 1)).2
  omega
theorem height_bnd {n : Nat} {t : List (List Bool)} (hL : IsLev n t (levO n t)) : 0 ≤ heightT n t ∧ heightT n t ≤ n ∧ (heightT n t = 0 ↔ n = 0) := by
 have h1 := yoc hL (B := n) (by omega) (fun i hi => by have := yp5 hL hi; omega)
 by_cases e : n = 0
 ·have : heightT n t = 0 := by unfold heightT; rw [if_pos e]
  omega
 ·have h2 := yob (t := t) (i := 0) (n := n) (by omega)
  have h3 := hL.pos 0 (by omega)
  omega
theorem memB_nodup (b : List Bool) : (memB b).Nodup := by
 unfold memB; exact List.Pairwise.sublist List.filter_sublist (List.nodup_range (n := b.length))
end Go.Proofs.W

namespace Go.Proofs.W
open Go.AM Go
set_option maxRecDepth 100000
set_option maxHeartbeats 2000000
theorem yjp (n : Nat) (t : List (List Bool)) (hs : Sq n t) (hn : n ≤ 512) (hp : poB n t = true) (hl : (yat t n).length ≤ 2000) : Reads Tryd.prog 13 false [relB t] (.tup [.int .i64 (heightT n t), .int .i64 0]) := by
 have hL := ymg hs ((ydc hs).1 hp)
 exact yqf n t hs hn hp hl hL.len (fun j => by
  have := ymq (l := levO n t) (B := 1000) (by decide) (fun x hx => by
   obtain ⟨i, hi, rfl⟩ := List.getElem_of_mem hx
   have h1 := hL.pos i (by rw [← hL.len]; exact hi)
   have h2 := yp5 hL (j := i) (by rw [← hL.len]; exact hi)
   rw [List.getD_eq_getElem?_getD, List.getElem?_eq_getElem hi, Option.getD_some] at h1 h2
   omega) j
  omega)
end Go.Proofs.W

namespace Go.Proofs.W
open Go.AM Go
set_option maxRecDepth 100000
set_option maxHeartbeats 2000000
theorem yi6 {n : Nat} {t : List (List Bool)} : (yat (invT n t) n).length ≤ (yat t n).length := by
 have h1 : ((yat (invT n t) n).map ygb).Nodup := by
  refine List.pairwise_map.2 (List.Pairwise.imp_of_mem (fun {p q} _ _ hpq e => hpq ?_) (yi4 (invT n t) n))
  unfold ygb at e
  simp only [Prod.mk.injEq] at e
  exact Prod.ext e.2 e.1
 have h2 := yfp h1 (l' := yat t n) fun x hx => by
  obtain ⟨p, hp, rfl⟩ := List.mem_map.1 hx
  obtain ⟨i, j, rfl, hi, hj, hat⟩ := pairsT_mem.1 hp
  rw [ydx hi hj] at hat
  exact pairsT_mem.2 ⟨j, i, rfl, hj, hi, hat⟩
 rw [List.length_map] at h2
 exact h2
theorem yhx {n : Nat} {t : List (List Bool)} (hs : Sq n t) : (yat (invT n t) n).length = (yat t n).length := by
 refine Nat.le_antisymm yi6 ?_
 have := yi6 (n := n) (t := invT n t)
 rw [yma hs] at this
 exact this
theorem ymv {n : Nat} {t : List (List Bool)} {b : List Bool} (hb : b.length = n) : yeh (invT n t) b = yeh t b := by
 have h : ∀ u : List (List Bool), yeh u b = true ↔ ∀ i j, i ∈ memB b → j ∈ memB b → atT u i j = false := by
  intro u
  unfold yeh yn8
  simp only [List.all_eq_true, Bool.not_eq_true']
  exact ⟨fun h i j hi hj => h i hi j hj, fun h i hi j hj => h i j hi hj⟩
 have e : yeh (invT n t) b = true ↔ yeh t b = true := by
  rw [h, h]
  constructor
  ·intro H i j hi hj
   have h1 := (memB_mem.1 hi).1
   have h2 := (memB_mem.1 hj).1
   rw [← ydx (n := n) (by omega) (by omega)]; exact H j i hj hi
  ·intro H i j hi hj
   have h1 := (memB_mem.1 hi).1
   have h2 := (memB_mem.1 hj).1
   rw [ydx (by omega) (by omega)]; exact H j i hj hi
 cases h1 : yeh (invT n t) b <;> cases h2 : yeh t b <;> simp_all
theorem yi7 {n : Nat} {t : List (List Bool)} (hs : Sq n t) (hn : n ≤ 512) (hp : IsPo n t) (hl : (yat t n).length ≤ 2000) : (chainsT n (invT n t)).length ≤ (chainsT n t).length := by
 have hgi := gdT (t := invT n t) hn (by rw [yhx hs]; exact hl)
 rw [← antF_size hp.inv hgi]
 have h := yoa hgi
 rw [ymv (yhw _ _)] at h
 exact yqi hp (gdT hn hl) (yhw _ _) h
theorem yod {n : Nat} {t : List (List Bool)} (hs : Sq n t) (hn : n ≤ 512) (hp : IsPo n t) (hl : (yat t n).length ≤ 2000) : (chainsT n (invT n t)).length = (chainsT n t).length := by
 refine Nat.le_antisymm (yi7 hs hn hp hl) ?_
 have := yi7 (t := invT n t) Sq.inv hn hp.inv (by rw [yhx hs]; exact hl)
 rw [yma hs] at this
 exact this
theorem yhy {n : Nat} {t : List (List Bool)} (hs : Sq n t) (hp : IsPo n t) : heightT n (invT n t) ≤ heightT n t := by
 have hL := ymg hs hp
 have hR := ymg (Sq.inv (n := n) (t := t)) hp.inv
 have hg : ∀ j, j < n → ((List.range n).map fun j => heightT n t - 1 - (levO n t).getD j 0).getD j 0 = heightT n t - 1 - (levO n t).getD j 0 := fun j hj => by
  rw [List.getD_eq_getElem?_getD, List.getElem?_map, List.getElem?_range hj]; rfl
 refine yoc hR (height_bnd hL).1 fun j hj => ?_
 have h1 := yro hR (o' := (List.range n).map fun j => heightT n t - 1 - (levO n t).getD j 0) (fun j hj => by rw [hg j hj]; have := yob (t := t) hj; omega) (fun i j hi hj hij => by
  rw [ydx hi hj] at hij
  rw [hg i hi, hg j hj]
  have := hL.up _ _ hj hi hij
  omega) ((levO n (invT n t)).getD j 0).toNat j hj (by have := hR.pos j hj; omega)
 rw [hg j hj] at h1
 have := hL.pos j hj
 omega
theorem ylj {n : Nat} {t : List (List Bool)} (hs : Sq n t) (hp : IsPo n t) : heightT n (invT n t) = heightT n t := by
 have h1 := yhy hs hp
 have h2 := yhy (Sq.inv (n := n) (t := t)) hp.inv
 rw [yma hs] at h2
 omega
theorem lessB_inv {n : Nat} {t : List (List Bool)} (i j : Int) : yjb n (invT n t) i j = yjb n t j i := by
 unfold yjb
 by_cases h : 0 ≤ i ∧ i < n ∧ 0 ≤ j ∧ j < n
 ·rw [ydx (by omega) (by omega), decide_eq_true h.1, decide_eq_true h.2.1, decide_eq_true h.2.2.1, decide_eq_true h.2.2.2]
 ·have h1 : (decide (0 ≤ i) && decide (i < (n : Int)) && decide (0 ≤ j) && decide (j < (n : Int))) = false := by
   rw [← Bool.not_eq_true]; simp only [Bool.and_eq_true, decide_eq_true_eq]; omega
  have h2 : (decide (0 ≤ j) && decide (j < (n : Int)) && decide (0 ≤ i) && decide (i < (n : Int))) = false := by
   rw [← Bool.not_eq_true]; simp only [Bool.and_eq_true, decide_eq_true_eq]; omega
  rw [h1, h2]; rfl
theorem yi8 {n : Nat} {t : List (List Bool)} {l : List Int} (h : chainB n t l = true) : chainB n (invT n t) l.reverse = true := by
 unfold chainB at *
 simp only [Bool.and_eq_true, Bool.not_eq_true'] at *
 refine ⟨by rw [List.any_reverse]; exact h.1, ?_⟩
 have h2 := h.2
 unfold ygj at *
 simp only [List.all_eq_true, List.mem_range, Bool.or_eq_true, decide_eq_true_eq, List.length_reverse] at *
 intro k hk
 by_cases e : k = 0
 ·exact .inl e
 ·right
  rw [lessB_inv]
  have := (h2 (l.length - k) (by omega)).resolve_left (by omega)
  have e1 : l.reverse.getD k 0 = l.getD (l.length - k - 1) 0 := by
   rw [List.getD_eq_getElem?_getD, List.getD_eq_getElem?_getD, List.getElem?_reverse (by omega)]
   congr 2; omega
  have e2 : l.reverse.getD (k - 1) 0 = l.getD (l.length - k) 0 := by
   rw [List.getD_eq_getElem?_getD, List.getD_eq_getElem?_getD, List.getElem?_reverse (by omega)]
   congr 2; omega
  rw [e1, e2]; exact this
theorem yoe {n : Nat} {t : List (List Bool)} (hs : Sq n t) (l : List Int) : chainB n (invT n t) l.reverse = chainB n t l := by
 cases h : chainB n t l with
 | true => exact yi8 h
 | false =>
  cases h2 : chainB n (invT n t) l.reverse with
  | false => rfl
  | true =>
   have := yi8 h2
   rw [List.reverse_reverse, yma hs, h] at this
   cases this
end Go.Proofs.W

namespace Go.Proofs.W
open Go.AM Go
set_option maxRecDepth 100000
set_option maxHeartbeats 2000000
/-- The list with its first j and last j places swapped. -/
def revP (l : List Int) (j : Nat) : List Int := (List.range l.length).map fun i => if i < j ∨ l.length - j ≤ i then l.getD (l.length - 1 - i) 0 else l.getD i 0
theorem yd3 (l : List Int) (j : Nat) : (revP l j).length = l.length := by simp [revP]
theorem yhz {l : List Int} {j i : Nat} (h : i < l.length) : (revP l j).getD i 0 = if i < j ∨ l.length - j ≤ i then l.getD (l.length - 1 - i) 0 else l.getD i 0 := by
 unfold revP
 rw [List.getD_eq_getElem?_getD, List.getElem?_map, List.getElem?_range h]; rfl
theorem revP_zero (l : List Int) : revP l 0 = l := yd0 (yd3 l 0) fun i hi => by
 rw [yd3] at hi
 rw [yhz hi, if_neg (by omega)]
theorem revP_end {l : List Int} {j : Nat} (h : l.length ≤ 2 * j + 1) : revP l j = l.reverse := yd0 (by rw [yd3, List.length_reverse]) fun i hi => by
 rw [yd3] at hi
 rw [yhz hi]
 have e : l.reverse.getD i 0 = l.getD (l.length - 1 - i) 0 := by
  rw [List.getD_eq_getElem?_getD, List.getD_eq_getElem?_getD, List.getElem?_reverse hi]
 rw [e]
 by_cases h1 : i < j ∨ l.length - j ≤ i
 ·rw [if_pos h1]
 ·rw [if_neg h1, show l.length - 1 - i = i by omega]
theorem yof (l : List Int) (i : Nat) (x : Int) (k : Nat) : (l.set i x).getD k 0 = if i = k ∧ k < l.length then x else l.getD k 0 := by
 rw [List.getD_eq_getElem?_getD, List.getElem?_set]
 by_cases e : i = k
 ·subst e
  by_cases h : i < l.length
  ·rw [if_pos rfl, if_pos h, if_pos ⟨rfl, h⟩]; rfl
  ·rw [if_pos rfl, if_neg h, if_neg (fun q => h q.2), List.getD_eq_getElem?_getD, List.getElem?_eq_none (by omega)]
 ·rw [if_neg e, if_neg (fun q => e q.1), List.getD_eq_getElem?_getD]
theorem revP_step {l : List Int} {j : Nat} (h : 2 * j + 1 < l.length) : ((revP l j).set j (l.getD (l.length - 1 - j) 0)).set (l.length - 1 - j) (l.getD j 0) = revP l (j + 1) := by
 refine yd0 (by simp [yd3]) fun i hi => ?_
 simp only [List.length_set, yd3] at hi
 rw [yof, yof, yhz hi, yhz hi, List.length_set, yd3]
 by_cases e1 : l.length - 1 - j = i
 ·rw [if_pos ⟨e1, hi⟩, if_pos (by omega), show l.length - 1 - i = j by omega]
 ·rw [if_neg (fun q => e1 q.1)]
  by_cases e2 : j = i
  ·subst e2
   rw [if_pos ⟨rfl, hi⟩, if_pos (by omega)]
  ·rw [if_neg (fun q => e2 q.1)]
   by_cases h1 : i < j ∨ l.length - j ≤ i
   ·rw [if_pos h1, if_pos (by omega)]
   ·rw [if_neg h1, if_neg (by omega)]
end Go.Proofs.W

namespace Go.Proofs.W
open Go.AM Go
set_option maxRecDepth 100000
set_option maxHeartbeats 2000000
theorem reverse_u (l : List Int) (hl : l.length ≤ 100000) (g0 v0 : Nat) :
  Upd Tryd.prog 27 [(0, some ⟨g0, v0, 1, ints l⟩)] [.sl ⟨0, g0, none⟩ 0 l.length none] (fun _ => .tup []) (fun k => [(0, some ⟨g0, k, 1, ints l.reverse⟩)]) := by
 have hz := revP_zero l
 refine Upd.of_body (rs := []) Tryd.func27 rfl Tryd.ntmps27 rfl (by simp) ?_
 intro k0 k hk0 hk1
 generalize hQr : retQ _ _ _ = Qr
 refine AW.seq fun K1 hK1 => ?_
 refine AW.regionK 100 (fun _ => none) [0, 2, 3] [0] ?_
 simp only [go_sem, reduceIte, reduceCtorEq, zA, zM, zE, zL, zD, zS, zP, zB, zI, zR, yac]
 repeat with_reducible refine cj ?_ ?_
 all_goals try first | omega
 refine hK1 _ _ _ ?_; clear hK1
 refine AW.block ?_
 refine AW.loopE (fun mm ee ss kk => ∃ (j v : Nat), l.length - j = mm ∧ ee = [(0, .sl ⟨0, g0, none⟩ 0 l.length none), (2, .int .i64 (j : Nat)), (3, .int .i64 ((l.length : Int) - 1 - j))] ∧ ss = [(0, some ⟨g0, v, 1, ints (revP l j)⟩)] ∧ (2 * j ≤ l.length)) ?_ ?_
 ·refine ⟨_, 0, ?_, rfl, ?henv, ?hstore, ?hst⟩
  case henv =>
   repeat' (first | rfl | refine yaa ?_ ?_ | refine yad ?_ ?_ ?_ ?_ | refine yah ?_ | refine yae ?_ | refine yai ?_ | refine yaj ?_ | refine yan ?_ ?_ ?_ | refine yak ?_ ?_ ?_ | refine yal ?_ | refine yaf ?_ ?_ | refine yab ?_ ?_)
   all_goals (first | omega | (simp; done))
  case hstore =>
   repeat' (first | rfl | refine yaa ?_ ?_ | refine yad ?_ ?_ ?_ ?_ | refine yah ?_ | refine yae ?_ | refine yai ?_ | refine yaj ?_ | refine yan ?_ ?_ ?_ | refine yak ?_ ?_ ?_ | refine yal ?_ | refine yaf ?_ ?_ | refine yab ?_ ?_)
   all_goals (rw [hz])
  case hst =>
   first | trivial | omega | (simp; done) | (simp; omega)
 rintro mm ee ss kk ⟨j, v, rfl, rfl, rfl, hI⟩
 generalize hQl1 : ybd _ _ = Ql1
 have hrl := yd3 l j
 refine AW.seq fun K2 hK2 => ?_
 refine AW.seq fun K3 hK3 => ?_
 refine AW.regionK 100 (fun _ => none) [0, 2, 3, 9] [0] ?_
 simp only [go_sem, reduceIte, reduceCtorEq, zA, zM, zE, zL, zD, zS, zP, zB, zI, zR, yac]
 repeat with_reducible refine cj ?_ ?_
 all_goals try first | omega
 refine hK3 _ _ _ ?_; clear hK3
 refine AW.cond rfl (by simp only [go_sem, reduceIte, reduceCtorEq, zA, zM, zE, zL, zD, zS, zP, zB, zI, zR]) ?_ ?_
 ·intro hb
  try simp only [hB, decide_eq_true_eq, decide_eq_false_iff_not] at hb
  have hlt : 2 * j + 1 < l.length := by omega
  have ht : ((l.length : Int) - 1 - j).toNat = l.length - 1 - j := by omega
  have hg1 := ybv (l := revP l j) (i := j) (by omega)
  have hg2 := ybv (l := revP l j) (i := l.length - 1 - j) (by omega)
  rw [yhz (by omega), if_neg (by omega)] at hg1 hg2
  have hu1 := ints_upd (revP l j) j (l.getD (l.length - 1 - j) 0)
  have hu2 := ints_upd ((revP l j).set j (l.getD (l.length - 1 - j) 0)) (l.length - 1 - j) (l.getD j 0)
  rw [revP_step hlt] at hu2
  refine AW.skip ?_
  refine hK2 _ _ _ ?_; clear hK2
  refine AW.seq fun K4 hK4 => ?_
  refine AW.block ?_
  refine AW.regionD yd6 100 (fun _ => none) [0, 2, 3] [0] ?_
  simp only [go_sem, reduceIte, reduceCtorEq, zA, zM, zE, zL, zD, zS, zP, zB, zI, zR, yac, hrl, ht, hg1, hg2, hu1, hu2]
  repeat with_reducible refine cj ?_ ?_
  all_goals try first | omega | exact chk (by kernel_rfl)
  refine hK4 _ _ _ ?_; clear hK4
  refine AW.regionK 100 (fun _ => none) [0, 2, 3] [0] ?_
  simp only [go_sem, reduceIte, reduceCtorEq, zA, zM, zE, zL, zD, zS, zP, zB, zI, zR, yac]
  repeat with_reducible refine cj ?_ ?_
  all_goals try first | omega
  rw [← hQl1]
  change Exists _
  refine ⟨_, ?hm, j + 1, ?_, rfl, ?henv, ?hstore, ?hst⟩
  case henv =>
   repeat' (first | rfl | refine yaa ?_ ?_ | refine yad ?_ ?_ ?_ ?_ | refine yah ?_ | refine yae ?_ | refine yai ?_ | refine yaj ?_ | refine yan ?_ ?_ ?_ | refine yak ?_ ?_ ?_ | refine yal ?_ | refine yaf ?_ ?_ | refine yab ?_ ?_)
   all_goals (first | omega | (simp; done))
  case hstore =>
   repeat' (first | rfl | refine yaa ?_ ?_ | refine yad ?_ ?_ ?_ ?_ | refine yah ?_ | refine yae ?_ | refine yai ?_ | refine yaj ?_ | refine yan ?_ ?_ ?_ | refine yak ?_ ?_ ?_ | refine yal ?_ | refine yaf ?_ ?_ | refine yab ?_ ?_)
   all_goals (first | (simp; done) | omega | (simp; omega))
  case hst =>
   omega
  case hm => omega
 ·intro hb
  try simp only [hB, decide_eq_true_eq, decide_eq_false_iff_not] at hb
  refine AW.keep [] [0] ?_
  try simp only [go_sem, reduceIte, reduceCtorEq, zA, zM, zE, zL, zD, zS, zP, zB, zI, zR]
  refine AW.exit ?_
  rw [← hQl1]
  rw [← hQr]
  simp only [go_sem, reduceIte, reduceCtorEq, zA, zM, zE, zL, zD, zS, zP, zB, zI, zR, yac]
  refine ⟨[(0, 0, false)], ?_⟩
  rw [revP_end (by omega)]
  simp only [go_sem, reduceIte, zE, yb6]
end Go.Proofs.W

namespace Go.Proofs.W
open Go.AM Go
set_option maxRecDepth 100000
set_option maxHeartbeats 2000000
theorem yf5 (rs : List USet) (hlr : ynz rs) (x : USet) (l : List Int) (hx : x.W.length ≤ 9223372036854775807) (hl : l.length ≤ 9223372036854775807) (hgo : Reads Tryd.prog 10 false [relV rs] (.bool false)) :
  Reads Tryd.prog 5 false [relV rs, .agg [.int .i64 x.N, .rsl 1 (words x.W)], .rsl 1 (ints l)] (.bool true) := by
 have haw := yo1
 have hgr := yo0 rs hlr
 have hxl := ydu x.W
 unfold relV at *
 refine Reads.body (rs := [.tmp 6]) Tryd.func5 rfl Tryd.ntmps5 rfl (by simp) ?_
 generalize hQr : retQ _ _ _ = Qr
 refine AW.seq fun K1 hK1 => ?_
 refine AW.regionK 0 (fun _ => none) [2, 3, 4] [3, 4] ?_
 simp only [go_sem, reduceIte, reduceCtorEq, zA, zM, zE, zL, zD, zS, zP, zB, zI, zR, hxl, yac]
 repeat with_reducible refine cj ?_ ?_
 all_goals try first | omega
 refine hK1 _ _ _ ?_; clear hK1
 refine AW.seq fun K2 hK2 => ?_
 refine AW.seq fun K3 hK3 => ?_
 refine AW.regionK 0 (fun ii => if ii = 0 then some (.reads false (.bool true)) else none) [2, 3, 4, 19] [3, 4] ?_
 simp only [go_sem, reduceIte, reduceCtorEq, zA, zM, zE, zL, zD, zS, zP, zB, zI, zR, hxl, yac]
 repeat with_reducible refine cj ?_ ?_
 all_goals try first | (exact haw) | omega | exact ent (by kernel_rfl)
 refine hK3 _ _ _ ?_; clear hK3
 refine AW.cond rfl (by simp only [go_sem, reduceIte, reduceCtorEq, zA, zM, zE, zL, zD, zS, zP, zB, zI, zR]) ?_ ?_
 ·intro hb
  try simp only [hB, decide_eq_true_eq, decide_eq_false_iff_not] at hb
  exfalso; simp at hb
 ·intro hb
  try simp only [hB, decide_eq_true_eq, decide_eq_false_iff_not] at hb
  refine AW.skip ?_
  refine hK2 _ _ _ ?_; clear hK2
  refine AW.seq fun K4 hK4 => ?_
  refine AW.seq fun K5 hK5 => ?_
  refine AW.regionK 0 (fun ii => if ii = 1 then some (.reads false (.bool (yr2 rs))) else if ii = 4 then some (.reads false (.bool false)) else none) [2, 3, 4, 37] [3, 4] ?_
  simp only [go_sem, reduceIte, reduceCtorEq, zA, zM, zE, zL, zD, zS, zP, zB, zI, zR, hxl, yac]
  repeat with_reducible refine cj ?_ ?_
  all_goals try first | (first | exact hgr | exact hgo | (intro hh; (repeat' apply And.intro) <;> first | exact hh | exact hgo | (intro hf; exact hf.elim))) | (intros; (repeat' apply And.intro) <;> first | assumption | (first | exact hgr | exact hgo | (intro hh; (repeat' apply And.intro) <;> first | exact hh | exact hgo | (intro hf; exact hf.elim)))) | omega | exact ent (by kernel_rfl) | (intro hgd; exact absurd hgd (by decide)) | rfl | (simp only [go_sem, reduceIte, reduceCtorEq, zA, zM, zE, zL, zD, zS, zP, zB, zI, zR, hxl, yac]; done) | (intro _hgd; simp_all [go_sem]; done)
  refine hK5 _ _ _ ?_; clear hK5
  refine AW.cond rfl (by simp only [go_sem, reduceIte, reduceCtorEq, zA, zM, zE, zL, zD, zS, zP, zB, zI, zR]) ?_ ?_
  ·intro hb
   try simp only [hB, decide_eq_true_eq, decide_eq_false_iff_not] at hb
   refine AW.seq fun K6 hK6 => ?_
   refine AW.regionK 0 (fun _ => none) [6] [] ?_
   simp only [go_sem, reduceIte, reduceCtorEq, zA, zM, zE, zL, zD, zS, zP, zB, zI, zR, hxl, yac]
   repeat with_reducible refine cj ?_ ?_
   all_goals try first | omega
   refine hK6 _ _ _ ?_; clear hK6
   refine AW.ret ?_
   rw [← hQr]
   simp only [go_sem, reduceIte, reduceCtorEq, zA, zM, zE, zL, zD, zS, zP, zB, zI, zR, hxl, yac]
   exact Wk.refl _
  ·intro hb
   try simp only [hB, decide_eq_true_eq, decide_eq_false_iff_not] at hb
   exfalso; simp at hb
theorem yr6 {gb : Bool} (n : Nat) (t : List (List Bool)) (hs : Sq n t) (hn : n ≤ 512) (hp : poB n t = true) (hl : (yat t n).length ≤ 2000) (hgr : Reads Tryd.prog 9 false [relB t] (.bool gb)) (x : USet) (hx : x.W.length ≤ 9223372036854775807) (hgo : Reads Tryd.prog 10 false [relB t] (.bool true))
  (ab : Bool) (hia : Reads Tryd.prog 18 false [relB t, .agg [.int .i64 x.N, .rsl 1 (words x.W)]] (.bool ab)) (hib : Reads Tryd.prog 18 false [relB (invT n t), .agg [.int .i64 x.N, .rsl 1 (words x.W)]] (.bool ab))
  (l : List Int) (hll : l.length ≤ 9223372036854775807)
  (hcl : l.length ≤ 60 → Upd Tryd.prog 26 [] [.rsl 1 (ints l)] (fun k => .sl ⟨0, k, none⟩ 0 l.length none) (fun k => [(0, some ⟨k, k, 1, ints l⟩)])) :
  Reads Tryd.prog 5 false [relB t, .agg [.int .i64 x.N, .rsl 1 (words x.W)], .rsl 1 (ints l)] (.bool true) := by
 have haw := yo1
 have hxl := ydu x.W
 have hpo := (ydc hs).1 hp
 have his : Sq n (invT n t) := Sq.inv
 have hip := (ydc his).2 hpo.inv
 have hil : (yat (invT n t) n).length ≤ 2000 := by rw [yhx hs]; exact hl
 have hin := yn0 n t hs hn
 have hw := ykq n t hs hn hp hl
 have hw2 := ykq n _ his hn hip hil
 rw [yod hs hn hpo hl] at hw2
 have hh1 := yjp n t hs hn hp hl
 have hh2 := yjp n _ his hn hip hil
 rw [ylj hs hpo] at hh2
 have hc1 := yeg n t hs hn hp l hll
 have hc2 := yeg n _ his hn hip l.reverse (by simpa using hll)
 rw [yoe hs] at hc2
 have hc3 := Reads.flat hc2 rfl
 have hrv := fun h => reverse_u l h
 have hrl : l.reverse.length = l.length := List.length_reverse
 have htk : l.reverse.take l.length = l.reverse := List.take_of_length_le (by omega)
 unfold relB at *
 generalize (chainsT n t).length = w at *
 generalize heightT n t = h at *
 generalize tabR (invT n t) = T2 at *
 generalize chainB n t l = cb at *
 refine Reads.body (rs := [.tmp 6]) Tryd.func5 rfl Tryd.ntmps5 rfl (by simp) ?_
 generalize hQr : retQ _ _ _ = Qr
 refine AW.seq fun K1 hK1 => ?_
 refine AW.regionK 0 (fun _ => none) [2, 3, 4] [3, 4] ?_
 simp only [go_sem, reduceIte, reduceCtorEq, zA, zM, zE, zL, zD, zS, zP, zB, zI, zR, hxl, yac]
 repeat with_reducible refine cj ?_ ?_
 all_goals try first | omega
 refine hK1 _ _ _ ?_; clear hK1
 refine AW.seq fun K2 hK2 => ?_
 refine AW.seq fun K3 hK3 => ?_
 refine AW.regionK 0 (fun ii => if ii = 0 then some (.reads false (.bool true)) else none) [2, 3, 4, 19] [3, 4] ?_
 simp only [go_sem, reduceIte, reduceCtorEq, zA, zM, zE, zL, zD, zS, zP, zB, zI, zR, hxl, yac]
 repeat with_reducible refine cj ?_ ?_
 all_goals try first | (exact haw) | omega | exact ent (by kernel_rfl)
 refine hK3 _ _ _ ?_; clear hK3
 refine AW.cond rfl (by simp only [go_sem, reduceIte, reduceCtorEq, zA, zM, zE, zL, zD, zS, zP, zB, zI, zR]) ?_ ?_
 ·intro hb
  try simp only [hB, decide_eq_true_eq, decide_eq_false_iff_not] at hb
  exfalso; simp at hb
 ·intro hb
  try simp only [hB, decide_eq_true_eq, decide_eq_false_iff_not] at hb
  refine AW.skip ?_
  refine hK2 _ _ _ ?_; clear hK2
  refine AW.seq fun K4 hK4 => ?_
  refine AW.seq fun K5 hK5 => ?_
  refine AW.regionK 0 (fun ii => if ii = 1 then some (.reads false (.bool gb)) else if ii = 4 then some (.reads false (.bool true)) else none) [2, 3, 4, 37] [3, 4] ?_
  simp only [go_sem, reduceIte, reduceCtorEq, zA, zM, zE, zL, zD, zS, zP, zB, zI, zR, hxl, yac]
  repeat with_reducible refine cj ?_ ?_
  all_goals try first | (first | exact hgr | exact hgo | (intro hh; (repeat' apply And.intro) <;> first | exact hh | exact hgo)) | (intros; (repeat' apply And.intro) <;> first | assumption | (first | exact hgr | exact hgo | (intro hh; (repeat' apply And.intro) <;> first | exact hh | exact hgo))) | omega | exact ent (by kernel_rfl) | (intro hgd; exact absurd hgd (by decide)) | rfl | (simp only [go_sem, reduceIte, reduceCtorEq, zA, zM, zE, zL, zD, zS, zP, zB, zI, zR, hxl, yac]; done) | (intro _hgd; simp_all [go_sem]; done)
  refine hK5 _ _ _ ?_; clear hK5
  refine AW.cond rfl (by simp only [go_sem, reduceIte, reduceCtorEq, zA, zM, zE, zL, zD, zS, zP, zB, zI, zR]) ?_ ?_
  ·intro hb
   try simp only [hB, decide_eq_true_eq, decide_eq_false_iff_not] at hb
   refine AW.seq fun K6 hK6 => ?_
   refine AW.regionK 0 (fun _ => none) [6] [] ?_
   simp only [go_sem, reduceIte, reduceCtorEq, zA, zM, zE, zL, zD, zS, zP, zB, zI, zR, hxl, yac]
   repeat with_reducible refine cj ?_ ?_
   all_goals try first | omega
   refine hK6 _ _ _ ?_; clear hK6
   refine AW.ret ?_
   rw [← hQr]
   simp only [go_sem, reduceIte, reduceCtorEq, zA, zM, zE, zL, zD, zS, zP, zB, zI, zR, hxl, yac]
   exact Wk.refl _
  ·intro hb
   try simp only [hB, decide_eq_true_eq, decide_eq_false_iff_not] at hb
   have hl60 : l.length ≤ 60 := by
    by_cases e : l.length ≤ 60
    ·exact e
    ·exfalso; revert hb; simp; omega
   have hcl := hcl hl60
   have hrv := hrv (by omega)
   refine AW.skip ?_
   refine hK4 _ _ _ ?_; clear hK4
   refine AW.seq fun K7 hK7 => ?_
   refine AW.regionK 0 (fun ii => if ii = 1 then some (.reads false (.tup [.agg [.rsl 2 T2], .int .i64 0])) else none) [2, 3, 4, 7, 8] [3, 4, 7] ?_
   simp only [go_sem, reduceIte, reduceCtorEq, zA, zM, zE, zL, zD, zS, zP, zB, zI, zR, hxl, yac]
   repeat with_reducible refine cj ?_ ?_
   all_goals try first | (exact hin) | omega | exact ent (by kernel_rfl)
   refine hK7 _ _ _ ?_; clear hK7
   refine AW.seq fun K8 hK8 => ?_
   refine AW.regionK 0 (fun ii => if ii = 1 then some (.reads false (.tup [.int .i64 w, .int .i64 0])) else none) [2, 3, 4, 7, 8, 9, 10] [3, 4, 7] ?_
   simp only [go_sem, reduceIte, reduceCtorEq, zA, zM, zE, zL, zD, zS, zP, zB, zI, zR, hxl, yac]
   repeat with_reducible refine cj ?_ ?_
   all_goals try first | (exact hw) | omega | exact ent (by kernel_rfl)
   refine hK8 _ _ _ ?_; clear hK8
   refine AW.seq fun K9 hK9 => ?_
   refine AW.regionK 0 (fun ii => if ii = 1 then some (.reads false (.tup [.int .i64 w, .int .i64 0])) else none) [2, 3, 4, 7, 8, 9, 10, 11, 12] [3, 4, 7] ?_
   simp only [go_sem, reduceIte, reduceCtorEq, zA, zM, zE, zL, zD, zS, zP, zB, zI, zR, hxl, yac]
   repeat with_reducible refine cj ?_ ?_
   all_goals try first | (exact hw2) | omega | exact ent (by kernel_rfl)
   refine hK9 _ _ _ ?_; clear hK9
   refine AW.seq fun K10 hK10 => ?_
   refine AW.regionK 0 (fun ii => if ii = 1 then some (.reads false (.tup [.int .i64 h, .int .i64 0])) else none) [2, 3, 4, 7, 8, 9, 10, 11, 12, 13, 14] [3, 4, 7] ?_
   simp only [go_sem, reduceIte, reduceCtorEq, zA, zM, zE, zL, zD, zS, zP, zB, zI, zR, hxl, yac]
   repeat with_reducible refine cj ?_ ?_
   all_goals try first | (exact hh1) | omega | exact ent (by kernel_rfl)
   refine hK10 _ _ _ ?_; clear hK10
   refine AW.seq fun K11 hK11 => ?_
   refine AW.regionK 0 (fun ii => if ii = 1 then some (.reads false (.tup [.int .i64 h, .int .i64 0])) else none) [2, 3, 4, 7, 8, 9, 10, 11, 12, 13, 14, 15, 16] [3, 4, 7] ?_
   simp only [go_sem, reduceIte, reduceCtorEq, zA, zM, zE, zL, zD, zS, zP, zB, zI, zR, hxl, yac]
   repeat with_reducible refine cj ?_ ?_
   all_goals try first | (exact hh2) | omega | exact ent (by kernel_rfl)
   refine hK11 _ _ _ ?_; clear hK11
   refine AW.seq fun K12 hK12 => ?_
   refine AW.regionK 0 (fun ii => if ii = 1 then some (.upd [] (fun k => [(0, some ⟨k, k, 1, ints l⟩)]) (fun k => .sl ⟨0, k, none⟩ 0 l.length none)) else none) [2, 3, 4, 7, 8, 9, 10, 11, 12, 13, 14, 15, 16, 17] [3, 4, 7, 64] ?_
   simp only [go_sem, reduceIte, reduceCtorEq, zA, zM, zE, zL, zD, zS, zP, zB, zI, zR, hxl, yac]
   repeat with_reducible refine cj ?_ ?_
   all_goals try first | (exact hcl) | omega | exact ent (by kernel_rfl)
   refine hK12 _ _ _ ?_; clear hK12
   refine AW.seq fun K13 hK13 => ?_
   refine AW.regionK 0 (fun ii => if ii = 1 then some (.upd [64] (fun k => [(0, some ⟨120, k, 1, ints l.reverse⟩)]) (fun _ => .tup [])) else none) [2, 3, 4, 7, 8, 9, 10, 11, 12, 13, 14, 15, 16, 17] [3, 4, 7, 64] ?_
   simp only [go_sem, reduceIte, reduceCtorEq, zA, zM, zE, zL, zD, zS, zP, zB, zI, zR, hxl, yac]
   repeat with_reducible refine cj ?_ ?_
   all_goals try first | (exact hrv _ _) | omega | exact ent (by kernel_rfl)
   refine hK13 _ _ _ ?_; clear hK13
   refine AW.seq fun K14 hK14 => ?_
   refine AW.regionD yd6 0 (fun ii => if ii = 31 then some (.reads false (.bool ab)) else if ii = 34 then some (.reads false (.bool ab)) else if ii = 40 then some (.reads false (.bool cb)) else if ii = 43 then some (.reads true (.bool cb)) else none) [6] [] ?_
   simp (maxSteps := 2000000) only [go_sem, reduceIte, reduceCtorEq, zA, zM, zE, zL, zD, zS, zP, zB, zI, zR, hxl, yac, beq_self_eq_true, hrl, htk]
   repeat with_reducible refine cj ?_ ?_
   all_goals try first | (first | exact hia | exact hib | exact hc1 | exact hc2 | exact hc3 | (intro hh; exact hc1) | (intro hh; exact hc2) | (intro hh; exact hc3)) | (intros; (repeat' apply And.intro) <;> first | assumption | (first | exact hia | exact hib | exact hc1 | exact hc2 | exact hc3 | (intro hh; exact hc1) | (intro hh; exact hc2) | (intro hh; exact hc3))) | omega | exact chk (by kernel_rfl) | exact ent (by kernel_rfl) | (intro hgd; exact absurd hgd (by decide)) | rfl | (simp only [go_sem, reduceIte, reduceCtorEq, zA, zM, zE, zL, zD, zS, zP, zB, zI, zR, hxl, yac, beq_self_eq_true, hrl, htk]; done) | (intro _hgd; simp_all [go_sem]; done)
   refine hK14 _ _ _ ?_; clear hK14
   refine AW.ret ?_
   rw [← hQr]
   simp only [go_sem, reduceIte, reduceCtorEq, zA, zM, zE, zL, zD, zS, zP, zB, zI, zR, hxl, yac]
   exact Wk.of_eq (by simp)
end Go.Proofs.W

namespace Go.Proofs.W
open Go.AM Go
set_option maxRecDepth 100000
set_option maxHeartbeats 2000000
theorem law_dual_of (rs : List USet) (hlr : ynz rs) (hok : ∀ x ∈ rs, okW x.W) (x : USet) (hx : x.W.length ≤ 9223372036854775807) (hox : okW x.W) (l : List Int) (hl : l.length ≤ 9223372036854775807)
  (hcl : l.length ≤ 60 → Upd Tryd.prog 26 [] [.rsl 1 (ints l)] (fun k => .sl ⟨0, k, none⟩ 0 l.length none) (fun k => [(0, some ⟨k, k, 1, ints l⟩)])) :
  Reads Tryd.prog 5 false [relV rs, .agg [.int .i64 x.N, .rsl 1 (words x.W)], .rsl 1 (ints l)] (.bool true) := by
 by_cases hv : yc9 rs = true
 ·obtain ⟨t, ht, hs, hn⟩ := ysk hok hv
  have hgr := yo0 rs hlr
  rw [ht, ← yih] at hgr
  have heq : relV rs = relB t := by rw [ht, ← yih]
  generalize rs.length = n at *
  by_cases hp : poB n t = true
  ·by_cases hle : (yat t n).length ≤ 2000
   ·rw [heq]
    have hf := yms n t hs hn hp
    rw [if_pos hle] at hf
    have hgo := yi5 (tabR t) 0 (by decide) hf
    rw [decide_eq_true rfl] at hgo
    have hpo := (ydc hs).1 hp
    have his : Sq n (invT n t) := Sq.inv
    have hip := (ydc his).2 hpo.inv
    cases hset : decide (x.N = n) && validS n x.W with
    | false =>
     have hset2 : (decide (x.N = n) && validS x.N x.W) = false := by
      by_cases e : x.N = (n : Int)
      ·rw [e] at hset ⊢; exact hset
      ·simp [e]
     exact yr6 n t hs hn hp hle hgr x hx hgo false (yjo n t hs hn hp x.N x.W hx hset2) (yjo n _ his hn hip x.N x.W hx hset2) l hl hcl
    | true =>
     simp only [Bool.and_eq_true, decide_eq_true_eq] at hset
     obtain ⟨b, h1, h2⟩ := yoq hox hset.2
     have hb0 : b.length = n := by omega
     have h3 := yht n t hs hn hp b hb0
     have h4 := yht n _ his hn hip b hb0
     rw [ymv hb0] at h4
     refine yr6 n t hs hn hp hle hgr x hx hgo (yeh t b) ?_ ?_ l hl hcl
     ·rw [hset.1, h2, hb0]; exact h3
     ·rw [hset.1, h2, hb0]; exact h4
   ·have hf := yms n t hs hn hp
    rw [if_neg hle, ← heq] at hf
    exact yf5 rs hlr x l hx hl (yi5 _ 9 (by decide) hf)
  ·have hp : poB n t = false := by simpa using hp
   have h2 := yr1 n t hs hn
   rw [hp, ← heq] at h2
   exact yf5 rs hlr x l hx hl (yi5 _ 1 (by decide) (ymr rs h2))
 ·have hv : yc9 rs = false := by simpa using hv
  exact yf5 rs hlr x l hx hl (yi5 _ 1 (by decide) (ymr rs (ysx rs hlr hv)))
end Go.Proofs.W

namespace Go.Proofs.W
open Go.AM Go
set_option maxRecDepth 100000
set_option maxHeartbeats 2000000
theorem clone_u (l : List Int) (hl : l.length ≤ 100000) (hne : l ≠ []) :
  Upd Tryd.prog 26 [] [.rsl 1 (ints l)] (fun k => .sl ⟨0, k, none⟩ 0 l.length none) (fun k => [(0, some ⟨k, k, 1, ints l⟩)]) := by
 have hine : ints l ≠ [] := by cases l with | nil => exact absurd rfl hne | cons a l => simp [ints]
 refine Upd.of_body (rs := [.tmp 2]) Tryd.func26 rfl Tryd.ntmps26 rfl (by simp) ?_
 intro k0 k hk0 hk1
 generalize hQr : retQ _ _ _ = Qr
 refine AW.seq fun K1 hK1 => ?_
 refine AW.regionK 100 (fun _ => none) [0] [] ?_
 simp only [go_sem, reduceIte, reduceCtorEq, zA, zM, zE, zL, zD, zS, zP, zB, zI, zR, yac]
 repeat with_reducible refine cj ?_ ?_
 all_goals try first | omega
 refine hK1 _ _ _ ?_; clear hK1
 refine AW.seq fun K2 hK2 => ?_
 refine AW.seq fun K3 hK3 => ?_
 refine AW.regionK 100 (fun _ => none) [0, 4] [] ?_
 simp only [go_sem, reduceIte, reduceCtorEq, zA, zM, zE, zL, zD, zS, zP, zB, zI, zR, yac]
 repeat with_reducible refine cj ?_ ?_
 all_goals try first | (exact hine) | omega
 refine hK3 _ _ _ ?_; clear hK3
 refine AW.cond rfl (by simp only [go_sem, reduceIte, reduceCtorEq, zA, zM, zE, zL, zD, zS, zP, zB, zI, zR]) ?_ ?_
 ·intro hb
  try simp only [hB, decide_eq_true_eq, decide_eq_false_iff_not] at hb
  exfalso; simp at hb
 ·intro hb
  try simp only [hB, decide_eq_true_eq, decide_eq_false_iff_not] at hb
  refine AW.skip ?_
  refine hK2 _ _ _ ?_; clear hK2
  refine AW.seq fun K4 hK4 => ?_
  refine AW.regionK 100 (fun _ => none) [2] [107] ?_
  simp only [go_sem, reduceIte, reduceCtorEq, zA, zM, zE, zL, zD, zS, zP, zB, zI, zR, yac]
  repeat with_reducible refine cj ?_ ?_
  all_goals try first | omega | (simp [scP, ybi]; done) | exact ybe _ | exact ybj _ | exact ybf _
  refine hK4 _ _ _ ?_; clear hK4
  refine AW.ret ?_
  rw [← hQr]
  simp only [go_sem, reduceIte, reduceCtorEq, zA, zM, zE, zL, zD, zS, zP, zB, zI, zR, yac]
  refine ⟨[(107, 0, true)], ?_⟩
  simp only [go_sem, reduceIte, zE, yb6]
theorem clone_nil : Reads Tryd.prog 26 false [.rsl 1 []] (.rsl 1 []) := by
 refine Reads.body (rs := [.tmp 2]) Tryd.func26 rfl Tryd.ntmps26 rfl (by simp) ?_
 generalize hQr : retQ _ _ _ = Qr
 refine AW.seq fun K1 hK1 => ?_
 refine AW.regionK 0 (fun _ => none) [0] [] ?_
 simp only [go_sem, reduceIte, reduceCtorEq, zA, zM, zE, zL, zD, zS, zP, zB, zI, zR]
 repeat with_reducible refine cj ?_ ?_
 all_goals try first | omega
 refine hK1 _ _ _ ?_; clear hK1
 refine AW.seq fun K2 hK2 => ?_
 refine AW.seq fun K3 hK3 => ?_
 refine AW.regionNil (l := [_]) 100 (fun _ => none) (by decide) (by rw [slD37]; rfl) ?_
 simp only [go_sem, reduceIte, zE]
 refine ⟨by decide, ⟨_, rfl⟩, fun b => ?_⟩
 try simp only [go_sem, reduceIte, reduceCtorEq, zA, zM, zE, zL, zD, zS, zP, zB, zI, zR]
 refine hK3 _ _ _ ?_; clear hK3
 refine AW.cond rfl (by simp only [go_sem, reduceIte, reduceCtorEq, zA, zM, zE, zL, zD, zS, zP, zB, zI, zR]) ?_ ?_
 ·intro hb
  try simp only [hB, decide_eq_true_eq, decide_eq_false_iff_not] at hb
  refine AW.seq fun K4 hK4 => ?_
  refine AW.regionK 0 (fun _ => none) [2] [] ?_
  simp only [go_sem, reduceIte, reduceCtorEq, zA, zM, zE, zL, zD, zS, zP, zB, zI, zR]
  repeat with_reducible refine cj ?_ ?_
  all_goals try first | omega
  refine hK4 _ _ _ ?_; clear hK4
  refine AW.ret ?_
  rw [← hQr]
  simp only [go_sem, reduceIte, reduceCtorEq, zA, zM, zE, zL, zD, zS, zP, zB, zI, zR]
  exact Wk.nil 1
 ·intro hb
  try simp only [hB, decide_eq_true_eq, decide_eq_false_iff_not] at hb
  refine AW.skip ?_
  refine hK2 _ _ _ ?_; clear hK2
  refine AW.seq fun K5 hK5 => ?_
  refine AW.regionK 0 (fun _ => none) [2] [7] ?_
  simp only [go_sem, reduceIte, reduceCtorEq, zA, zM, zE, zL, zD, zS, zP, zB, zI, zR]
  repeat with_reducible refine cj ?_ ?_
  all_goals try first | omega | (simp [scP, ybi]; done) | exact ybe _ | exact ybj _ | exact ybf _
  refine hK5 _ _ _ ?_; clear hK5
  refine AW.ret ?_
  rw [← hQr]
  simp only [go_sem, reduceIte, reduceCtorEq, zA, zM, zE, zL, zD, zS, zP, zB, zI, zR]
  exact Wk.refl _
theorem reverse_nil : Reads Tryd.prog 27 false [.rsl 1 []] (.tup []) := by
 refine Reads.body (rs := []) Tryd.func27 rfl Tryd.ntmps27 rfl (by simp) ?_
 generalize hQr : retQ _ _ _ = Qr
 refine AW.seq fun K1 hK1 => ?_
 refine AW.regionK 0 (fun _ => none) [0, 2, 3] [] ?_
 simp only [go_sem, reduceIte, reduceCtorEq, zA, zM, zE, zL, zD, zS, zP, zB, zI, zR]
 repeat with_reducible refine cj ?_ ?_
 all_goals try first | omega
 refine hK1 _ _ _ ?_; clear hK1
 refine AW.block ?_
 refine AW.loopE (fun mm ee ss kk => ∃ (j : Nat), 0 + 1 = mm ∧ ee = [(0, .rsl 1 []), (2, .int .i64 0), (3, .int .i64 (-1))] ∧ ss = [] ∧ (j = 0)) ?_ ?_
 ·refine ⟨_, 0, rfl, ?henv, ?hstore, ?hst⟩
  case henv =>
   repeat' (first | rfl | refine yaa ?_ ?_ | refine yad ?_ ?_ ?_ ?_ | refine yah ?_ | refine yae ?_ | refine yai ?_ | refine yaj ?_ | refine yan ?_ ?_ ?_ | refine yak ?_ ?_ ?_ | refine yal ?_ | refine yaf ?_ ?_ | refine yab ?_ ?_)
   all_goals (first | omega | (simp; done))
  case hstore =>
   repeat' (first | rfl | refine yaa ?_ ?_ | refine yad ?_ ?_ ?_ ?_ | refine yah ?_ | refine yae ?_ | refine yai ?_ | refine yaj ?_ | refine yan ?_ ?_ ?_ | refine yak ?_ ?_ ?_ | refine yal ?_ | refine yaf ?_ ?_ | refine yab ?_ ?_)
   all_goals (first | (simp; done) | omega | (simp; omega))
  case hst =>
   first | trivial | omega | (simp; done) | (simp; omega)
 rintro mm ee ss kk ⟨j, rfl, rfl, rfl, hI⟩
 generalize hQl1 : ybd _ _ = Ql1
 refine AW.seq fun K2 hK2 => ?_
 refine AW.seq fun K3 hK3 => ?_
 refine AW.regionK 0 (fun _ => none) [0, 2, 3, 9] [] ?_
 simp only [go_sem, reduceIte, reduceCtorEq, zA, zM, zE, zL, zD, zS, zP, zB, zI, zR]
 repeat with_reducible refine cj ?_ ?_
 all_goals try first | omega
 refine hK3 _ _ _ ?_; clear hK3
 refine AW.cond rfl (by simp only [go_sem, reduceIte, reduceCtorEq, zA, zM, zE, zL, zD, zS, zP, zB, zI, zR]) ?_ ?_
 ·intro hb
  try simp only [hB, decide_eq_true_eq, decide_eq_false_iff_not] at hb
  exfalso; simp at hb
 ·intro hb
  try simp only [hB, decide_eq_true_eq, decide_eq_false_iff_not] at hb
  refine AW.keep [] [] ?_
  try simp only [go_sem, reduceIte, reduceCtorEq, zA, zM, zE, zL, zD, zS, zP, zB, zI, zR]
  refine AW.exit ?_
  rw [← hQl1]
  rw [← hQr]
  simp only [go_sem, reduceIte, reduceCtorEq, zA, zM, zE, zL, zD, zS, zP, zB, zI, zR]
  exact Wk.refl _
end Go.Proofs.W

namespace Go.Proofs.W
open Go.AM Go
set_option maxRecDepth 100000
set_option maxHeartbeats 2000000
theorem yql {gb : Bool} (n : Nat) (t : List (List Bool)) (hs : Sq n t) (hn : n ≤ 512) (hp : poB n t = true) (hl : (yat t n).length ≤ 2000) (hgr : Reads Tryd.prog 9 false [relB t] (.bool gb)) (x : USet) (hx : x.W.length ≤ 9223372036854775807) (hgo : Reads Tryd.prog 10 false [relB t] (.bool true))
  (ab : Bool) (hia : Reads Tryd.prog 18 false [relB t, .agg [.int .i64 x.N, .rsl 1 (words x.W)]] (.bool ab)) (hib : Reads Tryd.prog 18 false [relB (invT n t), .agg [.int .i64 x.N, .rsl 1 (words x.W)]] (.bool ab))
  : Reads Tryd.prog 5 false [relB t, .agg [.int .i64 x.N, .rsl 1 (words x.W)], .rsl 1 []] (.bool true) := by
 have haw := yo1
 have hxl := ydu x.W
 have hpo := (ydc hs).1 hp
 have his : Sq n (invT n t) := Sq.inv
 have hip := (ydc his).2 hpo.inv
 have hil : (yat (invT n t) n).length ≤ 2000 := by rw [yhx hs]; exact hl
 have hin := yn0 n t hs hn
 have hw := ykq n t hs hn hp hl
 have hw2 := ykq n _ his hn hip hil
 rw [yod hs hn hpo hl] at hw2
 have hh1 := yjp n t hs hn hp hl
 have hh2 := yjp n _ his hn hip hil
 rw [ylj hs hpo] at hh2
 have hc1 := yeg n t hs hn hp [] (by simp)
 have hc2 := yeg n _ his hn hip [] (by simp)
 rw [show chainB n (invT n t) [] = chainB n t [] by have := yoe (n := n) (t := t) hs (l := []); simpa using this] at hc2
 simp only [ints, List.map_nil] at hc1 hc2
 unfold relB at *
 generalize (chainsT n t).length = w at *
 generalize heightT n t = h at *
 generalize tabR (invT n t) = T2 at *
 generalize chainB n t [] = cb at *
 refine Reads.body (rs := [.tmp 6]) Tryd.func5 rfl Tryd.ntmps5 rfl (by simp) ?_
 generalize hQr : retQ _ _ _ = Qr
 refine AW.seq fun K1 hK1 => ?_
 refine AW.regionK 0 (fun _ => none) [2, 3, 4] [3, 4] ?_
 simp only [go_sem, reduceIte, reduceCtorEq, zA, zM, zE, zL, zD, zS, zP, zB, zI, zR, hxl, yac]
 repeat with_reducible refine cj ?_ ?_
 all_goals try first | omega
 refine hK1 _ _ _ ?_; clear hK1
 refine AW.seq fun K2 hK2 => ?_
 refine AW.seq fun K3 hK3 => ?_
 refine AW.regionK 0 (fun ii => if ii = 0 then some (.reads false (.bool true)) else none) [2, 3, 4, 19] [3, 4] ?_
 simp only [go_sem, reduceIte, reduceCtorEq, zA, zM, zE, zL, zD, zS, zP, zB, zI, zR, hxl, yac]
 repeat with_reducible refine cj ?_ ?_
 all_goals try first | (exact haw) | omega | exact ent (by kernel_rfl)
 refine hK3 _ _ _ ?_; clear hK3
 refine AW.cond rfl (by simp only [go_sem, reduceIte, reduceCtorEq, zA, zM, zE, zL, zD, zS, zP, zB, zI, zR]) ?_ ?_
 ·intro hb
  try simp only [hB, decide_eq_true_eq, decide_eq_false_iff_not] at hb
  exfalso; simp at hb
 ·intro hb
  try simp only [hB, decide_eq_true_eq, decide_eq_false_iff_not] at hb
  refine AW.skip ?_
  refine hK2 _ _ _ ?_; clear hK2
  refine AW.seq fun K4 hK4 => ?_
  refine AW.seq fun K5 hK5 => ?_
  refine AW.regionK 0 (fun ii => if ii = 1 then some (.reads false (.bool gb)) else if ii = 4 then some (.reads false (.bool true)) else none) [2, 3, 4, 37] [3, 4] ?_
  simp only [go_sem, reduceIte, reduceCtorEq, zA, zM, zE, zL, zD, zS, zP, zB, zI, zR, hxl, yac]
  repeat with_reducible refine cj ?_ ?_
  all_goals try first | (first | exact hgr | exact hgo | (intro hh; (repeat' apply And.intro) <;> first | exact hh | exact hgo)) | (intros; (repeat' apply And.intro) <;> first | assumption | (first | exact hgr | exact hgo | (intro hh; (repeat' apply And.intro) <;> first | exact hh | exact hgo))) | omega | exact ent (by kernel_rfl) | (intro hgd; exact absurd hgd (by decide)) | rfl | (simp only [go_sem, reduceIte, reduceCtorEq, zA, zM, zE, zL, zD, zS, zP, zB, zI, zR, hxl, yac]; done) | (intro _hgd; simp_all [go_sem]; done)
  refine hK5 _ _ _ ?_; clear hK5
  refine AW.cond rfl (by simp only [go_sem, reduceIte, reduceCtorEq, zA, zM, zE, zL, zD, zS, zP, zB, zI, zR]) ?_ ?_
  ·intro hb
   try simp only [hB, decide_eq_true_eq, decide_eq_false_iff_not] at hb
   refine AW.seq fun K6 hK6 => ?_
   refine AW.regionK 0 (fun _ => none) [6] [] ?_
   simp only [go_sem, reduceIte, reduceCtorEq, zA, zM, zE, zL, zD, zS, zP, zB, zI, zR, hxl, yac]
   repeat with_reducible refine cj ?_ ?_
   all_goals try first | omega
   refine hK6 _ _ _ ?_; clear hK6
   refine AW.ret ?_
   rw [← hQr]
   simp only [go_sem, reduceIte, reduceCtorEq, zA, zM, zE, zL, zD, zS, zP, zB, zI, zR, hxl, yac]
   exact Wk.refl _
  ·intro hb
   try simp only [hB, decide_eq_true_eq, decide_eq_false_iff_not] at hb
   refine AW.skip ?_
   refine hK4 _ _ _ ?_; clear hK4
   refine AW.seq fun K7 hK7 => ?_
   refine AW.regionK 0 (fun ii => if ii = 1 then some (.reads false (.tup [.agg [.rsl 2 T2], .int .i64 0])) else none) [2, 3, 4, 7, 8] [3, 4, 7] ?_
   simp only [go_sem, reduceIte, reduceCtorEq, zA, zM, zE, zL, zD, zS, zP, zB, zI, zR, hxl, yac]
   repeat with_reducible refine cj ?_ ?_
   all_goals try first | (exact hin) | omega | exact ent (by kernel_rfl)
   refine hK7 _ _ _ ?_; clear hK7
   refine AW.seq fun K8 hK8 => ?_
   refine AW.regionK 0 (fun ii => if ii = 1 then some (.reads false (.tup [.int .i64 w, .int .i64 0])) else none) [2, 3, 4, 7, 8, 9, 10] [3, 4, 7] ?_
   simp only [go_sem, reduceIte, reduceCtorEq, zA, zM, zE, zL, zD, zS, zP, zB, zI, zR, hxl, yac]
   repeat with_reducible refine cj ?_ ?_
   all_goals try first | (exact hw) | omega | exact ent (by kernel_rfl)
   refine hK8 _ _ _ ?_; clear hK8
   refine AW.seq fun K9 hK9 => ?_
   refine AW.regionK 0 (fun ii => if ii = 1 then some (.reads false (.tup [.int .i64 w, .int .i64 0])) else none) [2, 3, 4, 7, 8, 9, 10, 11, 12] [3, 4, 7] ?_
   simp only [go_sem, reduceIte, reduceCtorEq, zA, zM, zE, zL, zD, zS, zP, zB, zI, zR, hxl, yac]
   repeat with_reducible refine cj ?_ ?_
   all_goals try first | (exact hw2) | omega | exact ent (by kernel_rfl)
   refine hK9 _ _ _ ?_; clear hK9
   refine AW.seq fun K10 hK10 => ?_
   refine AW.regionK 0 (fun ii => if ii = 1 then some (.reads false (.tup [.int .i64 h, .int .i64 0])) else none) [2, 3, 4, 7, 8, 9, 10, 11, 12, 13, 14] [3, 4, 7] ?_
   simp only [go_sem, reduceIte, reduceCtorEq, zA, zM, zE, zL, zD, zS, zP, zB, zI, zR, hxl, yac]
   repeat with_reducible refine cj ?_ ?_
   all_goals try first | (exact hh1) | omega | exact ent (by kernel_rfl)
   refine hK10 _ _ _ ?_; clear hK10
   refine AW.seq fun K11 hK11 => ?_
   refine AW.regionK 0 (fun ii => if ii = 1 then some (.reads false (.tup [.int .i64 h, .int .i64 0])) else none) [2, 3, 4, 7, 8, 9, 10, 11, 12, 13, 14, 15, 16] [3, 4, 7] ?_
   simp only [go_sem, reduceIte, reduceCtorEq, zA, zM, zE, zL, zD, zS, zP, zB, zI, zR, hxl, yac]
   repeat with_reducible refine cj ?_ ?_
   all_goals try first | (exact hh2) | omega | exact ent (by kernel_rfl)
   refine hK11 _ _ _ ?_; clear hK11
   refine AW.seq fun K12 hK12 => ?_
   refine AW.regionK 0 (fun ii => if ii = 1 then some (.reads false (.rsl 1 [])) else none) [2, 3, 4, 7, 8, 9, 10, 11, 12, 13, 14, 15, 16, 17] [3, 4, 7] ?_
   simp only [go_sem, reduceIte, reduceCtorEq, zA, zM, zE, zL, zD, zS, zP, zB, zI, zR, hxl, yac]
   repeat with_reducible refine cj ?_ ?_
   all_goals try first | (exact clone_nil) | omega | exact ent (by kernel_rfl)
   refine hK12 _ _ _ ?_; clear hK12
   refine AW.seq fun K13 hK13 => ?_
   refine AW.regionK 0 (fun ii => if ii = 1 then some (.reads false (.tup [])) else none) [2, 3, 4, 7, 8, 9, 10, 11, 12, 13, 14, 15, 16, 17] [3, 4, 7] ?_
   simp only [go_sem, reduceIte, reduceCtorEq, zA, zM, zE, zL, zD, zS, zP, zB, zI, zR, hxl, yac]
   repeat with_reducible refine cj ?_ ?_
   all_goals try first | (exact reverse_nil) | omega | exact ent (by kernel_rfl)
   refine hK13 _ _ _ ?_; clear hK13
   refine AW.seq fun K14 hK14 => ?_
   refine AW.regionD yd6 0 (fun ii => if ii = 31 then some (.reads false (.bool ab)) else if ii = 34 then some (.reads false (.bool ab)) else if ii = 40 then some (.reads false (.bool cb)) else if ii = 43 then some (.reads false (.bool cb)) else none) [6] [] ?_
   simp (maxSteps := 2000000) only [go_sem, reduceIte, reduceCtorEq, zA, zM, zE, zL, zD, zS, zP, zB, zI, zR, hxl, yac, beq_self_eq_true]
   repeat with_reducible refine cj ?_ ?_
   all_goals try first | (first | exact hia | exact hib | exact hc1 | exact hc2 | (intro hh; exact hc1) | (intro hh; exact hc2)) | (intros; (repeat' apply And.intro) <;> first | assumption | (first | exact hia | exact hib | exact hc1 | exact hc2 | (intro hh; exact hc1) | (intro hh; exact hc2))) | omega | exact chk (by kernel_rfl) | exact ent (by kernel_rfl) | (intro hgd; exact absurd hgd (by decide)) | rfl | (simp only [go_sem, reduceIte, reduceCtorEq, zA, zM, zE, zL, zD, zS, zP, zB, zI, zR, hxl, yac, beq_self_eq_true]; done) | (intro _hgd; simp_all [go_sem]; done)
   refine hK14 _ _ _ ?_; clear hK14
   refine AW.ret ?_
   rw [← hQr]
   simp only [go_sem, reduceIte, reduceCtorEq, zA, zM, zE, zL, zD, zS, zP, zB, zI, zR, hxl, yac]
   exact Wk.of_eq (by simp)
theorem law_dual_nil (rs : List USet) (hlr : ynz rs) (hok : ∀ x ∈ rs, okW x.W) (x : USet) (hx : x.W.length ≤ 9223372036854775807) (hox : okW x.W) :
  Reads Tryd.prog 5 false [relV rs, .agg [.int .i64 x.N, .rsl 1 (words x.W)], .rsl 1 []] (.bool true) := by
 by_cases hv : yc9 rs = true
 ·obtain ⟨t, ht, hs, hn⟩ := ysk hok hv
  have hgr := yo0 rs hlr
  rw [ht, ← yih] at hgr
  have heq : relV rs = relB t := by rw [ht, ← yih]
  generalize rs.length = n at *
  by_cases hp : poB n t = true
  ·by_cases hle : (yat t n).length ≤ 2000
   ·rw [heq]
    have hf := yms n t hs hn hp
    rw [if_pos hle] at hf
    have hgo := yi5 (tabR t) 0 (by decide) hf
    rw [decide_eq_true rfl] at hgo
    have hpo := (ydc hs).1 hp
    have his : Sq n (invT n t) := Sq.inv
    have hip := (ydc his).2 hpo.inv
    cases hset : decide (x.N = n) && validS n x.W with
    | false =>
     have hset2 : (decide (x.N = n) && validS x.N x.W) = false := by
      by_cases e : x.N = (n : Int)
      ·rw [e] at hset ⊢; exact hset
      ·simp [e]
     exact yql n t hs hn hp hle hgr x hx hgo false (yjo n t hs hn hp x.N x.W hx hset2) (yjo n _ his hn hip x.N x.W hx hset2)
    | true =>
     simp only [Bool.and_eq_true, decide_eq_true_eq] at hset
     obtain ⟨b, h1, h2⟩ := yoq hox hset.2
     have hb0 : b.length = n := by omega
     have h3 := yht n t hs hn hp b hb0
     have h4 := yht n _ his hn hip b hb0
     rw [ymv hb0] at h4
     refine yql n t hs hn hp hle hgr x hx hgo (yeh t b) ?_ ?_
     ·rw [hset.1, h2, hb0]; exact h3
     ·rw [hset.1, h2, hb0]; exact h4
   ·have hf := yms n t hs hn hp
    rw [if_neg hle, ← heq] at hf
    exact yf5 rs hlr x [] hx (by simp) (yi5 _ 9 (by decide) hf)
  ·have hp : poB n t = false := by simpa using hp
   have h2 := yr1 n t hs hn
   rw [hp, ← heq] at h2
   exact yf5 rs hlr x [] hx (by simp) (yi5 _ 1 (by decide) (ymr rs h2))
 ·have hv : yc9 rs = false := by simpa using hv
  exact yf5 rs hlr x [] hx (by simp) (yi5 _ 1 (by decide) (ymr rs (ysx rs hlr hv)))
theorem law_dual (rs : List USet) (hlr : ynz rs) (hok : ∀ x ∈ rs, okW x.W) (x : USet) (hx : x.W.length ≤ 9223372036854775807) (hox : okW x.W) (l : List Int) (hl : l.length ≤ 9223372036854775807) :
  Reads Tryd.prog 5 false [relV rs, .agg [.int .i64 x.N, .rsl 1 (words x.W)], .rsl 1 (ints l)] (.bool true) := by
 by_cases hne : l = []
 ·subst hne
  exact law_dual_nil rs hlr hok x hx hox
 ·exact law_dual_of rs hlr hok x hx hox l hl (fun h => clone_u l (by omega) hne)
end Go.Proofs.W

/- Arguments that are read as data, as pure trees. -/
namespace Go.AM

inductive F2 {α β : Type} (R : α → β → Prop) : List α → List β → Prop
  | nil : F2 R [] []
  | cons {a b l r} (h : R a b) (t : F2 R l r) : F2 R (a :: l) (b :: r)

/-- The shape of a type's cells. -/
def Fit (P : Program) : Nat → TypeId → List AV → Prop
  | 0, _, _ => False
  | f + 1, t, avs => match P.underlying t with
    | some .bool => ∃ b, avs = [.bool b]
    | some (.int k) => ∃ n, avs = [.int k n] ∧ k.min ≤ n ∧ n ≤ k.max
    | some .string => ∃ s, avs = [.str s]
    | some (.slice e) => P.cellsOf e = 0 ∨ ∃ es, avs = [.rsl (P.cellsOf e) es] ∧ es.length ≤ maxLen ∧ ∀ x ∈ es, x.length = P.cellsOf e ∧ Fit P f e x
    | some (.struct fs) => ∃ parts : List (List AV), avs = parts.flatten ∧ F2 (fun (fl : Field) p => p.length = P.cellsOf fl.type ∧ Fit P f fl.type p) fs.toList parts
    | some (.array n e) => ∃ parts : List (List AV), avs = parts.flatten ∧ parts.length = n ∧ ∀ p ∈ parts, p.length = P.cellsOf e ∧ Fit P f e p
    | _ => True

abbrev immW (w : World) : Nat → Prop := immF w fun _ => False
def Match (w : World) (avs : List AV) (cs : List Value) : Prop := avs.length = cs.length ∧ ∀ i, i < avs.length → RelP (immW w) w (avs.getD i .any) (cs.getD i undef)

theorem Match.append {w : World} {a a' : List AV} {c c' : List Value} (h : Match w a c) (h' : Match w a' c') : Match w (a ++ a') (c ++ c') := by
  obtain ⟨h1, h2⟩ := h
  obtain ⟨k1, k2⟩ := h'
  refine ⟨by simp [h1, k1], fun i hi => ?_⟩
  rw [getD_append, getD_append, ← h1]
  by_cases hlt : i < a.length
  · rw [if_pos hlt, if_pos hlt]; exact h2 i hlt
  · rw [if_neg hlt, if_neg hlt]
    exact k2 _ (by simp at hi; omega)
theorem Match.one {w : World} {a : AV} {u : Value} (h : RelP (immW w) w a u) : Match w [a] [u] := ⟨rfl, fun i hi => by
  match i, hi with
  | 0, _ => exact h⟩

theorem yh0 {α β : Type} {f : α → Option β} : ∀ {l : List α} {r : List β}, l.mapM f = some r → F2 (fun a b => f a = some b) l r
  | [], r, h => by
    simp only [List.mapM_nil, Option.pure_def, Option.some.injEq] at h
    subst h; exact .nil
  | a :: l, r, h => by
    rw [List.mapM_cons] at h
    cases ha : f a with
    | none => simp [ha] at h
    | some b =>
      cases hl : l.mapM f with
      | none => simp [ha, hl] at h
      | some r' =>
        simp [ha, hl] at h
        subst h
        exact .cons ha (yh0 hl)

theorem ylk {β : Type} {f : Nat → Option β} {n : Nat} {r : List β} (h : (List.range n).mapM f = some r) : r.length = n ∧ ∀ i, i < n → ∃ b, r[i]? = some b ∧ f i = some b := by
  have h2 := yh0 h
  have key : ∀ {l : List Nat} {r : List β}, F2 (fun a b => f a = some b) l r → r.length = l.length ∧ ∀ (i a : Nat), l[i]? = some a → ∃ b, r[i]? = some b ∧ f a = some b := by
    intro l r h
    induction h with
    | nil => exact ⟨rfl, by simp⟩
    | cons h t ih =>
      refine ⟨by simp [ih.1], fun i a ha => ?_⟩
      cases i with
      | zero => simp only [List.getElem?_cons_zero, Option.some.injEq] at ha; subst ha; exact ⟨_, rfl, h⟩
      | succ i => simpa using ih.2 i a (by simpa using ha)
  obtain ⟨k1, k2⟩ := key h2
  refine ⟨by simpa using k1, fun i hi => k2 i i (by simp [hi])⟩

theorem yks {w : World} {a : Addr} {n : Nat} {cs : List Value} (h : w.cells? 0 a n = some cs) : cs.length = n ∧ ∀ j, j < n → w.cell? (a.add j) = some (cs.getD j undef) := by
  simp only [World.cells?, Nat.zero_le, if_true] at h
  obtain ⟨h1, h2⟩ := ylk h
  refine ⟨h1, fun j hj => ?_⟩
  obtain ⟨b, e1, e2⟩ := h2 j hj
  rw [e2, List.getD_eq_getElem?_getD, e1]; rfl

theorem cell?_spot {w : World} {a : Addr} {v : Value} (h : w.cell? a = some v) : a.spot = none ∧ a.block < w.heap.size := by
  unfold World.cell? at h
  split at h
  · rename_i c _ _ hh
    split at h
    · cases h
    · rename_i hs
      exact ⟨by simpa using hs, ycf hh⟩
  · cases h

theorem yh1 {P : Program} (cs : List Value) : ∀ (fs : List Field) (o : Nat), (∀ (j : Nat) f, fs[j]? = some f → f.offset = o + ((fs.take j).map fun f => P.cellsOf f.type).sum) →
    (fs.map fun f => (cs.drop f.offset).take (P.cellsOf f.type)).flatten = (cs.drop o).take ((fs.map fun f => P.cellsOf f.type).sum)
  | [], o, _ => by simp
  | f :: fs, o, h => by
    have h0 := h 0 f rfl
    simp at h0
    have ih := yh1 (P := P) cs fs (o + P.cellsOf f.type) fun j g hj => by
      have := h (j + 1) g (by simpa using hj)
      rw [this]
      simp [Nat.add_assoc]
    simp only [List.map_cons, List.flatten_cons, List.sum_cons, ih, h0]
    rw [List.take_add, List.drop_drop]

theorem yi9 (cs : List Value) (m : Nat) : ∀ n, ((List.range n).map fun i => (cs.drop (i * m)).take m).flatten = cs.take (n * m)
  | 0 => by simp
  | n + 1 => by
    rw [List.range_succ, List.map_append, List.flatten_append, yi9 cs m n, Nat.succ_mul, List.take_add]
    simp

theorem yez {α : Type} {w : World} {g : α → List Value} {p : α → List AV → Prop} : ∀ {l : List α} {parts : List (List AV)}, F2 (fun a x => p a x ∧ Match w x (g a)) l parts → Match w parts.flatten (l.map g).flatten
  | _, _, .nil => ⟨rfl, by simp⟩
  | _, _, .cons h t => by
    simp only [List.flatten_cons, List.map_cons]
    exact h.2.append (yez t)

theorem ygz {α β : Type} {R S : α → β → Prop} (h : ∀ a b, R a b → S a b) : ∀ {l : List α} {r : List β}, F2 R l r → F2 S l r
  | _, _, .nil => .nil
  | _, _, .cons h1 t => .cons (h _ _ h1) (ygz h t)
theorem ykt {α β : Type} {R : α → β → Prop} : ∀ {l : List α} {r : List β}, F2 R l r → l.length = r.length
  | _, _, .nil => rfl
  | _, _, .cons _ t => by simp [ykt t]
theorem yh2 {α β : Type} {R : α → β → Prop} {Q : β → Prop} (h : ∀ a b, R a b → Q b) : ∀ {l : List α} {r : List β}, F2 R l r → ∀ b ∈ r, Q b
  | _, _, .nil, b, hb => by cases hb
  | _, _, .cons h1 t, b, hb => by
    rcases List.mem_cons.1 hb with rfl | hb
    · exact h _ _ h1
    · exact yh2 h t b hb

theorem fit_of_trod {H : Type} {enc : TypeId × Value → H} {P : Program} {w : World} (hl : laidOutB P = true) : ∀ (n : Nat) (t : TypeId) (cs : List Value) (x : DataW H × List MemPlace), t < P.types.size →
    DataW.trod enc P w 0 (fun _ => true) true n t cs = some x → ∃ avs, Fit P n t avs ∧ Match w avs cs := by
  intro n
  induction n with
  | zero => intro t cs x _ h; simp [DataW.trod] at h
  | succ n ih =>
    intro t cs x ht h
    have hany : (match P.underlying t with | some .bool | some (.int _) | some .string | some (.slice _) | some (.struct _) | some (.array _ _) => False | _ => True) → ∃ avs, Fit P (n + 1) t avs ∧ Match w avs cs := fun hh => by
      refine ⟨List.replicate cs.length .any, ?_, by simp, fun i hi => ?_⟩
      · unfold Fit
        split <;> simp_all
      · have : (List.replicate cs.length AV.any).getD i .any = .any := by
          simp only [List.getD_eq_getElem?_getD]
          cases h : (List.replicate cs.length AV.any)[i]? with
          | none => rfl
          | some y => simp [List.getElem?_replicate] at h; simp [h.2]
        rw [this]; exact .any _
    by_cases hh : (match P.underlying t with | some .bool | some (.int _) | some .string | some (.slice _) | some (.struct _) | some (.array _ _) => False | _ => True)
    · exact hany hh
    cases hu : P.underlying t with
    | none => exact absurd (by rw [hu]; trivial) hh
    | some d =>
      rw [hu] at hh
      cases d <;> first | exact absurd trivial hh | skip
      case bool =>
        unfold DataW.trod at h
        rw [hu] at h
        rcases cs with _ | ⟨c, _ | ⟨c2, rest⟩⟩ <;> (try cases c) <;> simp at h
        exact ⟨[.bool _], by unfold Fit; rw [hu]; exact ⟨_, rfl⟩, .one (.bool _)⟩
      case int k =>
        unfold DataW.trod at h
        rw [hu] at h
        rcases cs with _ | ⟨c, _ | ⟨c2, rest⟩⟩ <;> (try cases c) <;> simp at h
        rename_i k' m
        obtain ⟨⟨rfl, h1⟩, _⟩ := h
        exact ⟨[.int k' m], by unfold Fit; rw [hu]; exact ⟨_, rfl, by simpa [Lit.wf] using h1⟩, .one (.int _ _)⟩
      case string =>
        unfold DataW.trod at h
        rw [hu] at h
        rcases cs with _ | ⟨c, _ | ⟨c2, rest⟩⟩ <;> (try cases c) <;> simp at h
        exact ⟨[.str _], by unfold Fit; rw [hu]; exact ⟨_, rfl⟩, .one (.str _)⟩
      case slice e =>
        have he := kid_slice hl ht hu
        unfold DataW.trod at h
        rw [hu] at h
        have hbad : ∀ c c2 rest, cs ≠ c :: c2 :: rest := fun c c2 rest e => by subst e; cases c <;> simp at h
        rcases cs with _ | ⟨c, _ | ⟨c2, rest⟩⟩
        · simp at h
        rotate_left
        · exact absurd rfl (hbad _ _ _)
        cases c <;> first | (simp at h; done) | skip
        rename_i a len cap
        cases a with
        | none =>
          rcases len with _ | len <;> rcases cap with _ | cap <;> first | (simp at h; done) | skip
          exact ⟨[.rsl (P.cellsOf e) []], by unfold Fit; rw [hu]; exact .inr ⟨[], rfl, by simp, by simp⟩, .one (.rnil _ _ _)⟩
        | some a =>
          dsimp only at h
          split at h
          · rename_i hb
            cases hm : (List.range len).mapM (fun i => (w.cells? 0 (a.add (i * P.cellsOf e)) (P.cellsOf e)).bind (DataW.trod enc P w 0 (fun _ => true) true n e)) with
            | none => rw [hm] at h; simp at h
            | some elems =>
              obtain ⟨k1, k2⟩ := ylk hm
              have k3 : ∀ i, i < len → ∃ avs cs', w.cells? 0 (a.add (i * P.cellsOf e)) (P.cellsOf e) = some cs' ∧ Fit P n e avs ∧ Match w avs cs' := fun i hi => by
                obtain ⟨b, _, e2⟩ := k2 i hi
                cases hc : w.cells? 0 (a.add (i * P.cellsOf e)) (P.cellsOf e) with
                | none => rw [hc] at e2; simp at e2
                | some cs' =>
                  rw [hc] at e2
                  obtain ⟨avs, h1, h2⟩ := ih e cs' b he e2
                  exact ⟨avs, cs', rfl, h1, h2⟩
              classical
              let F : Nat → List AV := fun i => if hi : i < len then Classical.choose (k3 i hi) else []
              let es := (List.range len).map F
              have hlen : es.length = len := by simp [es]
              have hget : ∀ i, i < len → es.getD i [] = F i := fun i hi => by simp [es, List.getD_eq_getElem?_getD, hi]
              have hF : ∀ i, i < len → ∃ cs', w.cells? 0 (a.add (i * P.cellsOf e)) (P.cellsOf e) = some cs' ∧ Fit P n e (F i) ∧ Match w (F i) cs' := fun i hi => by
                have := Classical.choose_spec (k3 i hi)
                simp only [F, dif_pos hi]
                exact this
              have hes : ∀ x ∈ es, x.length = P.cellsOf e ∧ Fit P n e x := fun x hx => by
                simp only [es, List.mem_map, List.mem_range] at hx
                obtain ⟨i, hi, rfl⟩ := hx
                obtain ⟨cs', h1, h2, h3⟩ := hF i hi
                exact ⟨h3.1.trans (yks h1).1, h2⟩
              rcases Nat.eq_zero_or_pos (P.cellsOf e) with hz | hz
              · exact ⟨[.any], by unfold Fit; rw [hu]; exact .inl hz, .one (.any _)⟩
              refine ⟨[.rsl (P.cellsOf e) es], by unfold Fit; rw [hu]; exact .inr ⟨es, rfl, by rw [hlen]; omega, hes⟩, .one ?_⟩
              rcases Nat.eq_zero_or_pos len with h0 | h0
              · have : es = [] := List.length_eq_zero_iff.1 (by omega)
                rw [this, h0]; exact .rnil _ _ _
              · have hcell : ∀ i j, i < len → j < P.cellsOf e → ∃ v, w.cell? ((a.add (i * P.cellsOf e)).add j) = some v ∧ RelP (immW w) w ((es.getD i []).getD j .any) v := fun i j hi hj => by
                  obtain ⟨cs', h1, h2, h3⟩ := hF i hi
                  obtain ⟨g1, g2⟩ := yks h1
                  refine ⟨_, g2 j hj, ?_⟩
                  rw [hget i hi]
                  exact h3.2 j (by rw [h3.1, g1]; exact hj)
                obtain ⟨v0, g1, _⟩ := hcell 0 0 h0 hz
                simp only [Nat.zero_mul, Addr.add, if_true] at g1
                obtain ⟨hs, hblk⟩ := cell?_spot g1
                obtain ⟨b, off, sp⟩ := a
                simp only at hs
                subst hs
                have hadd : ∀ i j, ((⟨b, off, none⟩ : Addr).add (i * P.cellsOf e)).add j = ⟨b, off + i * P.cellsOf e + j, none⟩ := fun i j => by
                  simp only [Addr.add]
                  split <;> split <;> simp_all
                rw [← hlen]
                refine .rsl _ es b off cap (fun i j => (w.cell? ⟨b, off + i * P.cellsOf e + j, none⟩).getD undef) (by omega) ⟨hblk, fun h => h⟩ (fun x hx => (hes x hx).1) (fun i j hi hj => ?_) (fun i j hi hj => ?_)
                · obtain ⟨v, e1, _⟩ := hcell i j (by omega) hj
                  rw [hadd] at e1
                  simp [e1]
                · obtain ⟨v, e1, e2⟩ := hcell i j (by omega) hj
                  rw [hadd] at e1
                  simpa [e1] using e2
          · cases h
      case struct fs =>
        obtain ⟨hk1, hk2, hk3⟩ := kid_struct hl ht hu
        unfold DataW.trod at h
        rw [hu] at h
        dsimp only at h
        split at h
        · rename_i hlen
          cases hm : (fs.toList.mapM fun f => DataW.trod enc P w 0 (fun _ => true) true n f.type ((cs.drop f.offset).take (P.cellsOf f.type))) with
          | none => rw [hm] at h; simp at h
          | some xs =>
            have h2 := yh0 hm
            have h3 : ∃ parts : List (List AV), F2 (fun (fl : Field) p => (p.length = P.cellsOf fl.type ∧ Fit P n fl.type p) ∧ Match w p ((cs.drop fl.offset).take (P.cellsOf fl.type))) fs.toList parts := by
              have hall : ∀ f ∈ fs.toList, f.type < P.types.size ∧ f.offset + P.cellsOf f.type ≤ cs.length := fun f hf => by
                refine ⟨hk1 f hf, ?_⟩
                obtain ⟨j, hj, rfl⟩ := List.mem_iff_getElem.1 hf
                have h5 := hk3 j fs.toList[j] (List.getElem?_eq_getElem hj)
                rw [h5, hlen, hk2]
                have h6 : (fs.toList.map fun f => P.cellsOf f.type).sum = ((fs.toList.take j).map fun f => P.cellsOf f.type).sum + ((fs.toList.drop j).map fun f => P.cellsOf f.type).sum := by
                  rw [← List.sum_append, ← List.map_append, List.take_append_drop]
                rw [h6, List.drop_eq_getElem_cons hj]
                simp
              clear hm h hk1 hk2 hk3
              generalize fs.toList = l at h2 hall
              induction h2 with
              | nil => exact ⟨[], .nil⟩
              | cons h1 t ih2 =>
                rename_i f y l' r'
                obtain ⟨parts, hp⟩ := ih2 fun f hf => hall f (List.mem_cons_of_mem _ hf)
                obtain ⟨g1, g2⟩ := hall f (List.mem_cons_self ..)
                obtain ⟨avs, k1, k2⟩ := ih _ _ _ g1 h1
                exact ⟨avs :: parts, .cons ⟨⟨by rw [k2.1]; simp; omega, k1⟩, k2⟩ hp⟩
            obtain ⟨parts, hp⟩ := h3
            refine ⟨parts.flatten, by unfold Fit; rw [hu]; exact ⟨parts, rfl, ygz (fun _ _ h => h.1) hp⟩, ?_⟩
            have h4 := yez hp
            rw [yh1 cs fs.toList 0 (fun j f hj => by simpa using hk3 j f hj)] at h4
            rw [← hk2, ← hlen] at h4
            simpa using h4
        · cases h
      case array m e =>
        obtain ⟨he, hsz⟩ := kid_array hl ht hu
        unfold DataW.trod at h
        rw [hu] at h
        dsimp only at h
        split at h
        · rename_i hlen
          cases hm : ((List.range m).mapM fun i => DataW.trod enc P w 0 (fun _ => true) true n e ((cs.drop (i * P.cellsOf e)).take (P.cellsOf e))) with
          | none => rw [hm] at h; simp at h
          | some xs =>
            have h2 := yh0 hm
            have h3 : ∃ parts : List (List AV), F2 (fun (i : Nat) p => (p.length = P.cellsOf e ∧ Fit P n e p) ∧ Match w p ((cs.drop (i * P.cellsOf e)).take (P.cellsOf e))) (List.range m) parts := by
              have hall : ∀ i ∈ List.range m, (i + 1) * P.cellsOf e ≤ cs.length := fun i hi => by
                rw [hlen, hsz]
                exact Nat.mul_le_mul_right _ (by have := List.mem_range.1 hi; omega)
              clear hm h hsz
              generalize List.range m = l at h2 hall
              induction h2 with
              | nil => exact ⟨[], .nil⟩
              | cons h1 t ih2 =>
                rename_i i y l' r'
                obtain ⟨parts, hp⟩ := ih2 fun f hf => hall f (List.mem_cons_of_mem _ hf)
                have g2 := hall i (List.mem_cons_self ..)
                obtain ⟨avs, k1, k2⟩ := ih _ _ _ he h1
                rw [Nat.succ_mul] at g2
                exact ⟨avs :: parts, .cons ⟨⟨by rw [k2.1]; simp; omega, k1⟩, k2⟩ hp⟩
            obtain ⟨parts, hp⟩ := h3
            refine ⟨parts.flatten, by unfold Fit; rw [hu]; exact ⟨parts, rfl, by have := ykt hp; simpa using this.symm, yh2 (fun _ _ h => h.1) hp⟩, ?_⟩
            have h4 := yez (g := fun i => (cs.drop (i * P.cellsOf e)).take (P.cellsOf e)) hp
            rw [yi9, ← hsz, ← hlen] at h4
            simpa using h4
        · cases h

end Go.AM

/- A law's contract out of a contract over pure trees. -/
namespace Go.AM
open Go.RowKit Go.WideShapes Go.ChangeShapes

def aggT (P : Program) (t : TypeId) : Bool :=
  match P.underlying t with
  | some (.struct _) | some (.array _ _) => true
  | _ => false
def supT (P : Program) (t : TypeId) : Bool :=
  match P.underlying t with
  | some .bool | some (.int _) | some .string | some (.slice _) | some (.struct _) | some (.array _ _) => true
  | _ => false
def yo2 (P : Program) (t : TypeId) (avs : List AV) : AV := if aggT P t then .agg avs else avs.getD 0 .any
def ygk (P : Program) : List TypeId → List (List AV) → List AV
  | t :: ts, a :: avs => yo2 P t a :: ygk P ts avs
  | _, _ => []

theorem match_arg {P : Program} {w : World} {t : TypeId} {v : Value} {avs : List AV} {base : Nat} (hs : supT P t = true) (hok : Value.okWide P w .any base t v) (h : Match w avs v.cells.toList) : RelP (immW w) w (yo2 P t avs) v := by
  have hone : (∀ cs, v ≠ .agg cs) → aggT P t = false → RelP (immW w) w (yo2 P t avs) v := fun hv ha => by
    have hc : v.cells.toList = [v] := by
      cases v <;> first | rfl | exact absurd rfl (hv _)
    rw [hc] at h
    unfold yo2
    rw [ha]
    exact h.2 0 (by rw [h.1]; simp)
  have hagg : (∃ cs, v = .agg cs) → aggT P t = true → RelP (immW w) w (yo2 P t avs) v := fun ⟨cs, e⟩ ha => by
    subst e
    unfold yo2
    rw [ha]
    obtain ⟨l⟩ := cs
    exact .agg _ _ h.1 h.2
  cases hu : P.underlying t with
  | none => simp [supT, hu] at hs
  | some d =>
    cases d <;> first | (simp [supT, hu] at hs; done) | skip
    case bool => obtain ⟨b, rfl⟩ := okWide_bool hu hok; exact hone (by simp) (by simp [aggT, hu])
    case int => obtain ⟨b, rfl⟩ := okWide_int hu hok; exact hone (by simp) (by simp [aggT, hu])
    case string => obtain ⟨b, rfl⟩ := okWide_string hu hok; exact hone (by simp) (by simp [aggT, hu])
    case slice => obtain ⟨b, _, _, rfl⟩ := okWide_slice hu hok; exact hone (by simp) (by simp [aggT, hu])
    case struct => obtain ⟨cs, rfl, _⟩ := okWide_struct hu hok; exact hagg ⟨_, rfl⟩ (by simp [aggT, hu])
    case array =>
      unfold Value.okWide at hok
      rw [hu] at hok
      obtain ⟨cs, rfl, _⟩ := hok
      exact hagg ⟨_, rfl⟩ (by simp [aggT, hu])

theorem yll {H : Type} {enc : TypeId × Value → H} {P : Program} {w : World} {base : Nat} (hl : laidOutB P = true) : ∀ {ts : List TypeId} {vs : List Value} {ds : List (DataW H)} {ps : List MemPlace}, (∀ t ∈ ts, t < P.types.size ∧ supT P t = true) →
    (∀ (j : Nat) t v, ts[j]? = some t → vs[j]? = some v → Value.okWide P w .any base t v) → DataW.TrodAll enc P w 0 (fun _ => true) true ts vs ds ps →
    ∃ ass, F2 (fun t avs => ∃ n, Fit P n t avs) ts ass ∧ (ygk P ts ass).length = vs.length ∧ ∀ i, i < vs.length → RelP (immW w) w ((ygk P ts ass).getD i .any) (vs.getD i undef)
  | [], vs, ds, ps, _, _, h => by
    obtain ⟨rfl, _, _⟩ := trodAll_nil h
    exact ⟨[], .nil, rfl, by simp⟩
  | t :: ts, vs, ds, ps, hts, hv, h => by
    obtain ⟨v, vs', d, ds', p, q, rfl, rfl, rfl, ⟨n, h1⟩, h2⟩ := trodAll_cons h
    obtain ⟨avs, k1, k2⟩ := fit_of_trod hl n t _ _ (hts t (List.mem_cons_self ..)).1 h1
    obtain ⟨ass, j1, j2, j3⟩ := yll hl (fun t ht => hts t (List.mem_cons_of_mem _ ht)) (fun j t v e1 e2 => hv (j + 1) t v (by simpa using e1) (by simpa using e2)) h2
    refine ⟨avs :: ass, .cons ⟨n, k1⟩ j1, by simp [ygk, j2], fun i hi => ?_⟩
    cases i with
    | zero => simpa [ygk] using match_arg (hts t (List.mem_cons_self ..)).2 (hv 0 t v rfl rfl) k2
    | succ i => simpa [ygk] using j3 i (by simpa using hi)

theorem Ext.below {w w' : World} (h : Ext (fun _ => False) w w') : Below w.heap.size w w' := ⟨h.os, h.tape, h.output, h.size, fun k hk => h.block k hk fun e => e⟩

theorem yh3 {H : Type} {enc : TypeId × Value → H} {P : Program} {W W' : World} (hl : laidOutB P = true) (hb : Below W.heap.size W W') {sp : Nat → Bool} : ∀ {ts : List TypeId} {vs : List Value} {ds : List (DataW H)} {ps : List MemPlace},
    (∀ t ∈ ts, t < P.types.size ∧ P.readableRec t = true) → DataW.TrodAll enc P W 0 (fun _ => true) true ts vs ds ps → (∀ p ∈ ps, p.block < W.heap.size ∧ sp p.block = true) → DataW.TrodAll enc P W' 0 sp true ts vs ds ps
  | [], vs, ds, ps, _, h, _ => by
    obtain ⟨rfl, rfl, rfl⟩ := trodAll_nil h
    rfl
  | t :: ts, vs, ds, ps, hts, h, hp => by
    obtain ⟨v, vs', d, ds', p, q, rfl, rfl, rfl, h1, h2⟩ := trodAll_cons h
    obtain ⟨g1, g2⟩ := hts t (List.mem_cons_self ..)
    exact ⟨p, q, WideElems.Trod_stays hl g2 g1 h1 (fun x hx => hb.same (hp x (List.mem_append_left _ hx)).1) (fun x hx => (hp x (List.mem_append_left _ hx)).2),
      yh3 hl hb (fun t ht => hts t (List.mem_cons_of_mem _ ht)) h2 (fun x hx => hp x (List.mem_append_right _ hx)), rfl⟩

theorem yku {H : Type} {enc : TypeId × Value → H} {P : Program} {w : World} {b : Nat} {sp : Nat → Bool} {hd : Bool} : ∀ {ts : List TypeId} {vs : List Value} {ds : List (DataW H)} {ps : List MemPlace}, DataW.TrodAll enc P w b sp hd ts vs ds ps → vs.length = ts.length ∧ ds.length = ts.length
  | [], vs, ds, ps, h => by
    obtain ⟨rfl, rfl, rfl⟩ := trodAll_nil h
    exact ⟨rfl, rfl⟩
  | t :: ts, vs, ds, ps, h => by
    obtain ⟨v, vs', d, ds', p, q, rfl, rfl, rfl, _, h2⟩ := trodAll_cons h
    have := yku h2
    exact ⟨by simp [this.1], by simp [this.2]⟩

/-- What the form asks of a law's call, out of a contract over pure trees. -/
theorem law_contract {H : Type} {enc : TypeId × Value → H} {P : Program} {fn : Func} {f : FuncId} {s : ChangeSpec} (hl : laidOutB P = true) {ts : List TypeId} {T : TypeId} (hps : fn.params.toList = ts) (hrs : fn.resultTypes = #[T]) (hT : P.underlying T = some .bool)
    (hts : ts.all (fun t => decide (t < P.types.size) && supT P t && P.readableRec t) = true) (hvars : s.vars = []) (hs : ∀ ds : List (DataW H), ds.length = ts.length → s.fn H ds = { results := [.lit (.bool true)], args := ds })
    (hread : ∀ ass, F2 (fun t avs => ∃ n, Fit P n t avs) ts ass → Reads P f false (ygk P ts ass) (.bool true))
    {W : World} {base : Nat} {args : Array Value} {ds gs : List (DataW H)} {before : List MemPlace} (hval : ∀ (j : Nat) t v, fn.params[j]? = some t → args[j]? = some v → Value.okWide P W .any base t v)
    (hW : DataW.Whole enc P fn.params.toList s.vars false W args.toList ds gs before) (hgl : GL (immF W fun _ => False) W) :
    Calls P f args W fun e W' => ∃ v, e = .returned v ∧ s.post enc P fn false true false false W args v W' := by
  have hts' : ∀ t ∈ ts, t < P.types.size ∧ supT P t = true ∧ P.readableRec t = true := fun t ht => by
    have := List.all_eq_true.1 hts t ht
    simpa [and_assoc] using this
  have hW' := hW
  obtain ⟨p, q, hA, hV, rfl, hfz, hnd⟩ := hW
  rw [hvars] at hV
  obtain ⟨rfl, rfl⟩ := trodVars_none hV
  rw [hps] at hA
  obtain ⟨hl1, hl2⟩ := yku hA
  obtain ⟨ass, j1, j2, j3⟩ := yll hl (fun t ht => ⟨(hts' t ht).1, (hts' t ht).2.1⟩) (fun j t v e1 e2 => hval j t v (by rw [← hps] at e1; simpa using e1) (by simpa using e2)) hA
  have hc := hread ass j1 W (fun _ => False) args.toList (fun _ h => h.elim) hgl j2.symm (fun i hi => j3 i (by omega))
  rw [show args.toList.toArray = args by simp] at hc
  refine hc.mono fun e W' ⟨u, h1, h2, h3⟩ => ⟨u, h1, ?_⟩
  have hu : u = .bool true := by cases h3; rfl
  subst hu
  have hb := h2.below
  have hlt : ∀ x ∈ p, x.block < W.heap.size := fun x hx => hW'.lt x (by simpa using hx)
  have hsf := hs ds hl2
  have hres : ∀ (b : Nat) (sp : Nat → Bool) (hd : Bool), DataW.TrodAll enc P W' b sp hd fn.resultTypes.toList ((Value.bool true).resultList fn.resultTypes.size) (s.fn H (ds ++ [])).results [] := fun b sp hd => by
    rw [hrs, List.append_nil, hsf]
    exact trodAll_mk1 (shut_bool hT true)
  have hargs : ∀ sp : Nat → Bool, (∀ x ∈ p, sp x.block = true) → DataW.TrodAll enc P W' 0 sp true fn.params.toList args.toList (s.fn H (ds ++ [])).args p := fun sp hsp => by
    rw [List.append_nil, hsf, hps]
    exact yh3 hl hb (fun t ht => ⟨(hts' t ht).1, (hts' t ht).2.2⟩) hA fun x hx => ⟨hlt x hx, hsp x hx⟩
  have hvs : ∀ sp : Nat → Bool, DataW.TrodVars enc P W' sp s.vars (s.fn H (ds ++ [])).vars [] := fun sp => by
    rw [List.append_nil, hsf, hvars]; rfl
  refine ⟨ds, [], p ++ [], [], p, [], hW', hres _ _ _, hargs _ (fun x hx => by simpa using hlt x hx), hvs _, World.keptBut_mono (fun x hx => ⟨hx, ?_⟩) (hb.frame (· ∈ p ++ [])), fun _ => ?_⟩
  · simpa using hx
  · refine ⟨ok_one hrs rfl (okWide_bool_mk hT _), _, _, ([] ++ p) ++ [], ⟨[] ++ p, [], trodAll_append (hargs _ (fun _ _ => rfl)) (hres _ _ _), hvs _, rfl, ?_, ?_⟩, ?_⟩
    · intro b off hp
      have hin : MemPlace.cell b off ∈ p := by simpa using hp
      rw [hb.frozen (hlt _ hin)]
      exact hfz b off (by simpa using hin)
    · intro ha; cases ha
    · intro x hx _
      simpa using hx

end Go.AM

/- The shapes of arguments. -/
namespace Go.AM
theorem yo3 {P : Program} {t : TypeId} {k : IntKind} (hu : P.underlying t = some (.int k)) {f : Nat} {x : List AV} (h : Fit P f t x) : ∃ n, x = [.int k n] ∧ k.min ≤ n ∧ n ≤ k.max := by
  cases f with
  | zero => exact h.elim
  | succ f => unfold Fit at h; rw [hu] at h; exact h
theorem ykv {P : Program} {t e : TypeId} {m : Nat} (hu : P.underlying t = some (.slice e)) (hm : P.cellsOf e = m) (h0 : m ≠ 0) {f : Nat} {x : List AV} (h : Fit P f t x) : ∃ es f', x = [.rsl m es] ∧ es.length ≤ maxLen ∧ ∀ y ∈ es, Fit P f' e y := by
  cases f with
  | zero => exact h.elim
  | succ f =>
    unfold Fit at h; rw [hu] at h
    rcases h with h | ⟨es, h1, h2, h3⟩
    · exact absurd (hm ▸ h) h0
    · rw [hm] at h1; exact ⟨es, f, h1, h2, fun y hy => (h3 y hy).2⟩
theorem ylm {P : Program} {t : TypeId} {fs : Array Field} (hu : P.underlying t = some (.struct fs)) {f : Nat} {x : List AV} (h : Fit P f t x) : ∃ f' parts, x = List.flatten parts ∧ F2 (fun (fl : Field) p => Fit P f' fl.type p) fs.toList parts := by
  cases f with
  | zero => exact h.elim
  | succ f =>
    unfold Fit at h; rw [hu] at h
    obtain ⟨parts, h1, h2⟩ := h
    exact ⟨f, parts, h1, ygz (fun _ _ h => h.2) h2⟩
theorem F2.two {α β : Type} {R : α → β → Prop} {a b : α} {l : List β} (h : F2 R [a, b] l) : ∃ x y, l = [x, y] ∧ R a x ∧ R b y := by
  cases h with | cons h1 t => cases t with | cons h2 t => cases t with | nil => exact ⟨_, _, rfl, h1, h2⟩
theorem F2.three {α β : Type} {R : α → β → Prop} {a b c : α} {l : List β} (h : F2 R [a, b, c] l) : ∃ x y z, l = [x, y, z] ∧ R a x ∧ R b y ∧ R c z := by
  cases h with | cons h1 t => cases t with | cons h2 t => cases t with | cons h3 t => cases t with | nil => exact ⟨_, _, _, rfl, h1, h2, h3⟩
theorem ye0 {α β : Type} {f : α → β} {p : α → Prop} : ∀ {l : List β}, (∀ x ∈ l, ∃ a, x = f a ∧ p a) → ∃ m : List α, l = m.map f ∧ ∀ a ∈ m, p a
  | [], _ => ⟨[], rfl, fun _ h => by cases h⟩
  | x :: l, h => by
    obtain ⟨a, rfl, ha⟩ := h x (List.mem_cons_self ..)
    obtain ⟨m, rfl, hm⟩ := ye0 fun y hy => h y (List.mem_cons_of_mem _ hy)
    exact ⟨a :: m, rfl, fun b hb => by rcases List.mem_cons.1 hb with rfl | hb; exact ha; exact hm b hb⟩
theorem okW_of {W : List Int} (h : ∀ w ∈ W, 0 ≤ w ∧ w ≤ 18446744073709551615) : okW W := fun i => by
  by_cases hi : i < W.length
  · have := h _ (yb1 hi 0); omega
  · rw [List.getD_eq_getElem?_getD, List.getElem?_eq_none (by omega)]; simp
end Go.AM

/- A laid table, as the machine's package variable. -/
namespace Go.AM
theorem rptr_of_laid {P : Program} {n : String} {g : Nat} {t e : TypeId} {k : IntKind} {L : List Int} {W : World} (hg : P.globalNamed n = some g) (ht : (P.globals[g]?).map (·.type) = some t) (hu : P.underlying t = some (.array L.length e))
    (hc : P.cellsOf e = 1) (hc2 : P.cellsOf t = L.length) (hu2 : P.underlying e = some (.int k)) (hL : L ≠ []) (h : laidMet P [(n, .agg (L.map fun i => .lit (.int k i)))] W) : RelP (immF W fun _ => False) W (.rptr (L.map (AV.int k))) (.pointer (some ⟨g, 0, none⟩)) := by
  obtain ⟨ps, ⟨g0, t0, cs0, f0, p0, q0, hg0, ht0, hv0, hd0, _, _⟩, _, _⟩ := h
  obtain rfl := Option.some.inj (hg.symm.trans hg0)
  obtain rfl := Option.some.inj (ht.symm.trans ht0)
  obtain ⟨xs, m, rfl, hx, hlen, hn, hel⟩ := DataW.trod_array hu hd0
  have hcell : ∀ j, j < L.length → W.cell? ⟨g, j, none⟩ = some (.int k (L.getD j 0)) := fun j hj => by
    have h0 := hel j hj
    rw [hc, Nat.mul_one] at h0
    have hjx : j < xs.length := by omega
    rw [List.getElem?_eq_getElem hjx] at h0
    obtain ⟨z, e1, e2, _⟩ := DataW.trod_int hu2 h0
    have hxs : xs.map (·.1) = L.map fun i => .lit (.int k i) := by
      simp only [Prod.mk.injEq, DataW.agg.injEq] at hx
      exact hx.1.symm
    have hzj : (xs.map (·.1))[j]? = (L.map fun i => (.lit (.int k i) : DataW Unit))[j]? := by rw [hxs]
    rw [List.getElem?_map, List.getElem?_map, List.getElem?_eq_getElem hjx, List.getElem?_eq_getElem hj, e2] at hzj
    simp only [Option.map_some, Option.some.injEq, DataW.lit.injEq, Lit.int.injEq] at hzj
    have hz : z = L.getD j 0 := by rw [hzj.2]; simp [List.getD_eq_getElem?_getD, hj]
    have hcs : cs0[j]? = some (.int k z) := by
      have hl : cs0.toList.length = L.length := by rw [hlen, hc2]
      have hd : cs0.toList.drop j = cs0.toList[j]'(by omega) :: cs0.toList.drop (j + 1) := List.drop_eq_getElem_cons (by omega)
      rw [hd] at e1
      simp only [List.take_succ_cons, List.take_zero, List.cons.injEq, and_true] at e1
      rw [← Array.getElem?_toList, List.getElem?_eq_getElem (by omega), e1]
    rw [World.var?_cell hg hv0 j, hcs, hz]
  have hlt : g < W.heap.size := by
    cases L with
    | nil => exact absurd rfl hL
    | cons a l =>
      have := hcell 0 (by simp)
      unfold World.cell? at this
      cases hh : W.heap[g]? with
      | none => simp [hh] at this
      | some o => exact ycf hh
  refine .rptr _ g 0 (fun j => .int k (L.getD j 0)) ⟨hlt, fun h => h⟩ (fun j hj => ?_) (fun j hj => ?_)
  · rw [List.length_map] at hj
    rw [Nat.zero_add]
    exact hcell j hj
  · rw [List.length_map] at hj
    have e : (L.map (AV.int k)).getD j .any = .int k (L.getD j 0) := by simp [List.getD_eq_getElem?_getD, hj]
    rw [e]
    exact .int _ _
theorem laidMet_of_H {P : Program} {n : String} {k : IntKind} {L : List Int} {W : World} (h : laidMetH P [(n, .agg (L.map fun i => .lit (.int k i)))] W) : laidMet P [(n, .agg (L.map fun i => .lit (.int k i)))] W := by
  rw [MakeChecks.laidMetH_plain _ _ _ (by rfl)] at h
  exact h
end Go.AM

/- The shapes of the width laws' arguments. -/
namespace Go.AM
open Go.Proofs
theorem fit_words {f : Nat} {x : List AV} (h : Fit Tryd.prog f 25 x) : ∃ W : List Int, x = [.rsl 1 (words W)] ∧ W.length ≤ 9223372036854775807 ∧ okW W := by
  obtain ⟨es, f2, rfl, h5, h6⟩ := ykv (m := 1) Tryd.underlying25 (by kernel_rfl) (by decide) h
  obtain ⟨ws, rfl, hw⟩ := ye0 (f := fun x : Int => [AV.int .u64 x]) (p := fun w => 0 ≤ w ∧ w ≤ 18446744073709551615) fun y hy => by
    obtain ⟨n, e, h1, h2⟩ := yo3 Tryd.underlying60 (h6 y hy)
    exact ⟨n, e, by simpa [IntKind.min, IntKind.signed] using h1, by simpa [IntKind.max, IntKind.signed, IntKind.bits] using h2⟩
  exact ⟨ws, rfl, by simpa [maxLen] using h5, okW_of hw⟩
theorem yr7 {f : Nat} {x : List AV} (h : Fit Tryd.prog f 27 x) : ∃ y : USet, x = rowV y ∧ y.W.length ≤ 9223372036854775807 ∧ okW y.W := by
  obtain ⟨f', parts, rfl, h2⟩ := ylm Tryd.underlying27 h
  obtain ⟨a, b, rfl, h3, h4⟩ := F2.two h2
  obtain ⟨i, rfl, _⟩ := yo3 Tryd.underlying3 h3
  obtain ⟨W, rfl, h5, h6⟩ := fit_words h4
  exact ⟨⟨i, W⟩, rfl, h5, h6⟩
theorem F2.one {α β : Type} {R : α → β → Prop} {a : α} {l : List β} (h : F2 R [a] l) : ∃ x, l = [x] ∧ R a x := by
  cases h with | cons h1 t => cases t with | nil => exact ⟨_, rfl, h1⟩
theorem fit_rel {f : Nat} {x : List AV} (h : Fit Tryd.prog f 24 x) : ∃ rs : List USet, x = [.rsl 2 (rs.map rowV)] ∧ (rs.length ≤ 9223372036854775807 ∧ ∀ y ∈ rs, y.W.length ≤ 9223372036854775807) ∧ ∀ y ∈ rs, okW y.W := by
  obtain ⟨f', parts, rfl, h2⟩ := ylm Tryd.underlying24 h
  obtain ⟨a, rfl, h3⟩ := F2.one h2
  obtain ⟨es, f2, rfl, h5, h6⟩ := ykv (m := 2) Tryd.underlying22 (by kernel_rfl) (by decide) h3
  obtain ⟨rs, rfl, hr⟩ := ye0 (f := rowV) (p := fun y => y.W.length ≤ 9223372036854775807 ∧ okW y.W) fun y hy => yr7 (h6 y hy)
  exact ⟨rs, rfl, ⟨by simpa [maxLen] using h5, fun y hy => (hr y hy).1⟩, fun y hy => (hr y hy).2⟩
theorem fit_ints {f : Nat} {x : List AV} (h : Fit Tryd.prog f 37 x) : ∃ l : List Int, x = [.rsl 1 (ints l)] ∧ l.length ≤ 9223372036854775807 := by
  obtain ⟨es, f2, rfl, h5, h6⟩ := ykv (m := 1) Tryd.underlying37 (by kernel_rfl) (by decide) h
  obtain ⟨l, rfl, _⟩ := ye0 (f := fun x : Int => [AV.int .i64 x]) (p := fun _ => True) fun y hy => by
    obtain ⟨n, e, _⟩ := yo3 Tryd.underlying3 (h6 y hy)
    exact ⟨n, e, trivial⟩
  exact ⟨l, rfl, by simpa [maxLen] using h5⟩
theorem pgl {W : World} (h : laidMetH Tryd.prog [("math/bits.deBruijn64tab", .agg (tzTab.map fun i => .lit (.int .u8 i)))] W) : GL (immF W fun _ => False) W := fun g cs e => by
  cases g with
  | zero =>
    rw [ynw] at e
    obtain rfl := Option.some.inj e
    exact rptr_of_laid (L := tzTab) (by kernel_rfl : Tryd.prog.globalNamed "math/bits.deBruijn64tab" = some 0) (by kernel_rfl : (Tryd.prog.globals[0]?).map (·.type) = some 108) (e := 5) Tryd.underlying108 (by kernel_rfl) (by kernel_rfl) Tryd.underlying5 (by decide) (laidMet_of_H h)
  | succ g => cases e
theorem pmet (os : Os) (args : Array Value) : laidMetH Tryd.prog [("math/bits.deBruijn64tab", .agg (tzTab.map fun i => .lit (.int .u8 i)))] ((World.doorLaid Tryd.prog 400 os).forCall (fun _ _ => 0) ⟨#[], args, []⟩).memory :=
  laidMetH_of_parts3 (fuel := 8) (laidMet_of_run' 8 (by kernel_rfl) (by kernel_rfl)) (by kernel_rfl) (by kernel_rfl)
end Go.AM

