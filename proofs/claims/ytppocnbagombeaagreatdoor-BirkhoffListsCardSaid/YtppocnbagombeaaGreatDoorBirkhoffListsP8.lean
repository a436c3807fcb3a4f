/- Lemmas and contracts, part 8: an abstract machine over the model, and the functions that the statement reaches. -/
import Derived.Test.YtppocnbagombeaaGreatDoorBirkhoffListsP7
import Derived.MakeChecks
import Derived.LaidMore
import Derived.Test.YtppocnbagombeaaGreatDoorRows
set_option linter.unusedVariables false
set_option linter.unusedSimpArgs false
open Nat renaming reduceAdd → zA, reduceMul → zM, reduceEqDiff → zE, reduceLT → zL, reduceLeDiff → zD, reduceSub → zS, reducePow → zP, reduceBEq → zB
open Int renaming reduceToNat → zI
open List renaming reduceReplicate → zR
namespace Go.Proofs.B
open Go.AM Go
set_option maxRecDepth 100000
set_option maxHeartbeats 4000000
def ymf (x : USet) : Bool := decide ((20 : Int) < x.W.length)
theorem great1_r (x : USet) (hx : x.W.length ≤ 9223372036854775807) : Reads Tryz.prog 48 false [.agg (rowV x)] (.bool (ymf x)) := by
 unfold rowV
 refine Reads.body (rs := [.tmp 2]) Tryz.func48 rfl Tryz.ntmps48 rfl (by simp) ?_
 generalize hQr : retQ _ _ _ = Qr
 refine AW.sg [1] [1] trivial ?_
 refine AW.sg [2] [] trivial ?_
 rw [← hQr]
 refine AW.rt trivial ?_
 exact Wk.refl _
theorem ixg_r (rs : List USet) (hl : yme rs) : Reads Tryz.prog 29 false [.rsl 2 (rs.map rowV), .fn 48 []] (.int .i64 (ixf ymf rs)) := by
 have hbp := fun x hxm => great1_r x (hl.2 x hxm)
 have hl1 := hl.1
 refine Reads.body (rs := [.tmp 4]) Tryz.func29 rfl Tryz.ntmps29 rfl (by simp) ?_
 generalize hQr : retQ _ _ _ = Qr
 refine AW.sg [0,1] [] trivial ?_
 refine AW.seq fun K1 hK1 => ?_
 refine AW.sg [0,1,7,8] [] trivial ?_
 refine AW.block ?_
 refine AW.loopE (fun mm ee ss kk => ∃ (j : Nat), rs.length - j = mm ∧ ee = [(0, .rsl 2 (rs.map rowV)), (1, .fn 48 []), (7, .int .i64 rs.length), (8, .int .i64 (j : Nat))] ∧ ss = [] ∧ (j ≤ rs.length ∧ (rs.take j).any ymf = false)) ?_ ?_
 ·exact ⟨_, 0, rfl, eD, eD, eT⟩
 rintro mm ee ss kk ⟨j, rfl, rfl, rfl, hI⟩
 generalize hQl1 : ya1 _ _ = Ql1
 obtain ⟨hj, hall⟩ := hI
 refine AW.sg [0,1,7,8,9] [] trivial ?_
 refine AW.seq fun K2 hK2 => ?_
 refine AW.cn ?_ ?_
 ·intro hb
  obtain ⟨x, hx⟩ := getI (l := rs) (j := j) (by omega)
  have hgx := getV (f := rowV) hx
  have hats := ycp (p := ymf) hx
  have hbx := hbp x (List.mem_of_getElem? hx)
  refine AW.skip ?_
  refine hK2 _ _ _ ?_; clear hK2
  refine AW.seq fun K3 hK3 => ?_
  refine AW.block ?_
  refine AW.sg [0,1,5,7,8] [] trivial ?_
  refine AW.so 0 (fun ii => if ii = 5 then some (.reads false (.bool (ymf x))) else none) [0,1,5,7,8,16] [] (e2 @hgx @rowV.eq_1) ?_
  repeat with_reducible refine cj ?_ ?_
  all_goals try first | (exact hbx) | omega | exact ent (by kernel_rfl)
  refine AW.cn ?_ ?_
  ·intro hb
   refine AW.sg [4] [] trivial ?_
   rw [← hQl1, ← hQr]
   refine AW.rt trivial ?_
   exact Wk.of_eq (by rw [ymu hx hb hall])
  ·intro hb
   refine AW.skip ?_
   refine hK3 _ _ _ ?_; clear hK3
   refine AW.rg [0,1,7,8] [] trivial ?_
   rw [← hQl1]; change Exists _
   exact ⟨_, eO, j + 1, rfl, eD, eD, (⟨by omega, by rw [hats, hall, hb]; rfl⟩)⟩
 ·intro hb
  refine AW.kx [] [] ?_
  rw [← hQl1]
  refine hK1 _ _ _ ?_; clear hK1
  refine AW.sg [4] [] trivial ?_
  rw [← hQr]
  refine AW.rt trivial ?_
  exact Wk.of_eq (by rw [List.take_of_length_le (by omega)] at hall; rw [ygm hall])
theorem ctg_r (rs : List USet) (hl : yme rs) : Reads Tryz.prog 47 false [.rsl 2 (rs.map rowV), .fn 48 []] (.bool (rs.any ymf)) := by
 have h := ixg_r rs hl
 have hge := ypg ymf rs
 refine Reads.body (rs := [.tmp 4]) Tryz.func47 rfl Tryz.ntmps47 rfl (by simp) ?_
 generalize hQr : retQ _ _ _ = Qr
 refine AW.sg [0,1] [] trivial ?_
 refine AW.so 0 (fun ii => if ii = 2 then some (.reads false (.int .i64 (ixf ymf rs))) else none) [4] [] trivial ?_
 repeat with_reducible refine cj ?_ ?_
 all_goals try first | (exact h) | omega | exact ent (by kernel_rfl)
 rw [← hQr]
 refine AW.rt trivial ?_
 exact Wk.of_eq (by rw [hge])
def yg6 (rs : List USet) : Bool := decide ((30 : Int) < rs.length) || rs.any ymf
theorem yjo (rs : List USet) (hl : yme rs) : Reads Tryz.prog 10 false [relV rs] (.bool (yg6 rs)) := by
 have h := Reads.flat (ctg_r rs hl) rfl
 have hl1 := hl.1
 unfold relV
 refine Reads.body (rs := [.tmp 2]) Tryz.func10 rfl Tryz.ntmps10 rfl (by simp) ?_
 generalize hQr : retQ _ _ _ = Qr
 refine AW.sg [1] [1] trivial ?_
 refine AW.so 0 (fun ii => if ii = 7 then some (.reads true (.bool (rs.any ymf))) else none) [2] [] trivial ?_
 repeat with_reducible refine cj ?_ ?_
 all_goals try first | ((intro hh; exact ⟨hh, h⟩)) | (intros; (repeat' apply And.intro) <;> first | assumption | ((intro hh; exact ⟨hh, h⟩))) | omega | exact ent (by kernel_rfl) | (intro hgd; exact absurd hgd (by decide)) | rfl | exact gD | (intro _hgd; simp_all [go_sem]; done)
 rw [← hQr]
 refine AW.rt trivial ?_
 exact Wk.of_eq (by unfold yg6; rfl)
theorem yma (es : List (List AV)) (v : Bool) (h : Reads Tryz.prog 49 false [.agg [.rsl 2 es]] (.bool v)) : Reads Tryz.prog 11 false [.agg [.rsl 2 es]] (.bool v) := by
 refine Reads.body (rs := [.tmp 2]) Tryz.func11 rfl Tryz.ntmps11 rfl (by simp) ?_
 generalize hQr : retQ _ _ _ = Qr
 refine AW.sg [1] [1] trivial ?_
 refine AW.so 0 (fun ii => if ii = 1 then some (.reads false (.bool v)) else none) [2] [] trivial ?_
 repeat with_reducible refine cj ?_ ?_
 all_goals try first | (exact h) | omega | exact ent (by kernel_rfl)
 rw [← hQr]
 refine AW.rt trivial ?_
 exact Wk.refl _
theorem leq_r (n : Nat) (t : List (List Bool)) (hs : Sq n t) (hn : n ≤ 512) (i x : Nat) (hi : i < n) (hx : x < n) : Reads Tryz.prog 74 false [.rsl 1 (rowsR t), .int .i64 (i : Nat), .int .i64 (x : Nat)] (.bool (lq t i x)) := by
 have hrl := ybp t
 have hsl := hs.len
 have hg := yb2 (t := t) (i := i) (by omega)
 have hri := hs.rowLen hi
 have hgx := ybm (l := rowT t i) (i := x) (by omega)
 have hid : decide ((i : Int) = (x : Int)) = decide (i = x) := decide_eq_decide.2 (by omega)
 have hlq : lq t i x = (decide (i = x) || (rowT t i).getD x false) := rfl
 generalize rowT t i = r at *
 refine Reads.body (rs := [.tmp 6]) Tryz.func74 rfl Tryz.ntmps74 rfl (by simp) ?_
 generalize hQr : retQ _ _ _ = Qr
 refine AW.sg [0,1,2] [] trivial ?_
 refine AW.sg [6] [] (e3 @hrl @hsl (e5 @hg @hgx @yay @hri @hid)) ?_
 repeat with_reducible refine cj ?_ ?_
 all_goals try first | omega | (intros; (repeat' apply And.intro) <;> first | assumption | omega | decide) | (intro hgd; exact absurd hgd (by decide)) | rfl | (simp only [go_sem, reduceIte, reduceCtorEq, zA, zM, zE, zL, zD, zS, zP, zB, zI, zR, hrl, hsl, hg, hgx, yay, hri, hid]; done) | (intro _hgd; simp_all [go_sem]; done)
 rw [← hQr]
 refine AW.rt trivial ?_
 exact Wk.of_eq (by rw [hlq])
theorem yq3 (n : Nat) (t : List (List Bool)) (hs : Sq n t) (hn : n ≤ 512) (i j : Nat) (hi : i < n) (hj : j < n) : Reads Tryz.prog 42 false [.rsl 1 (rowsR t), .int .i64 (i : Nat), .int .i64 (j : Nat)] (.int .i64 (jnF t n i j)) := by
 have hrl := ybp t
 have hsl := hs.len
 have hq := fun a b ha hb => leq_r n t hs hn a b ha hb
 have hP : ∀ k, jP t n i j k = (lq t i k && lq t j k && jA t i j k n) := fun _ => rfl
 refine Reads.body (rs := [.tmp 6]) Tryz.func42 rfl Tryz.ntmps42 rfl (by simp) ?_
 generalize hQr : retQ _ _ _ = Qr
 refine AW.sg [0,1,2] [] trivial ?_
 refine AW.seq fun K1 hK1 => ?_
 refine AW.sg [0,1,2,7] [] trivial ?_
 refine AW.block ?_
 refine AW.loopE (fun mm ee ss kk => ∃ (k : Nat), n - k = mm ∧ ee = [(0, .rsl 1 (rowsR t)), (1, .int .i64 (i : Nat)), (2, .int .i64 (j : Nat)), (7, .int .i64 (k : Nat))] ∧ ss = [] ∧ (k ≤ n ∧ ((List.range n).take k).any (jP t n i j) = false)) ?_ ?_
 ·exact ⟨_, 0, rfl, eD, eD, eT⟩
 rintro mm ee ss kk ⟨k, rfl, rfl, rfl, hI⟩
 generalize hQl1 : ya1 _ _ = Ql1
 obtain ⟨hk0, hall⟩ := hI
 refine AW.seq fun K2 hK2 => ?_
 refine AW.sg [0,1,2,7,13] [] (e2 @hrl @hsl) ?_
 refine AW.cn ?_ ?_
 ·intro hb
  have hkn : k < n := by omega
  have hrk : (List.range n)[k]? = some k := List.getElem?_range hkn
  have hts := ycp (p := jP t n i j) hrk
  have hik := hq i k hi hkn
  have hjk := hq j k hj hkn
  have hPk := hP k
  refine AW.skip ?_
  refine hK2 _ _ _ ?_; clear hK2
  refine AW.seq fun K3 hK3 => ?_
  refine AW.block ?_
  refine AW.seq fun K4 hK4 => ?_
  refine AW.so 0 (fun ii => if ii = 3 then some (.reads false (.bool (lq t i k))) else if ii = 9 then some (.reads false (.bool (lq t j k))) else none) [0,1,2,7,27] [] trivial ?_
  repeat with_reducible refine cj ?_ ?_
  all_goals try first | (first | exact hik | (intro hh; exact ⟨hh, hjk⟩)) | (intros; (repeat' apply And.intro) <;> first | assumption | (first | exact hik | (intro hh; exact ⟨hh, hjk⟩))) | omega | exact ent (by kernel_rfl) | (intro hgd; exact absurd hgd (by decide)) | rfl | exact gD | (intro _hgd; simp_all [go_sem]; done)
  refine AW.cn ?_ ?_
  ·intro hb
   rw [hall, hPk, show (lq t i k && lq t j k) = false by rcases hb with hb | hb <;> simp [hb], Bool.false_and, Bool.or_false] at hts
   refine AW.kx [0,1,2,7] [] ?_
   refine hK3 _ _ _ ?_; clear hK3
   refine AW.rg [0,1,2,7] [] trivial ?_
   rw [← hQl1]; change Exists _
   exact ⟨_, eO, k + 1, rfl, eD, eD, (⟨by omega, hts⟩)⟩
  ·intro hb
   obtain ⟨hlik, hljk⟩ := hb
   rw [hlik, hljk, Bool.and_self, Bool.true_and] at hPk
   refine AW.skip ?_
   refine hK4 _ _ _ ?_; clear hK4
   refine AW.sg [0,1,2,7,8] [] trivial ?_
   refine AW.seq fun K5 hK5 => ?_
   refine AW.sg [0,1,2,7,8,9] [] trivial ?_
   refine AW.block ?_
   refine AW.loopE (fun mm ee ss kk => ∃ (m : Nat), n - m = mm ∧ ee = [(0, .rsl 1 (rowsR t)), (1, .int .i64 (i : Nat)), (2, .int .i64 (j : Nat)), (7, .int .i64 (k : Nat)), (8, .bool (jA t i j k m)), (9, .int .i64 (m : Nat))] ∧ ss = [] ∧ (m ≤ n)) ?_ ?_
   ·exact ⟨_, 0, rfl, eD, eD, eT⟩
   rintro mm ee ss kk ⟨m, rfl, rfl, rfl, hI⟩
   generalize hQl2 : ya1 _ _ = Ql2
   refine AW.seq fun K6 hK6 => ?_
   refine AW.sg [0,1,2,7,8,9,31] [] (e2 @hrl @hsl) ?_
   refine AW.cn ?_ ?_
   ·intro hb
    have hmn : m < n := by omega
    have him := hq i m hi hmn
    have hjm := hq j m hj hmn
    have hkm := hq k m hkn hmn
    have has := jA_succ t i j k m
    refine AW.skip ?_
    refine hK6 _ _ _ ?_; clear hK6
    refine AW.seq fun K7 hK7 => ?_
    refine AW.block ?_
    refine AW.so 0 (fun ii => if ii = 3 then some (.reads false (.bool (lq t i m))) else if ii = 8 then some (.reads false (.bool (lq t j m))) else if ii = 14 then some (.reads false (.bool (lq t k m))) else none) [0,1,2,7,8,9,50] [] trivial ?_
    repeat with_reducible refine cj ?_ ?_
    all_goals try first | (first | exact him | (intro hh; exact ⟨hh, hjm⟩) | (intro hh; exact ⟨hh, hkm⟩)) | (intros; (repeat' apply And.intro) <;> first | assumption | (first | exact him | (intro hh; exact ⟨hh, hjm⟩) | (intro hh; exact ⟨hh, hkm⟩))) | omega | exact ent (by kernel_rfl) | (intro hgd; exact absurd hgd (by decide)) | rfl | exact gD | (intro _hgd; simp_all [go_sem]; done)
    refine AW.cn ?_ ?_
    ·intro hb
     rw [show (lq t i m && lq t j m && !lq t k m) = true by simp [hb], Bool.not_true, Bool.and_false] at has
     refine AW.rg [0,1,2,7,8,9] [] trivial ?_
     refine hK7 _ _ _ ?_; clear hK7
     refine AW.rg [0,1,2,7,8,9] [] trivial ?_
     rw [← hQl2]; change Exists _
     refine ⟨_, ?hm, m + 1, rfl, ?henv, ?hstore, ?hst⟩
     case henv =>
      repeat' (first | rfl | apply yaa | apply yad | apply yai | apply yae | apply yaj | apply yak | apply yap | apply yal | apply yam | apply yaf | apply yab)
      all_goals (first | (rw [has]; done) | (simp; done) | omega)
     case hstore =>
      repeat' (first | rfl | apply yaa | apply yad | apply yai | apply yae | apply yaj | apply yak | apply yap | apply yal | apply yam | apply yaf | apply yab)
      all_goals (first | (simp; done) | omega | (simp; omega))
     case hst =>
      first | trivial | omega | (simp; done) | (simp; omega)
     case hm => omega
    ·intro hb
     rw [show (lq t i m && lq t j m && !lq t k m) = false by revert hb; cases lq t i m <;> cases lq t j m <;> cases lq t k m <;> simp, Bool.not_false, Bool.and_true] at has
     refine AW.skip ?_
     refine hK7 _ _ _ ?_; clear hK7
     refine AW.rg [0,1,2,7,8,9] [] trivial ?_
     rw [← hQl2]; change Exists _
     refine ⟨_, ?hm, m + 1, rfl, ?henv, ?hstore, ?hst⟩
     case henv =>
      repeat' (first | rfl | apply yaa | apply yad | apply yai | apply yae | apply yaj | apply yak | apply yap | apply yal | apply yam | apply yaf | apply yab)
      all_goals (first | (rw [has]; done) | (simp; done) | omega)
     case hstore =>
      repeat' (first | rfl | apply yaa | apply yad | apply yai | apply yae | apply yaj | apply yak | apply yap | apply yal | apply yam | apply yaf | apply yab)
      all_goals (first | (simp; done) | omega | (simp; omega))
     case hst =>
      first | trivial | omega | (simp; done) | (simp; omega)
     case hm => omega
   ·intro hb
    have hm : m = n := by omega
    subst hm
    refine AW.kx [0,1,2,7,8] [] ?_
    rw [← hQl2]
    refine hK5 _ _ _ ?_; clear hK5
    refine AW.sg [0,1,2,7,51] [] trivial ?_
    refine AW.cn ?_ ?_
    ·intro hb
     refine AW.sg [6] [] trivial ?_
     rw [← hQl1, ← hQr]
     refine AW.rt trivial ?_
     exact Wk.of_eq (by unfold jnF; rw [ymu hrk (by rw [hPk]; exact hb) hall])
    ·intro hb
     rw [hall, hPk, hb, Bool.or_false] at hts
     refine AW.skip ?_
     refine hK3 _ _ _ ?_; clear hK3
     refine AW.rg [0,1,2,7] [] trivial ?_
     rw [← hQl1]; change Exists _
     exact ⟨_, eO, k + 1, rfl, eD, eD, (⟨by omega, hts⟩)⟩
 ·intro hb
  refine AW.kx [] [] ?_
  rw [← hQl1]
  refine hK1 _ _ _ ?_; clear hK1
  refine AW.sg [6] [] trivial ?_
  rw [← hQr]
  refine AW.rt trivial ?_
  exact Wk.of_eq (by unfold jnF; rw [List.take_of_length_le (by rw [List.length_range]; omega)] at hall; rw [ygm hall])
theorem rmeet_r (n : Nat) (t : List (List Bool)) (hs : Sq n t) (hn : n ≤ 512) (i j : Nat) (hi : i < n) (hj : j < n) : Reads Tryz.prog 43 false [.rsl 1 (rowsR t), .int .i64 (i : Nat), .int .i64 (j : Nat)] (.int .i64 (jnF (invT n t) n i j)) := by
 have h1 := (ym9 n t hs hn).old
 have h2 := yq3 n (invT n t) Sq.inv hn i j hi hj
 refine Reads.body (rs := [.tmp 6]) Tryz.func43 rfl Tryz.ntmps43 rfl (by simp) ?_
 generalize hQr : retQ _ _ _ = Qr
 refine AW.sg [0,1,2] [] trivial ?_
 refine AW.so 0 (fun ii => if ii = 1 then some (.reads false (.rsl 1 (rowsR (invT n t)))) else if ii = 4 then some (.reads false (.int .i64 (jnF (invT n t) n i j))) else none) [6] [] trivial ?_
 repeat with_reducible refine cj ?_ ?_
 all_goals try first | (first | exact h1 | exact h2) | omega | exact ent (by kernel_rfl)
 rw [← hQr]
 refine AW.rt trivial ?_
 exact Wk.refl _
theorem ykn (n : Nat) (t : List (List Bool)) (hs : Sq n t) (hn : n ≤ 512) : Reads Tryz.prog 37 false [.rsl 1 (rowsR t)] (.bool (rlB t n)) := by
 have hrl := ybp t
 have hsl := hs.len
 have hjn := fun i j hi hj => yq3 n t hs hn i j hi hj
 have hmt := fun i j hi hj => rmeet_r n t hs hn i j hi hj
 have hno : ∀ i j, i < n → j < i → (jnF t n i j < 0 ∨ jnF (invT n t) n i j < 0) → rlB t n = false := fun i j hi hj h => by
  unfold rlB
  rw [Bool.and_eq_false_iff]
  right
  rw [← Bool.not_eq_true, List.all_eq_true]
  intro hh
  have h1 := List.all_eq_true.1 (hh i (List.mem_range.2 hi)) j (List.mem_range.2 hj)
  rw [Bool.and_eq_true, decide_eq_true_eq, decide_eq_true_eq] at h1
  omega
 refine Reads.body (rs := [.tmp 2]) Tryz.func37 rfl Tryz.ntmps37 rfl (by simp) ?_
 generalize hQr : retQ _ _ _ = Qr
 refine AW.sg [0] [] trivial ?_
 refine AW.seq fun K1 hK1 => ?_
 refine AW.sg [0,3] [] trivial ?_
 refine AW.block ?_
 refine AW.loopE (fun mm ee ss kk => ∃ (i : Nat), n - i = mm ∧ ee = [(0, .rsl 1 (rowsR t)), (3, .int .i64 (i : Nat))] ∧ ss = [] ∧ (i ≤ n ∧ ∀ a, a < i → ∀ b, b < a → 0 ≤ jnF t n a b ∧ 0 ≤ jnF (invT n t) n a b)) ?_ ?_
 ·exact ⟨_, 0, rfl, eD, eD, (⟨by omega, fun a ha => by omega⟩)⟩
 rintro mm ee ss kk ⟨i, rfl, rfl, rfl, hI⟩
 generalize hQl1 : ya1 _ _ = Ql1
 obtain ⟨hi0, hAA⟩ := hI
 refine AW.seq fun K2 hK2 => ?_
 refine AW.sg [0,3,8] [] (e2 @hrl @hsl) ?_
 refine AW.cn ?_ ?_
 ·intro hb
  have hin : i < n := by omega
  refine AW.skip ?_
  refine hK2 _ _ _ ?_; clear hK2
  refine AW.seq fun K3 hK3 => ?_
  refine AW.block ?_
  refine AW.sg [0,3,4] [] trivial ?_
  refine AW.block ?_
  refine AW.loopE (fun mm ee ss kk => ∃ (j : Nat), i - j = mm ∧ ee = [(0, .rsl 1 (rowsR t)), (3, .int .i64 (i : Nat)), (4, .int .i64 (j : Nat))] ∧ ss = [] ∧ (j ≤ i ∧ ∀ b, b < j → 0 ≤ jnF t n i b ∧ 0 ≤ jnF (invT n t) n i b)) ?_ ?_
  ·exact ⟨_, 0, rfl, eD, eD, (⟨by omega, fun a ha => by omega⟩)⟩
  rintro mm ee ss kk ⟨j, rfl, rfl, rfl, hI⟩
  generalize hQl2 : ya1 _ _ = Ql2
  obtain ⟨hj0, hBB⟩ := hI
  refine AW.seq fun K4 hK4 => ?_
  refine AW.sg [0,3,4,13] [] trivial ?_
  refine AW.cn ?_ ?_
  ·intro hb
   have hji : j < i := by omega
   have h1 := hjn i j hin (by omega)
   have h2 := hmt i j hin (by omega)
   refine AW.skip ?_
   refine hK4 _ _ _ ?_; clear hK4
   refine AW.seq fun K5 hK5 => ?_
   refine AW.block ?_
   refine AW.so 0 (fun ii => if ii = 3 then some (.reads false (.int .i64 (jnF t n i j))) else if ii = 9 then some (.reads false (.int .i64 (jnF (invT n t) n i j))) else none) [0,3,4,27] [] trivial ?_
   repeat with_reducible refine cj ?_ ?_
   all_goals try first | (first | exact h1 | (intro hh; exact ⟨hh, h2⟩)) | (intros; (repeat' apply And.intro) <;> first | assumption | (first | exact h1 | (intro hh; exact ⟨hh, h2⟩))) | omega | exact ent (by kernel_rfl) | (intro hgd; exact absurd hgd (by decide)) | rfl | exact gD | (intro _hgd; simp_all [go_sem]; done)
   refine AW.cn ?_ ?_
   ·intro hb
    refine AW.sg [2] [] trivial ?_
    rw [← hQl2, ← hQl1, ← hQr]
    refine AW.rt trivial ?_
    exact Wk.of_eq (by rw [hno i j hin hji hb])
   ·intro hb
    refine AW.skip ?_
    refine hK5 _ _ _ ?_; clear hK5
    refine AW.rg [0,3,4] [] trivial ?_
    rw [← hQl2]; change Exists _
    refine ⟨_, eO, j + 1, rfl, eD, eD, ?_⟩
    refine ⟨by omega, fun b hb' => ?_⟩; rcases Nat.lt_succ_iff_lt_or_eq.1 hb' with h | h; exact hBB b h; subst h; exact ⟨by omega, by omega⟩
  ·intro hb
   refine AW.kx [0,3] [] ?_
   rw [← hQl2]
   refine hK3 _ _ _ ?_; clear hK3
   refine AW.rg [0,3] [] trivial ?_
   rw [← hQl1]; change Exists _
   refine ⟨_, eO, i + 1, rfl, eD, eD, ?_⟩
   refine ⟨by omega, fun a ha b hb' => ?_⟩; rcases Nat.lt_succ_iff_lt_or_eq.1 ha with h | h; exact hAA a h b hb'; subst h; exact hBB b (by omega)
 ·intro hb
  refine AW.kx [0] [] ?_
  rw [← hQl1]
  refine hK1 _ _ _ ?_; clear hK1
  refine AW.sg [2] [] (e2 @hrl @hsl) ?_
  rw [← hQr]
  refine AW.rt trivial ?_
  refine Wk.of_eq (congrArg AV.bool ?_)
  unfold rlB
  rw [show ((List.range n).all fun i => (List.range i).all fun j => decide (0 ≤ jnF t n i j) && decide (0 ≤ jnF (invT n t) n i j)) = true from List.all_eq_true.2 fun a ha => List.all_eq_true.2 fun b hb' => by
   have := hAA a (by have := List.mem_range.1 ha; omega) b (List.mem_range.1 hb')
   rw [decide_eq_true this.1, decide_eq_true this.2]; rfl, Bool.and_true]
  exact decide_eq_decide.2 (by omega)
end Go.Proofs.B

namespace Go.Proofs.B
open Go.AM Go
set_option maxRecDepth 100000
set_option maxHeartbeats 4000000
theorem ysy (rs : List USet) (hl : yme rs) (hb : BadP rs) : Reads Tryz.prog 58 false [relV rs] (.bool false) ∧ Reads Tryz.prog 49 false [relV rs] (.bool false) := by
 rcases hb with hv | ⟨t, ht, hs, hn, hp⟩
 ·exact ⟨pvalid_e rs hl hv, rval_e rs hl hv⟩
 ·have h1 := ydw _ t hs hn
  have h2 := yp8 _ t hs hn
  rw [hp, yf3, ← ht] at h1 h2
  exact ⟨h1, h2⟩
end Go.Proofs.B

namespace Go.Proofs.B
open Go.AM Go
set_option maxRecDepth 100000
set_option maxHeartbeats 4000000
theorem yvc (n : Nat) (t : List (List Bool)) (hs : Sq n t) (hn : n ≤ 512) : Reads Tryz.prog 70 true [.rsl 1 (rowsR t)] (relB t) := by
 have hlen := hs.len
 have hrl := ybp t
 have hwn := yav (n := (n : Int)) (by omega)
 have hwe := ydx (n : Int)
 unfold relB
 refine Reads.bodyF (rs := [.cell 2 24]) Tryz.func70 rfl Tryz.ntmps70 rfl (by simp) ?_
 generalize hQr : retQ _ _ _ = Qr
 refine AW.sg [0,2] [2] (e3 @hrl @hlen @hwe) ?_
 refine AW.sg [0,2,3] [2] (e3 @hrl @hlen @hwe) ?_
 refine AW.sg [0,2,3,4] [2,4] (e3 @hrl @hlen @hwe) ?_
 refine AW.seq fun K1 hK1 => ?_
 refine AW.sg [0,2,3,4,5] [2,4] (e3 @hrl @hlen @hwe) ?_
 refine AW.block ?_
 refine AW.nilCellK 4 0 0 200 2 ?_
 simp only [go_sem, reduceIte, zE]
 repeat refine cj ?_ ?_
 all_goals first | decide | skip
 refine AW.keep [0, 2, 3, 4, 5] [2, 4, 200] ?_
 simp only [go_sem, reduceIte, zE]
 refine AW.loopE (fun mm ee ss kk => ∃ (i g2 v2 g4 v4 g v : Nat), n - i = mm ∧ ee = [(0, .rsl 1 (rowsR t)), (2, .ptr ⟨2, g2, none⟩ 0 0), (3, .int .i64 n), (4, .ptr ⟨4, g4, none⟩ 0 0), (5, .int .i64 (i : Nat))] ∧ ss = [(2, some ⟨g2, v2, 1, [[.nilsl]]⟩), (4, some ⟨g4, v4, 1, [[.sl ⟨200, g, none⟩ 0 i none]]⟩), (200, some ⟨g, v, 2, tabO (t.take i)⟩)] ∧ (i ≤ n)) ?_ ?_
 ·exact ⟨_, 0, _, _, _, _, _, _, rfl, eD, eD, eT⟩
 rintro mm ee ss kk ⟨i, g2, v2, g4, v4, g, v, rfl, rfl, rfl, hI⟩
 generalize hQl1 : ya1 _ _ = Ql1
 refine AW.seq fun K2 hK2 => ?_
 refine AW.sg [0,2,3,4,5,12] [2,4,200] (e3 @hrl @hlen @hwe) ?_
 refine AW.cn ?_ ?_
 ·intro hb
  have hgr := yb2 (t := t) (i := i) (by omega)
  have hrw := hs.rowLen (i := i) (by omega)
  have hti : t.take (i + 1) = t.take i ++ [rowT t i] := by obtain ⟨h1, h2⟩ := List.getElem?_eq_some_iff.1 (yeb (t := t) (i := i) (by omega)); rw [List.take_succ_eq_append_getElem h1, h2]
  have htl : (t.take i).length = i := by simp; omega
  have htk : (tabO (t.take i)).take i = tabO (t.take i) := List.take_of_length_le (by rw [ya5]; omega)
  generalize hb' : rowT t i = b at *
  have hap : tabO (t.take i) ++ [[.int .i64 n, .osl 1 (words (setW b n))]] = tabO (t.take i ++ [b]) := by simp [tabO, rowO, hrw]
  have hgl : ∀ x : List AV, (tabO (t.take i) ++ [x]).getD i [] = x := fun x => by rw [List.getD_eq_getElem?_getD, List.getElem?_append_right (by rw [ya5]; omega), ya5, htl]; simp
  have hsl : ∀ x y : List AV, (tabO (t.take i) ++ [x]).set i y = tabO (t.take i) ++ [y] := fun x y => by rw [List.set_append_right _ _ (by rw [ya5]; omega), ya5, htl]; simp
  have hll : ∀ x : List AV, (tabO (t.take i) ++ [x]).length = i + 1 := fun x => by simp [ya5]; omega
  have hwl := fun j => yh5 b j
  have hz0 : setW b 0 = List.replicate (ya3 n).toNat 0 := by rw [← hrw]; simp [setW]
  rw [hrw] at hwl
  refine AW.skip ?_
  refine hK2 _ _ _ ?_; clear hK2
  refine AW.seq fun K3 hK3 => ?_
  refine AW.block ?_
  refine AW.sg [0,2,3,4,5,6] [2,4,6,19,200] (e3 @hrl @hlen @hwe) ?_
  refine AW.seq fun K4 hK4 => ?_
  refine AW.sg [0,2,3,4,5,6,7] [2,4,6,19,200] (e3 @hrl @hlen @hwe) ?_
  refine AW.block ?_
  refine AW.loopE (fun mm ee ss kk => ∃ (j g2 v2 g4 v4 g6 v6 g19 v19 g v : Nat), n - j = mm ∧ ee = [(0, .rsl 1 (rowsR t)), (2, .ptr ⟨2, g2, none⟩ 0 0), (3, .int .i64 n), (4, .ptr ⟨4, g4, none⟩ 0 0), (5, .int .i64 (i : Nat)), (6, .ptr ⟨6, g6, none⟩ 0 0), (7, .int .i64 (j : Nat))] ∧ ss = [(2, some ⟨g2, v2, 1, [[.nilsl]]⟩), (4, some ⟨g4, v4, 1, [[.sl ⟨200, g, none⟩ 0 i none]]⟩), (6, some ⟨g6, v6, 2, [[.int .i64 n, .sl ⟨19, g19, none⟩ 0 (ya3 n).toNat none]]⟩), (19, some ⟨g19, v19, 1, words (setW b j)⟩), (200, some ⟨g, v, 2, tabO (t.take i)⟩)] ∧ (j ≤ n)) ?_ ?_
  ·refine ⟨_, 0, ?_, ?_, ?_, ?_, ?_, ?_, ?_, ?_, ?_, ?_, rfl, ?henv, ?hstore, ?hst⟩
   case henv =>
    repeat' (first | rfl | apply yaa | apply yad | apply yai | apply yae | apply yaj | apply yak | apply yap | apply yal | apply yam | apply yaf | apply yab)
    all_goals (first | (simp; done) | omega | (simp; omega))
   case hstore =>
    repeat' (first | rfl | apply yaa | apply yad | apply yai | apply yae | apply yaj | apply yak | apply yap | apply yal | apply yam | apply yaf | apply yab)
    all_goals (rw [hz0]; simp [words])
   case hst =>
    first | trivial | omega | (simp; done) | (simp; omega)
  rintro mm ee ss kk ⟨j, g2, v2, g4, v4, g6, v6, g19, v19, g, v, rfl, rfl, rfl, hI⟩
  generalize hQl2 : ya1 _ _ = Ql2
  refine AW.seq fun K5 hK5 => ?_
  refine AW.sg [0,2,3,4,5,6,7,23] [2,4,6,19,200] (e3 @hrl @hlen @hwe) ?_
  refine AW.cn ?_ ?_
  ·intro hb
   have hgb := ybm (l := b) (i := j) (by omega)
   have hd := ybx (i := (j : Int)) (n := n) (by omega) (by omega)
   have hlj := hwl j
   have hgw := ya4 (l := setW b j) (i := ((j : Int).tdiv 64).toNat) (by omega)
   have hsu := yh4 b j
   have hsa := setBit_add (b := b) (j := j) (by omega)
   have hwr : IntKind.u64.wrap ((j : Int).tmod 64) = (j : Int).tmod 64 := by simp [IntKind.wrap, IntKind.signed, IntKind.bits]; omega
   refine AW.skip ?_
   refine hK5 _ _ _ ?_; clear hK5
   refine AW.seq fun K6 hK6 => ?_
   refine AW.block ?_
   refine AW.sg [0,2,3,4,5,6,7,32] [2,4,6,19,200] (e5 @hrl @hlen @hwe @hgr @hgb) ?_
   refine AW.cn ?_ ?_
   ·intro hb
    rw [if_pos hb, hsa] at hsu
    refine AW.rd mixed 0 (fun _ => none) [0,2,3,4,5,6,7] [2,4,6,19,200] (e2 @hrl (e5 @hlen @hwe @hgw @hlj @hwr)) ?_
    refine hK6 _ _ _ ?_; clear hK6
    refine AW.rg [0,2,3,4,5,6,7] [2,4,6,19,200] (e3 @hrl @hlen @hwe) ?_
    rw [← hQl2]; change Exists _
    refine ⟨_, ?hm, j + 1, ?_, ?_, ?_, ?_, ?_, ?_, ?_, ?_, ?_, ?_, rfl, ?henv, ?hstore, ?hst⟩
    case henv =>
     repeat' (first | rfl | apply yaa | apply yad | apply yai | apply yae | apply yaj | apply yak | apply yap | apply yal | apply yam | apply yaf | apply yab)
     all_goals (first | (simp; done) | omega | (simp; omega))
    case hstore =>
     repeat' (first | rfl | apply yaa | apply yad | apply yai | apply yae | apply yaj | apply yak | apply yap | apply yal | apply yam | apply yaf | apply yab)
     all_goals (rw [hsu])
    case hst =>
     first | trivial | omega | (simp; done) | (simp; omega)
    case hm => omega
   ·intro hb
    rw [if_neg (by rw [hb]; simp)] at hsu
    refine AW.skip ?_
    refine hK6 _ _ _ ?_; clear hK6
    refine AW.rg [0,2,3,4,5,6,7] [2,4,6,19,200] (e3 @hrl @hlen @hwe) ?_
    rw [← hQl2]; change Exists _
    refine ⟨_, ?hm, j + 1, ?_, ?_, ?_, ?_, ?_, ?_, ?_, ?_, ?_, ?_, rfl, ?henv, ?hstore, ?hst⟩
    case henv =>
     repeat' (first | rfl | apply yaa | apply yad | apply yai | apply yae | apply yaj | apply yak | apply yap | apply yal | apply yam | apply yaf | apply yab)
     all_goals (first | (simp; done) | omega | (simp; omega))
    case hstore =>
     repeat' (first | rfl | apply yaa | apply yad | apply yai | apply yae | apply yaj | apply yak | apply yap | apply yal | apply yam | apply yaf | apply yab)
     all_goals (rw [hsu])
    case hst =>
     first | trivial | omega | (simp; done) | (simp; omega)
    case hm => omega
  ·intro hb
   have hj : j = n := by omega
   subst hj
   have hlj := hwl j
   have htw : (words (setW b j)).take (ya3 j).toNat = words (setW b j) := List.take_of_length_le (by rw [ych]; omega)
   refine AW.exit ?_
   rw [← hQl2]
   refine hK4 _ _ _ ?_; clear hK4
   refine AW.regionK 0 (fun _ => none) [0, 2, 3, 4, 5] [2, 4, 19, 200] ?_
   simp only [go_sem, reduceIte, reduceCtorEq, zA, zM, zE, zL, zD, zS, zP, zB, zI, zR, hrl, hlen, hwe, htk, ya5, htl]
   repeat with_reducible refine cj ?_ ?_
   all_goals try first | omega | (simp [scP, ybl]; done) | exact ya6 _ | exact ybi _ | exact ya7 _
   refine hK3 _ _ _ ?_; clear hK3
   refine AW.adoptK 200 i 1 19 ?_
   simp only [go_sem, reduceIte, zE, hgl, hsl, hll]
   repeat refine cj ?_ ?_
   any_goals first | exact yck _ | exact ydf _ | decide | exact hlj | (rw [hrw]; done) | (rw [hcn]; done) | omega
   refine AW.keep [0, 2, 3, 4, 5] [2, 4, 200] ?_
   simp only [go_sem, reduceIte, zE, hap]
   refine AW.rg [0,2,3,4,5] [2,4,200] (e3 @hrl @hlen @hwe) ?_
   rw [← hQl1]; change Exists _
   refine ⟨_, ?hm, i + 1, ?_, ?_, ?_, ?_, ?_, ?_, rfl, ?henv, ?hstore, ?hst⟩
   case henv =>
    repeat' (first | rfl | apply yaa | apply yad | apply yai | apply yae | apply yaj | apply yak | apply yap | apply yal | apply yam | apply yaf | apply yab)
    all_goals (first | (simp; done) | omega | (simp; omega))
   case hstore =>
    repeat' (first | rfl | apply yaa | apply yad | apply yai | apply yae | apply yaj | apply yak | apply yap | apply yal | apply yam | apply yaf | apply yab)
    all_goals (rw [hti])
   case hst =>
    first | trivial | omega | (simp; done) | (simp; omega)
   case hm => omega
 ·intro hb
  refine AW.exit ?_
  rw [← hQl1]
  refine hK1 _ _ _ ?_; clear hK1
  refine AW.sg [2] [2,200] (e3 @hrl @hlen @hwe) ?_
  rw [← hQr]
  refine AW.rt (e3 @hrl @hlen @hwe) ?_
  have hi : i = n := by omega
  subst hi
  rw [List.take_of_length_le (by omega : t.length ≤ i)]
  refine Wk.of_eq ?_
  rw [List.take_of_length_le (by rw [ya5]; omega), yle]
theorem ysz (n m : Nat) (a b : List (List Bool)) (ha : Sq n a) (hb0 : Sq m b) (hn : n ≤ 512) (hm : m ≤ 512) : Reads Tryz.prog 35 false [relB a, relB b] (.bool (decide (a = b))) := by
 have hla : (tabR a).length = n := by rw [yas, ha.len]
 have hlb : (tabR b).length = m := by rw [yas, hb0.len]
 have hal := ha.len
 have hbl := hb0.len
 have hwn := yav (n := (n : Int)) (by omega)
 unfold relB
 refine Reads.body (rs := [.tmp 4]) Tryz.func35 rfl Tryz.ntmps35 rfl (by simp) ?_
 generalize hQr : retQ _ _ _ = Qr
 refine AW.sg [2,3] [2,3] (e2 @hla @hlb) ?_
 refine AW.seq fun K1 hK1 => ?_
 refine AW.sg [2,3,15] [2,3] (e2 @hla @hlb) ?_
 refine AW.cn ?_ ?_
 ·intro hb
  refine AW.sg [4] [] (e2 @hla @hlb) ?_
  rw [← hQr]
  refine AW.rt (e2 @hla @hlb) ?_
  exact Wk.of_eq (by rw [decide_eq_false]; rintro rfl; omega)
 ·intro hb
  have hnm : n = m := by omega
  subst hnm
  refine AW.skip ?_
  refine hK1 _ _ _ ?_; clear hK1
  refine AW.seq fun K2 hK2 => ?_
  refine AW.sg [2,3,5] [2,3] (e2 @hla @hlb) ?_
  refine AW.block ?_
  refine AW.loopE (fun mm ee ss kk => ∃ (i g2 v2 g3 v3 : Nat), n - i = mm ∧ ee = [(2, .ptr ⟨2, g2, none⟩ 0 0), (3, .ptr ⟨3, g3, none⟩ 0 0), (5, .int .i64 (i : Nat))] ∧ ss = [(2, some ⟨g2, v2, 1, [[.rsl 2 (tabR a)]]⟩), (3, some ⟨g3, v3, 1, [[.rsl 2 (tabR b)]]⟩)] ∧ (i ≤ n ∧ a.take i = b.take i)) ?_ ?_
  ·exact ⟨_, 0, _, _, _, _, rfl, eD, eD, eT⟩
  rintro mm ee ss kk ⟨i, g2, v2, g3, v3, rfl, rfl, rfl, hI⟩
  generalize hQl1 : ya1 _ _ = Ql1
  obtain ⟨hi, hall⟩ := hI
  refine AW.seq fun K3 hK3 => ?_
  refine AW.sg [2,3,5,20] [2,3] (e2 @hla @hlb) ?_
  refine AW.cn ?_ ?_
  ·intro hb
   have hga := ybq (t := a) (i := i) (by omega)
   have hgb := ybq (t := b) (i := i) (by omega)
   have hra := ha.rowLen (i := i) (by omega)
   have hrb := hb0.rowLen (i := i) (by omega)
   have hxa := yeb (t := a) (i := i) (by omega)
   have hxb := yeb (t := b) (i := i) (by omega)
   generalize hx : rowT a i = x at *
   generalize hy : rowT b i = y at *
   have hwx := yaq x
   have hwy := yaq y
   have hij := fun h => setW_inj (a := x) (b := y) (by omega) h
   rw [hra] at hwx hij
   rw [hrb] at hwy hij
   generalize hX : setW x n = X at *
   generalize hY : setW y n = Y at *
   refine AW.skip ?_
   refine hK3 _ _ _ ?_; clear hK3
   refine AW.seq fun K4 hK4 => ?_
   refine AW.block ?_
   refine AW.sg [2,3,5,6] [2,3,6] (e2 @hla (e5 @hlb @hga @rowB.eq_1 @hra @hX)) ?_
   refine AW.sg [2,3,5,6,7] [2,3,6,7] (e2 @hla (e5 @hlb @hgb @rowB.eq_1 @hrb @hY)) ?_
   refine AW.seq fun K5 hK5 => ?_
   refine AW.sg [2,3,5,6,7,46] [2,3,6,7] (e2 @hla @hlb) ?_
   repeat with_reducible refine cj ?_ ?_
   all_goals try first | omega | (intros; (repeat' apply And.intro) <;> first | assumption | omega | decide) | (intro hgd; exact absurd hgd (by decide)) | rfl | (simp only [go_sem, reduceIte, reduceCtorEq, zA, zM, zE, zL, zD, zS, zP, zB, zI, zR, hla, hlb]; done) | (intro _hgd; simp_all [go_sem]; done)
   refine AW.cn ?_ ?_
   ·intro hb
    exfalso; omega
   ·intro hb
    refine AW.skip ?_
    refine hK5 _ _ _ ?_; clear hK5
    refine AW.sg [2,3,5,6,7,8] [2,3,6,7] (e2 @hla @hlb) ?_
    refine AW.block ?_
    refine AW.loopE (fun mm ee ss kk => ∃ (k g2 v2 g3 v3 g6 v6 g7 v7 : Nat), X.length - k = mm ∧ ee = [(2, .ptr ⟨2, g2, none⟩ 0 0), (3, .ptr ⟨3, g3, none⟩ 0 0), (5, .int .i64 (i : Nat)), (6, .ptr ⟨6, g6, none⟩ 0 0), (7, .ptr ⟨7, g7, none⟩ 0 0), (8, .int .i64 (k : Nat))] ∧ ss = [(2, some ⟨g2, v2, 1, [[.rsl 2 (tabR a)]]⟩), (3, some ⟨g3, v3, 1, [[.rsl 2 (tabR b)]]⟩), (6, some ⟨g6, v6, 2, [[.int .i64 n, .rsl 1 (words X)]]⟩), (7, some ⟨g7, v7, 2, [[.int .i64 n, .rsl 1 (words Y)]]⟩)] ∧ (k ≤ X.length ∧ X.take k = Y.take k)) ?_ ?_
    ·exact ⟨_, 0, _, _, _, _, _, _, _, _, rfl, eD, eD, (⟨Nat.zero_le _, rfl⟩)⟩
    rintro mm ee ss kk ⟨k, g2, v2, g3, v3, g6, v6, g7, v7, rfl, rfl, rfl, hI⟩
    generalize hQl2 : ya1 _ _ = Ql2
    obtain ⟨hk, hall2⟩ := hI
    refine AW.seq fun K6 hK6 => ?_
    refine AW.sg [2,3,5,6,7,8,51] [2,3,6,7] (e2 @hla @hlb) ?_
    refine AW.cn ?_ ?_
    ·intro hb
     obtain ⟨u, hu⟩ := getI (l := X) (j := k) (by omega)
     obtain ⟨w, hw⟩ := getI (l := Y) (j := k) (by omega)
     have hgu := yeu hu
     have hgw := yeu hw
     refine AW.skip ?_
     refine hK6 _ _ _ ?_; clear hK6
     refine AW.seq fun K7 hK7 => ?_
     refine AW.block ?_
     refine AW.sd mixed 0 (fun _ => none) [2,3,5,6,7,8,64] [2,3,6,7] (e4 @hla @hlb @hgu @hgw) ?_
     refine AW.cn ?_ ?_
     ·intro hb
      refine AW.sg [4] [] (e2 @hla @hlb) ?_
      rw [← hQl2, ← hQl1, ← hQr]
      refine AW.rt (e2 @hla @hlb) ?_
      have huw : u ≠ w := hb
      have hne : x ≠ y := by
       rintro rfl
       have hXY : X = Y := by rw [← hX, ← hY]
       subst hXY
       rw [hu] at hw
       exact huw (Option.some.inj hw)
      exact Wk.of_eq (by rw [decide_eq_false (eqB_ne hxa hxb hne)])
     ·intro hb
      have huw : u = w := by omega
      subst huw
      refine AW.skip ?_
      refine hK7 _ _ _ ?_; clear hK7
      refine AW.rg [2,3,5,6,7,8] [2,3,6,7] (e2 @hla @hlb) ?_
      rw [← hQl2]; change Exists _
      exact ⟨_, eO, k + 1, _, _, _, _, _, _, _, _, rfl, eD, eD, (⟨by omega, yf0 hu hw hall2⟩)⟩
    ·intro hb
     have hXY : X = Y := by rw [List.take_of_length_le (by omega), List.take_of_length_le (by omega)] at hall2; exact hall2
     have hxy : x = y := hij hXY
     subst hxy
     refine AW.kx [2,3,5] [2,3] ?_
     rw [← hQl2]
     refine hK4 _ _ _ ?_; clear hK4
     refine AW.rg [2,3,5] [2,3] (e2 @hla @hlb) ?_
     rw [← hQl1]; change Exists _
     exact ⟨_, eO, i + 1, _, _, _, _, rfl, eD, eD, (⟨by omega, take_succ_eqA hxa hxb hall⟩)⟩
  ·intro hb
   refine AW.kx [] [] ?_
   rw [← hQl1]
   refine hK2 _ _ _ ?_; clear hK2
   refine AW.sg [4] [] (e2 @hla @hlb) ?_
   rw [← hQr]
   refine AW.rt (e2 @hla @hlb) ?_
   exact Wk.of_eq (by rw [List.take_of_length_le (by omega), List.take_of_length_le (by omega)] at hall; rw [decide_eq_true hall])
theorem rcompose_r (n : Nat) (a b : List (List Bool)) (ha : Sq n a) (hb0 : Sq n b) (hn : n ≤ 512) : Reads Tryz.prog 101 true [.rsl 1 (rowsR a), .rsl 1 (rowsR b)] (.rsl 1 (rowsR (compT n a b))) := by
 have hla := ha.len
 have hlb := hb0.len
 have hra := ybp a
 have hrb := ybp b
 rw [comp_map hb0]
 refine Reads.bodyF (rs := [.tmp 4]) Tryz.func101 rfl Tryz.ntmps101 rfl (by simp) ?_
 generalize hQr : retQ _ _ _ = Qr
 refine AW.sg [0,1] [] (e4 @hra @hla @hrb @hlb) ?_
 refine AW.sg [0,1,5] [] (e4 @hra @hla @hrb @hlb) ?_
 refine AW.sg [0,1,5,6] [] (e4 @hra @hla @hrb @hlb) ?_
 refine AW.seq fun K1 hK1 => ?_
 refine AW.sg [0,1,5,6,7] [] (e4 @hra @hla @hrb @hlb) ?_
 refine AW.block ?_
 refine AW.nilOwn 6 200 1 (by simp only [go_sem, reduceIte, zE]) ?_
 refine AW.keep [0, 1, 5, 6, 7] [200] ?_
 simp only [go_sem, reduceIte, zE]
 refine AW.loopE (fun mm ee ss kk => ∃ (i g v : Nat), n - i = mm ∧ ee = [(0, .rsl 1 (rowsR a)), (1, .rsl 1 (rowsR b)), (5, .int .i64 n), (6, .sl ⟨200, g, none⟩ 0 i none), (7, .int .i64 (i : Nat))] ∧ ss = [(200, some ⟨g, v, 1, ya9 ((List.range i).map fun i => yb3 a b n i n)⟩)] ∧ (i ≤ n)) ?_ ?_
 ·exact ⟨_, 0, _, _, rfl, eD, eD, eT⟩
 rintro mm ee ss kk ⟨i, g, v, rfl, rfl, rfl, hI⟩
 generalize hQl1 : ya1 _ _ = Ql1
 refine AW.seq fun K2 hK2 => ?_
 refine AW.sg [0,1,5,6,7,15] [200] (e4 @hra @hla @hrb @hlb) ?_
 refine AW.cn ?_ ?_
 ·intro hb
  have hgr := yb2 (t := a) (i := i) (by omega)
  have hrw := ha.rowLen (i := i) (by omega)
  have hti := map_range_succ (fun i => yb3 a b n i n) i
  have htl : (ya9 ((List.range i).map fun i => yb3 a b n i n)).length = i := by rw [ybc]; simp
  have hap := yd4 ((List.range i).map fun i => yb3 a b n i n) (yb3 a b n i n)
  rw [← hti] at hap
  generalize (List.range i).map (fun i => yb3 a b n i n) = V at *
  have htk : (ya9 V).take i = ya9 V := List.take_of_length_le (by omega)
  have hgl := fun x => ylk (ya9 V) x htl
  have hsl := fun x y => yll (ya9 V) x y htl
  have hll := fun x => ylm (ya9 V) x htl
  have hcl := fun m hm => yhm hb0 (a := a) i m hm
  refine AW.skip ?_
  refine hK2 _ _ _ ?_; clear hK2
  refine AW.seq fun K3 hK3 => ?_
  refine AW.block ?_
  refine AW.sg [0,1,5,6,7,8] [19,200] (e4 @hra @hla @hrb @hlb) ?_
  refine AW.seq fun K4 hK4 => ?_
  refine AW.sg [0,1,5,6,7,8,9] [19,200] (e4 @hra @hla @hrb @hlb) ?_
  refine AW.block ?_
  refine AW.loopE (fun mm ee ss kk => ∃ (k g19 v19 g v : Nat), n - k = mm ∧ ee = [(0, .rsl 1 (rowsR a)), (1, .rsl 1 (rowsR b)), (5, .int .i64 n), (6, .sl ⟨200, g, none⟩ 0 i none), (7, .int .i64 (i : Nat)), (8, .sl ⟨19, g19, none⟩ 0 n none), (9, .int .i64 (k : Nat))] ∧ ss = [(19, some ⟨g19, v19, 1, ybh (yb3 a b n i k)⟩), (200, some ⟨g, v, 1, ya9 V⟩)] ∧ (k ≤ n)) ?_ ?_
  ·refine ⟨_, 0, ?_, ?_, ?_, ?_, rfl, ?henv, ?hstore, ?hst⟩
   case henv =>
    repeat' (first | rfl | apply yaa | apply yad | apply yai | apply yae | apply yaj | apply yak | apply yap | apply yal | apply yam | apply yaf | apply yab)
    all_goals (first | (simp; done) | omega | (simp; omega))
   case hstore =>
    repeat' (first | rfl | apply yaa | apply yad | apply yai | apply yae | apply yaj | apply yak | apply yap | apply yal | apply yam | apply yaf | apply yab)
    all_goals (simp [yb3, iter, ybh])
   case hst =>
    first | trivial | omega | (simp; done) | (simp; omega)
  rintro mm ee ss kk ⟨k, g19, v19, g, v, rfl, rfl, rfl, hI⟩
  generalize hQl2 : ya1 _ _ = Ql2
  refine AW.seq fun K5 hK5 => ?_
  refine AW.sg [0,1,5,6,7,8,9,22] [19,200] (e4 @hra @hla @hrb @hlb) ?_
  refine AW.cn ?_ ?_
  ·intro hb
   have hgb := ybm (l := rowT a i) (i := k) (by omega)
   have hat : (rowT a i).getD k false = atT a i k := rfl
   rw [hat] at hgb
   have hcs := yed a b n i k
   have hck := hcl k (by omega)
   have hgk := yb2 (t := b) (i := k) (by omega)
   have hrk := hb0.rowLen (i := k) (by omega)
   generalize hr : yb3 a b n i k = r at *
   generalize hq : rowT b k = q at *
   refine AW.skip ?_
   refine hK5 _ _ _ ?_; clear hK5
   refine AW.seq fun K6 hK6 => ?_
   refine AW.block ?_
   refine AW.seq fun K7 hK7 => ?_
   refine AW.sg [0,1,5,6,7,8,9,32] [19,200] (e3 @hra @hla (e5 @hrb @hlb @hgr @hgb @hrw)) ?_
   refine AW.cn ?_ ?_
   ·intro hb
    rw [if_neg (by rw [hb]; simp)] at hcs
    refine AW.exit ?_
    refine hK6 _ _ _ ?_; clear hK6
    refine AW.rg [0,1,5,6,7,8,9] [19,200] (e4 @hra @hla @hrb @hlb) ?_
    rw [← hQl2]; change Exists _
    refine ⟨_, ?hm, k + 1, ?_, ?_, ?_, ?_, rfl, ?henv, ?hstore, ?hst⟩
    case henv =>
     repeat' (first | rfl | apply yaa | apply yad | apply yai | apply yae | apply yaj | apply yak | apply yap | apply yal | apply yam | apply yaf | apply yab)
     all_goals (first | (simp; done) | omega | (simp; omega))
    case hstore =>
     repeat' (first | rfl | apply yaa | apply yad | apply yai | apply yae | apply yaj | apply yak | apply yap | apply yal | apply yam | apply yaf | apply yab)
     all_goals (rw [hcs])
    case hst =>
     first | trivial | omega | (simp; done) | (simp; omega)
    case hm => omega
   ·intro hb
    rw [if_pos hb] at hcs
    refine AW.skip ?_
    refine hK7 _ _ _ ?_; clear hK7
    refine AW.sg [0,1,5,6,7,8,9,10] [19,200] (e4 @hra @hla @hrb @hlb) ?_
    refine AW.block ?_
    refine AW.loopE (fun mm ee ss kk => ∃ (j g19 v19 g v : Nat), n - j = mm ∧ ee = [(0, .rsl 1 (rowsR a)), (1, .rsl 1 (rowsR b)), (5, .int .i64 n), (6, .sl ⟨200, g, none⟩ 0 i none), (7, .int .i64 (i : Nat)), (8, .sl ⟨19, g19, none⟩ 0 n none), (9, .int .i64 (k : Nat)), (10, .int .i64 (j : Nat))] ∧ ss = [(19, some ⟨g19, v19, 1, ybh (orB r q j)⟩), (200, some ⟨g, v, 1, ya9 V⟩)] ∧ (j ≤ n)) ?_ ?_
    ·refine ⟨_, 0, ?_, ?_, ?_, ?_, rfl, ?henv, ?hstore, ?hst⟩
     case henv =>
      repeat' (first | rfl | apply yaa | apply yad | apply yai | apply yae | apply yaj | apply yak | apply yap | apply yal | apply yam | apply yaf | apply yab)
      all_goals (first | (simp; done) | omega | (simp; omega))
     case hstore =>
      repeat' (first | rfl | apply yaa | apply yad | apply yai | apply yae | apply yaj | apply yak | apply yap | apply yal | apply yam | apply yaf | apply yab)
      all_goals (rw [yr2])
     case hst =>
      first | trivial | omega | (simp; done) | (simp; omega)
    rintro mm ee ss kk ⟨j, g19, v19, g, v, rfl, rfl, rfl, hI⟩
    generalize hQl3 : ya1 _ _ = Ql3
    refine AW.seq fun K8 hK8 => ?_
    refine AW.sg [0,1,5,6,7,8,9,10,35] [19,200] (e4 @hra @hla @hrb @hlb) ?_
    refine AW.cn ?_ ?_
    ·intro hb
     have hgq := ybm (l := q) (i := j) (by omega)
     have hos := yr3 (a := r) (b := q) (by omega) (j := j) (by omega)
     have hol := ynw (a := r) (b := q) (by omega) j
     refine AW.skip ?_
     refine hK8 _ _ _ ?_; clear hK8
     refine AW.seq fun K9 hK9 => ?_
     refine AW.block ?_
     refine AW.sg [0,1,5,6,7,8,9,10,44] [19,200] (e3 @hra @hla (e5 @hrb @hlb @hgk @hrk @hgq)) ?_
     refine AW.cn ?_ ?_
     ·intro hb
      rw [if_pos hb] at hos
      refine AW.rg [0,1,5,6,7,8,9,10] [19,200] (e5 @hra @hla @hrb @hlb @hol) ?_
      refine hK9 _ _ _ ?_; clear hK9
      refine AW.rg [0,1,5,6,7,8,9,10] [19,200] (e4 @hra @hla @hrb @hlb) ?_
      rw [← hQl3]; change Exists _
      refine ⟨_, ?hm, j + 1, ?_, ?_, ?_, ?_, rfl, ?henv, ?hstore, ?hst⟩
      case henv =>
       repeat' (first | rfl | apply yaa | apply yad | apply yai | apply yae | apply yaj | apply yak | apply yap | apply yal | apply yam | apply yaf | apply yab)
       all_goals (first | (simp; done) | omega | (simp; omega))
      case hstore =>
       repeat' (first | rfl | apply yaa | apply yad | apply yai | apply yae | apply yaj | apply yak | apply yap | apply yal | apply yam | apply yaf | apply yab)
       all_goals (rw [hos])
      case hst =>
       first | trivial | omega | (simp; done) | (simp; omega)
      case hm => omega
     ·intro hb
      rw [if_neg (by rw [hb]; simp)] at hos
      refine AW.skip ?_
      refine hK9 _ _ _ ?_; clear hK9
      refine AW.rg [0,1,5,6,7,8,9,10] [19,200] (e4 @hra @hla @hrb @hlb) ?_
      rw [← hQl3]; change Exists _
      refine ⟨_, ?hm, j + 1, ?_, ?_, ?_, ?_, rfl, ?henv, ?hstore, ?hst⟩
      case henv =>
       repeat' (first | rfl | apply yaa | apply yad | apply yai | apply yae | apply yaj | apply yak | apply yap | apply yal | apply yam | apply yaf | apply yab)
       all_goals (first | (simp; done) | omega | (simp; omega))
      case hstore =>
       repeat' (first | rfl | apply yaa | apply yad | apply yai | apply yae | apply yaj | apply yak | apply yap | apply yal | apply yam | apply yaf | apply yab)
       all_goals (rw [hos])
      case hst =>
       first | trivial | omega | (simp; done) | (simp; omega)
      case hm => omega
    ·intro hb
     have hj : j = n := by omega
     subst hj
     rw [yt1 (by omega) (by omega)]
     refine AW.exit ?_
     rw [← hQl3]
     refine hK6 _ _ _ ?_; clear hK6
     refine AW.rg [0,1,5,6,7,8,9] [19,200] (e4 @hra @hla @hrb @hlb) ?_
     rw [← hQl2]; change Exists _
     refine ⟨_, ?hm, k + 1, ?_, ?_, ?_, ?_, rfl, ?henv, ?hstore, ?hst⟩
     case henv =>
      repeat' (first | rfl | apply yaa | apply yad | apply yai | apply yae | apply yaj | apply yak | apply yap | apply yal | apply yam | apply yaf | apply yab)
      all_goals (first | (simp; done) | omega | (simp; omega))
     case hstore =>
      repeat' (first | rfl | apply yaa | apply yad | apply yai | apply yae | apply yaj | apply yak | apply yap | apply yal | apply yam | apply yaf | apply yab)
      all_goals (rw [hcs])
     case hst =>
      first | trivial | omega | (simp; done) | (simp; omega)
     case hm => omega
  ·intro hb
   have hk : k = n := by omega
   subst hk
   have hcn := hcl k (Nat.le_refl _)
   refine AW.exit ?_
   rw [← hQl2]
   refine hK4 _ _ _ ?_; clear hK4
   refine AW.regionK 0 (fun _ => none) [0, 1, 5, 6, 7] [19, 200] ?_
   simp only [go_sem, reduceIte, reduceCtorEq, zA, zM, zE, zL, zD, zS, zP, zB, zI, zR, hra, hla, hrb, hlb, htk, htl]
   repeat with_reducible refine cj ?_ ?_
   all_goals try first | omega | (simp [scP, ybl]; done) | exact ya6 _ | exact ybi _ | exact ya7 _
   refine hK3 _ _ _ ?_; clear hK3
   refine AW.adoptK 200 i 0 19 ?_
   simp only [go_sem, reduceIte, zE, hgl, hsl, hll]
   repeat refine cj ?_ ?_
   any_goals first | exact yck _ | exact ydf _ | decide | exact hlj | (rw [hrw]; done) | (rw [hcn]; done) | omega
   refine AW.keep [0, 1, 5, 6, 7] [200] ?_
   simp only [go_sem, reduceIte, zE, hap]
   refine AW.rg [0,1,5,6,7] [200] (e4 @hra @hla @hrb @hlb) ?_
   rw [← hQl1]; change Exists _
   refine ⟨_, ?hm, i + 1, ?_, ?_, rfl, ?henv, ?hstore, ?hst⟩
   case henv =>
    repeat' (first | rfl | apply yaa | apply yad | apply yai | apply yae | apply yaj | apply yak | apply yap | apply yal | apply yam | apply yaf | apply yab)
    all_goals (first | (simp; done) | omega | (simp; omega))
   case hstore =>
    repeat' (first | rfl | apply yaa | apply yad | apply yai | apply yae | apply yaj | apply yak | apply yap | apply yal | apply yam | apply yaf | apply yab)
    all_goals (rw [List.range_succ])
   case hst =>
    first | trivial | omega | (simp; done) | (simp; omega)
   case hm => omega
 ·intro hb
  refine AW.exit ?_
  rw [← hQl1]
  refine hK1 _ _ _ ?_; clear hK1
  refine AW.sg [4] [200] (e4 @hra @hla @hrb @hlb) ?_
  rw [← hQr]
  refine AW.rt (e4 @hra @hla @hrb @hlb) ?_
  have hi : i = n := by omega
  subst hi
  rw [List.take_of_length_le (by rw [ybc]; simp), yez]
  exact Wk.refl _
theorem rclosure_r (n : Nat) (t : List (List Bool)) (hs : Sq n t) (hn : n ≤ 512) : Reads Tryz.prog 100 true [.rsl 1 (rowsR t)] (.rsl 1 (rowsR (warsh n t))) := by
 have hlen := hs.len
 have hrl := ybp t
 refine Reads.bodyF (rs := [.tmp 2]) Tryz.func100 rfl Tryz.ntmps100 rfl (by simp) ?_
 generalize hQr : retQ _ _ _ = Qr
 refine AW.sg [0] [] (e2 @hrl @hlen) ?_
 refine AW.sg [0,3] [] (e2 @hrl @hlen) ?_
 refine AW.sg [0,3,4] [] (e2 @hrl @hlen) ?_
 refine AW.seq fun K1 hK1 => ?_
 refine AW.sg [0,3,4,5] [] (e2 @hrl @hlen) ?_
 refine AW.block ?_
 refine AW.nilOwn 4 200 1 (by simp only [go_sem, reduceIte, zE]) ?_
 refine AW.keep [0, 3, 4, 5] [200] ?_
 simp only [go_sem, reduceIte, zE]
 refine AW.loopE (fun mm ee ss kk => ∃ (i g v : Nat), n - i = mm ∧ ee = [(0, .rsl 1 (rowsR t)), (3, .int .i64 n), (4, .sl ⟨200, g, none⟩ 0 i none), (5, .int .i64 (i : Nat))] ∧ ss = [(200, some ⟨g, v, 1, ya9 (t.take i)⟩)] ∧ (i ≤ n)) ?_ ?_
 ·exact ⟨_, 0, _, _, rfl, eD, eD, eT⟩
 rintro mm ee ss kk ⟨i, g, v, rfl, rfl, rfl, hI⟩
 generalize hQl1 : ya1 _ _ = Ql1
 refine AW.seq fun K2 hK2 => ?_
 refine AW.sg [0,3,4,5,13] [200] (e2 @hrl @hlen) ?_
 refine AW.cn ?_ ?_
 ·intro hb
  have hgr := yb2 (t := t) (i := i) (by omega)
  have hrw := hs.rowLen (i := i) (by omega)
  have hti := ygo (t := t) (i := i) (by omega)
  have htl : (ya9 (t.take i)).length = i := by rw [ybc]; simp; omega
  have htk : (ya9 (t.take i)).take i = ya9 (t.take i) := List.take_of_length_le (by omega)
  generalize hb' : rowT t i = b at *
  have hap := yd4 (t.take i) b
  have hgl := fun x => ylk (ya9 (t.take i)) x htl
  have hsl := fun x y => yll (ya9 (t.take i)) x y htl
  have hll := fun x => ylm (ya9 (t.take i)) x htl
  refine AW.skip ?_
  refine hK2 _ _ _ ?_; clear hK2
  refine AW.seq fun K3 hK3 => ?_
  refine AW.block ?_
  refine AW.regionK 0 (fun _ => none) [0, 3, 4, 5] [22, 200] ?_
  simp only [go_sem, reduceIte, reduceCtorEq, zA, zM, zE, zL, zD, zS, zP, zB, zI, zR, hrl, hlen, hgr, htk, htl, hrw]
  repeat with_reducible refine cj ?_ ?_
  all_goals try first | omega | (simp [scP, ybl]; done) | exact ya6 _ | exact ybi _ | exact ya7 _
  refine hK3 _ _ _ ?_; clear hK3
  refine AW.adoptK 200 i 0 22 ?_
  simp only [go_sem, reduceIte, zE, hgl, hsl, hll]
  repeat refine cj ?_ ?_
  any_goals first | exact yck _ | exact ydf _ | decide | exact hlj | (rw [hrw]; done) | (rw [hcn]; done) | omega
  refine AW.keep [0, 3, 4, 5] [200] ?_
  simp only [go_sem, reduceIte, zE, hap]
  refine AW.rg [0,3,4,5] [200] (e2 @hrl @hlen) ?_
  rw [← hQl1]; change Exists _
  refine ⟨_, ?hm, i + 1, ?_, ?_, rfl, ?henv, ?hstore, ?hst⟩
  case henv =>
   repeat' (first | rfl | apply yaa | apply yad | apply yai | apply yae | apply yaj | apply yak | apply yap | apply yal | apply yam | apply yaf | apply yab)
   all_goals (first | (simp; done) | omega | (simp; omega))
  case hstore =>
   repeat' (first | rfl | apply yaa | apply yad | apply yai | apply yae | apply yaj | apply yak | apply yap | apply yal | apply yam | apply yaf | apply yab)
   all_goals (rw [hti])
  case hst =>
   first | trivial | omega | (simp; done) | (simp; omega)
  case hm => omega
 ·intro hb
  have hin : i = n := by omega
  subst hin
  rw [List.take_of_length_le (by omega : t.length ≤ i)]
  refine AW.exit ?_
  rw [← hQl1]
  refine hK1 _ _ _ ?_; clear hK1
  refine AW.seq fun K4 hK4 => ?_
  refine AW.sg [3,4,6] [200] (e2 @hrl @hlen) ?_
  refine AW.block ?_
  refine AW.loopE (fun mm ee ss kk => ∃ (k g v : Nat), i - k = mm ∧ ee = [(3, .int .i64 i), (4, .sl ⟨200, g, none⟩ 0 i none), (6, .int .i64 (k : Nat))] ∧ ss = [(200, some ⟨g, v, 1, ya9 (iter (warshK i) k t)⟩)] ∧ (k ≤ i)) ?_ ?_
  ·exact ⟨_, 0, _, _, rfl, eD, eD, eT⟩
  rintro mm ee ss kk ⟨k, g, v, rfl, rfl, rfl, hI⟩
  generalize hQl2 : ya1 _ _ = Ql2
  refine AW.seq fun K5 hK5 => ?_
  refine AW.sg [3,4,6,27] [200] (e2 @hrl @hlen) ?_
  refine AW.cn ?_ ?_
  ·intro hb
   refine AW.skip ?_
   refine hK5 _ _ _ ?_; clear hK5
   refine AW.seq fun K6 hK6 => ?_
   refine AW.block ?_
   refine AW.sg [3,4,6,7] [200] (e2 @hrl @hlen) ?_
   refine AW.block ?_
   refine AW.loopE (fun mm ee ss kk => ∃ (q g v : Nat), i - q = mm ∧ ee = [(3, .int .i64 i), (4, .sl ⟨200, g, none⟩ 0 i none), (6, .int .i64 (k : Nat)), (7, .int .i64 (q : Nat))] ∧ ss = [(200, some ⟨g, v, 1, ya9 (iter (warshI k) q (iter (warshK i) k t))⟩)] ∧ (q ≤ i)) ?_ ?_
   ·exact ⟨_, 0, _, _, rfl, eD, eD, eT⟩
   rintro mm ee ss kk ⟨q, g, v, rfl, rfl, rfl, hI⟩
   generalize hQl3 : ya1 _ _ = Ql3
   refine AW.seq fun K7 hK7 => ?_
   refine AW.sg [3,4,6,7,32] [200] (e2 @hrl @hlen) ?_
   refine AW.cn ?_ ?_
   ·intro hb
    have hsu : Sq i (iter (warshI k) q (iter (warshK i) k t)) := (hs.warsh' (by omega)).warshK' (by omega) (by omega)
    have hus : iter (warshI k) (q + 1) (iter (warshK i) k t) = warshI k q (iter (warshI k) q (iter (warshK i) k t)) := rfl
    rw [ylf] at hus
    generalize hU : iter (warshI k) q (iter (warshK i) k t) = U at *
    have hol := ybc U
    have hul := hsu.len
    have hgq := ypj (t := U) (i := q) (by omega)
    have hgk := ypj (t := U) (i := k) (by omega)
    have hrq := hsu.rowLen (i := q) (by omega)
    have hrk := hsu.rowLen (i := k) (by omega)
    have hgb := ybm (l := rowT U q) (i := k) (by omega)
    have hat : (rowT U q).getD k false = atT U q k := rfl
    rw [hat] at hgb
    have hset := rowsO_set U q
    have hss : ∀ x : List AV, ((ya9 U).set q x).getD q [] = x := fun x => Go.AM.getD_set_eq (by omega) _ _
    have hfix : (ya9 U).set q [.osl 1 (ybh (rowT U q))] = ya9 U := by rw [← hgq]; exact set_getD_self _ _ _
    have hC : ∀ j, j < i → ∃ C : List Bool, ((ya9 U).set q [.osl 1 (ybh (orB (rowT U q) (rowT U k) j))]).getD k [] = [.osl 1 (ybh C)] ∧ C.length = i ∧ C.getD j false = (rowT U k).getD j false := fun j hj => by
     by_cases e : q = k
     ·refine ⟨orB (rowT U q) (rowT U k) j, by rw [← e, hss], by rw [ynw (by omega)]; exact hrq, ?_⟩
      rw [yt2 (by omega) (Nat.le_refl _), e]
     ·exact ⟨rowT U k, by rw [Go.AM.getD_set_ne e, hgk], hrk, rfl⟩
    refine AW.skip ?_
    refine hK7 _ _ _ ?_; clear hK7
    refine AW.seq fun K8 hK8 => ?_
    refine AW.block ?_
    refine AW.seq fun K9 hK9 => ?_
    refine AW.sg [3,4,6,7,42] [200] (e5 @hrl @hlen @hgq @hrq @hgb) ?_
    refine AW.cn ?_ ?_
    ·intro hb
     rw [if_neg (by rw [hb]; simp)] at hus
     refine AW.exit ?_
     refine hK8 _ _ _ ?_; clear hK8
     refine AW.rg [3,4,6,7] [200] (e2 @hrl @hlen) ?_
     rw [← hQl3]; change Exists _
     refine ⟨_, ?hm, q + 1, ?_, ?_, rfl, ?henv, ?hstore, ?hst⟩
     case henv =>
      repeat' (first | rfl | apply yaa | apply yad | apply yai | apply yae | apply yaj | apply yak | apply yap | apply yal | apply yam | apply yaf | apply yab)
      all_goals (first | (simp; done) | omega | (simp; omega))
     case hstore =>
      repeat' (first | rfl | apply yaa | apply yad | apply yai | apply yae | apply yaj | apply yak | apply yap | apply yal | apply yam | apply yaf | apply yab)
      all_goals (rw [hus])
     case hst =>
      first | trivial | omega | (simp; done) | (simp; omega)
     case hm => omega
    ·intro hb
     rw [if_pos hb] at hus
     unfold orRow at hus
     generalize ha' : rowT U q = a at *
     generalize hb' : rowT U k = b at *
     refine AW.skip ?_
     refine hK9 _ _ _ ?_; clear hK9
     refine AW.sg [3,4,6,7,8] [200] (e2 @hrl @hlen) ?_
     refine AW.block ?_
     refine AW.loopE (fun mm ee ss kk => ∃ (j g v : Nat), i - j = mm ∧ ee = [(3, .int .i64 i), (4, .sl ⟨200, g, none⟩ 0 i none), (6, .int .i64 (k : Nat)), (7, .int .i64 (q : Nat)), (8, .int .i64 (j : Nat))] ∧ ss = [(200, some ⟨g, v, 1, (ya9 U).set q [.osl 1 (ybh (orB a b j))]⟩)] ∧ (j ≤ i)) ?_ ?_
     ·refine ⟨_, 0, ?_, ?_, rfl, ?henv, ?hstore, ?hst⟩
      case henv =>
       repeat' (first | rfl | apply yaa | apply yad | apply yai | apply yae | apply yaj | apply yak | apply yap | apply yal | apply yam | apply yaf | apply yab)
       all_goals (first | (simp; done) | omega | (simp; omega))
      case hstore =>
       repeat' (first | rfl | apply yaa | apply yad | apply yai | apply yae | apply yaj | apply yak | apply yap | apply yal | apply yam | apply yaf | apply yab)
       all_goals (rw [yr2, hfix])
      case hst =>
       first | trivial | omega | (simp; done) | (simp; omega)
     rintro mm ee ss kk ⟨j, g, v, rfl, rfl, rfl, hI⟩
     generalize hQl4 : ya1 _ _ = Ql4
     refine AW.seq fun K10 hK10 => ?_
     refine AW.sg [3,4,6,7,8,45] [200] (e2 @hrl @hlen) ?_
     refine AW.cn ?_ ?_
     ·intro hb
      obtain ⟨C, hC1, hC2, hC3⟩ := hC j (by omega)
      have hgc := ybm (l := C) (i := j) (by omega)
      rw [hC3] at hgc
      have hos := yr3 (a := a) (b := b) (by omega) (j := j) (by omega)
      have hob := ynw (a := a) (b := b) (by omega) j
      refine AW.skip ?_
      refine hK10 _ _ _ ?_; clear hK10
      refine AW.seq fun K11 hK11 => ?_
      refine AW.block ?_
      refine AW.sg [3,4,6,7,8,54] [200] (e5 @hrl @hlen @hC1 @hC2 @hgc) ?_
      refine AW.cn ?_ ?_
      ·intro hb
       rw [if_pos hb] at hos
       refine AW.rg [3,4,6,7,8] [200] (e2 @hrl (e5 @hlen @hss @hob @hrq @List.set_set.{0})) ?_
       refine hK11 _ _ _ ?_; clear hK11
       refine AW.rg [3,4,6,7,8] [200] (e2 @hrl @hlen) ?_
       rw [← hQl4]; change Exists _
       refine ⟨_, ?hm, j + 1, ?_, ?_, rfl, ?henv, ?hstore, ?hst⟩
       case henv =>
        repeat' (first | rfl | apply yaa | apply yad | apply yai | apply yae | apply yaj | apply yak | apply yap | apply yal | apply yam | apply yaf | apply yab)
        all_goals (first | (simp; done) | omega | (simp; omega))
       case hstore =>
        repeat' (first | rfl | apply yaa | apply yad | apply yai | apply yae | apply yaj | apply yak | apply yap | apply yal | apply yam | apply yaf | apply yab)
        all_goals (rw [hos])
       case hst =>
        first | trivial | omega | (simp; done) | (simp; omega)
       case hm => omega
      ·intro hb
       rw [if_neg (by rw [hb]; simp)] at hos
       refine AW.skip ?_
       refine hK11 _ _ _ ?_; clear hK11
       refine AW.rg [3,4,6,7,8] [200] (e2 @hrl @hlen) ?_
       rw [← hQl4]; change Exists _
       refine ⟨_, ?hm, j + 1, ?_, ?_, rfl, ?henv, ?hstore, ?hst⟩
       case henv =>
        repeat' (first | rfl | apply yaa | apply yad | apply yai | apply yae | apply yaj | apply yak | apply yap | apply yal | apply yam | apply yaf | apply yab)
        all_goals (first | (simp; done) | omega | (simp; omega))
       case hstore =>
        repeat' (first | rfl | apply yaa | apply yad | apply yai | apply yae | apply yaj | apply yak | apply yap | apply yal | apply yam | apply yaf | apply yab)
        all_goals (rw [hos])
       case hst =>
        first | trivial | omega | (simp; done) | (simp; omega)
       case hm => omega
     ·intro hb
      have hj : j = i := by omega
      subst hj
      rw [yt1 (by omega) (by omega), hset]
      refine AW.exit ?_
      rw [← hQl4]
      refine hK8 _ _ _ ?_; clear hK8
      refine AW.rg [3,4,6,7] [200] (e2 @hrl @hlen) ?_
      rw [← hQl3]; change Exists _
      refine ⟨_, ?hm, q + 1, ?_, ?_, rfl, ?henv, ?hstore, ?hst⟩
      case henv =>
       repeat' (first | rfl | apply yaa | apply yad | apply yai | apply yae | apply yaj | apply yak | apply yap | apply yal | apply yam | apply yaf | apply yab)
       all_goals (first | (simp; done) | omega | (simp; omega))
      case hstore =>
       repeat' (first | rfl | apply yaa | apply yad | apply yai | apply yae | apply yaj | apply yak | apply yap | apply yal | apply yam | apply yaf | apply yab)
       all_goals (rw [hus])
      case hst =>
       first | trivial | omega | (simp; done) | (simp; omega)
      case hm => omega
   ·intro hb
    have hq : q = i := by omega
    subst hq
    refine AW.exit ?_
    rw [← hQl3]
    refine hK6 _ _ _ ?_; clear hK6
    refine AW.rg [3,4,6] [200] (e2 @hrl @hlen) ?_
    rw [← hQl2]; change Exists _
    refine ⟨_, ?hm, k + 1, ?_, ?_, rfl, ?henv, ?hstore, ?hst⟩
    case henv =>
     repeat' (first | rfl | apply yaa | apply yad | apply yai | apply yae | apply yaj | apply yak | apply yap | apply yal | apply yam | apply yaf | apply yab)
     all_goals (first | (simp; done) | omega | (simp; omega))
    case hstore =>
     repeat' (first | rfl | apply yaa | apply yad | apply yai | apply yae | apply yaj | apply yak | apply yap | apply yal | apply yam | apply yaf | apply yab)
     all_goals rfl
    case hst =>
     first | trivial | omega | (simp; done) | (simp; omega)
    case hm => omega
  ·intro hb
   refine AW.exit ?_
   rw [← hQl2]
   refine hK4 _ _ _ ?_; clear hK4
   refine AW.sg [2] [200] (e2 @hrl @hlen) ?_
   rw [← hQr]
   refine AW.rt (e2 @hrl @hlen) ?_
   have hk : k = i := by omega
   subst hk
   rw [List.take_of_length_le (by rw [ybc, (hs.warsh' (Nat.le_refl _)).len]; exact Nat.le_refl _), yez]
   exact Wk.refl _
theorem rreduction_r (n : Nat) (t : List (List Bool)) (hs : Sq n t) (hn : n ≤ 512) : Reads Tryz.prog 73 true [.rsl 1 (rowsR t)] (.rsl 1 (rowsR (redT n t (compT n t (warsh n t))))) := by
 have hlen := hs.len
 have hrl := ybp t
 have hcl := rclosure_r n t hs hn
 have hco := rcompose_r n (warsh n t) (warsh n t) hs.warsh hs.warsh hn
 rw [← comp_closure hs] at hco
 have hsl : Sq n (compT n t (warsh n t)) := Sq.comp hs.warsh
 generalize compT n t (warsh n t) = l at *
 generalize warsh n t = c at *
 have hsi : Sq n (redT n t l) := Sq.red hs hsl
 have hil := hsi.len
 have hll := hsl.len
 have hrll := ybp l
 have hai := fun i j hi hj => atT_red hs hsl (i := i) (j := j) hi hj
 generalize redT n t l = u at *
 refine Reads.bodyF (rs := [.tmp 2]) Tryz.func73 rfl Tryz.ntmps73 rfl (by simp) ?_
 generalize hQr : retQ _ _ _ = Qr
 refine AW.sg [0] [] (e4 @hrl @hlen @hrll @hll) ?_
 refine AW.so 0 (fun ii => if ii = 1 then some (.reads true (.rsl 1 (rowsR c))) else none) [0,3] [] (e4 @hrl @hlen @hrll @hll) ?_
 repeat with_reducible refine cj ?_ ?_
 all_goals try first | (exact hcl) | omega | exact ent (by kernel_rfl)
 refine AW.so 0 (fun ii => if ii = 2 then some (.reads true (.rsl 1 (rowsR l))) else none) [0,4] [] (e4 @hrl @hlen @hrll @hll) ?_
 repeat with_reducible refine cj ?_ ?_
 all_goals try first | (exact hco) | omega | exact ent (by kernel_rfl)
 refine AW.sg [0,4,5] [] (e4 @hrl @hlen @hrll @hll) ?_
 refine AW.seq fun K1 hK1 => ?_
 refine AW.sg [0,4,5,6] [] (e4 @hrl @hlen @hrll @hll) ?_
 refine AW.block ?_
 refine AW.nilOwn 5 200 1 (by simp only [go_sem, reduceIte, zE]) ?_
 refine AW.keep [0, 4, 5, 6] [200] ?_
 simp only [go_sem, reduceIte, zE]
 refine AW.loopE (fun mm ee ss kk => ∃ (i g v : Nat), n - i = mm ∧ ee = [(0, .rsl 1 (rowsR t)), (4, .rsl 1 (rowsR l)), (5, .sl ⟨200, g, none⟩ 0 i none), (6, .int .i64 (i : Nat))] ∧ ss = [(200, some ⟨g, v, 1, ya9 (u.take i)⟩)] ∧ (i ≤ n)) ?_ ?_
 ·exact ⟨_, 0, _, _, rfl, eD, eD, eT⟩
 rintro mm ee ss kk ⟨i, g, v, rfl, rfl, rfl, hI⟩
 generalize hQl1 : ya1 _ _ = Ql1
 refine AW.seq fun K2 hK2 => ?_
 refine AW.sg [0,4,5,6,17] [200] (e4 @hrl @hlen @hrll @hll) ?_
 refine AW.cn ?_ ?_
 ·intro hb
  have hrw := hsi.rowLen (i := i) (by omega)
  have hti := ygo (t := u) (i := i) (by omega)
  have htl : (ya9 (u.take i)).length = i := by rw [ybc]; simp; omega
  have htk : (ya9 (u.take i)).take i = ya9 (u.take i) := List.take_of_length_le (by omega)
  have hrow : ∀ j, j < n → (rowT u i).getD j false = (atT t i j && !atT l i j) := fun j hj => hai i j (by omega) hj
  generalize hb' : rowT u i = b at *
  have hap := yd4 (u.take i) b
  have hgl := fun x => ylk (ya9 (u.take i)) x htl
  have hsl2 := fun x y => yll (ya9 (u.take i)) x y htl
  have hll2 := fun x => ylm (ya9 (u.take i)) x htl
  have hgr := yb2 (t := t) (i := i) (by omega)
  have hgr2 := yb2 (t := l) (i := i) (by omega)
  have hrt := hs.rowLen (i := i) (by omega)
  have hrt2 := hsl.rowLen (i := i) (by omega)
  refine AW.skip ?_
  refine hK2 _ _ _ ?_; clear hK2
  refine AW.seq fun K3 hK3 => ?_
  refine AW.block ?_
  refine AW.sg [0,4,5,6,7] [22,200] (e4 @hrl @hlen @hrll @hll) ?_
  refine AW.seq fun K4 hK4 => ?_
  refine AW.sg [0,4,5,6,7,8] [22,200] (e4 @hrl @hlen @hrll @hll) ?_
  refine AW.block ?_
  refine AW.loopE (fun mm ee ss kk => ∃ (j g17 v17 g v : Nat), n - j = mm ∧ ee = [(0, .rsl 1 (rowsR t)), (4, .rsl 1 (rowsR l)), (5, .sl ⟨200, g, none⟩ 0 i none), (6, .int .i64 (i : Nat)), (7, .sl ⟨22, g17, none⟩ 0 n none), (8, .int .i64 (j : Nat))] ∧ ss = [(22, some ⟨g17, v17, 1, ybh (yj4 b n j)⟩), (200, some ⟨g, v, 1, ya9 (u.take i)⟩)] ∧ (j ≤ n)) ?_ ?_
  ·refine ⟨_, 0, ?_, ?_, ?_, ?_, rfl, ?henv, ?hstore, ?hst⟩
   case henv =>
    repeat' (first | rfl | apply yaa | apply yad | apply yai | apply yae | apply yaj | apply yak | apply yap | apply yal | apply yam | apply yaf | apply yab)
    all_goals (first | (simp; done) | omega | (simp; omega))
   case hstore =>
    repeat' (first | rfl | apply yaa | apply yad | apply yai | apply yae | apply yaj | apply yak | apply yap | apply yal | apply yam | apply yaf | apply yab)
    all_goals (rw [yjd]; simp [ybh])
   case hst =>
    first | trivial | omega | (simp; done) | (simp; omega)
  rintro mm ee ss kk ⟨j, g17, v17, g, v, rfl, rfl, rfl, hI⟩
  generalize hQl2 : ya1 _ _ = Ql2
  refine AW.seq fun K5 hK5 => ?_
  refine AW.sg [0,4,5,6,7,8,26] [22,200] (e4 @hrl @hlen @hrll @hll) ?_
  refine AW.cn ?_ ?_
  ·intro hb
   have hfs := yje hrw (i := j) (by omega)
   have hfl := yli hrw (i := j) (by omega)
   have hgb := ybm (l := rowT t i) (i := j) (by omega)
   have hgb2 := ybm (l := rowT l i) (i := j) (by omega)
   have hat : (rowT t i).getD j false = atT t i j := rfl
   have hat2 : (rowT l i).getD j false = atT l i j := rfl
   rw [hat] at hgb
   rw [hat2] at hgb2
   rw [hrow j (by omega)] at hfs
   refine AW.skip ?_
   refine hK5 _ _ _ ?_; clear hK5
   refine AW.seq fun K6 hK6 => ?_
   refine AW.block ?_
   refine AW.rg [0,4,5,6,7,8] [22,200] (e3 @hrl @hlen (e5 @hrll @hll @hgr @hrt (e5 @hgb @hgr2 @hrt2 @hgb2 @hfl))) ?_
   repeat with_reducible refine cj ?_ ?_
   all_goals try first | ((intro hh; (repeat' apply And.intro) <;> first | exact hh | omega)) | (intros; (repeat' apply And.intro) <;> first | assumption | ((intro hh; (repeat' apply And.intro) <;> first | exact hh | omega))) | omega | (intro hgd; exact absurd hgd (by decide)) | rfl | (simp only [go_sem, reduceIte, reduceCtorEq, zA, zM, zE, zL, zD, zS, zP, zB, zI, zR, hrl, hlen, hrll, hll, hgr, hrt, hgb, hgr2, hrt2, hgb2, hfl]; done) | (intro _hgd; simp_all [go_sem]; done)
   refine hK6 _ _ _ ?_; clear hK6
   refine AW.rg [0,4,5,6,7,8] [22,200] (e4 @hrl @hlen @hrll @hll) ?_
   rw [← hQl2]; change Exists _
   refine ⟨_, ?hm, j + 1, ?_, ?_, ?_, ?_, rfl, ?henv, ?hstore, ?hst⟩
   case henv =>
    repeat' (first | rfl | apply yaa | apply yad | apply yai | apply yae | apply yaj | apply yak | apply yap | apply yal | apply yam | apply yaf | apply yab)
    all_goals (first | (simp; done) | omega | (simp; omega))
   case hstore =>
    repeat' (first | rfl | apply yaa | apply yad | apply yai | apply yae | apply yaj | apply yak | apply yap | apply yal | apply yam | apply yaf | apply yab)
    all_goals (rw [← hfs])
   case hst =>
    first | trivial | omega | (simp; done) | (simp; omega)
   case hm => omega
  ·intro hb
   have hj : j = n := by omega
   subst hj
   rw [ylj hrw]
   refine AW.exit ?_
   rw [← hQl2]
   refine hK4 _ _ _ ?_; clear hK4
   refine AW.regionK 0 (fun _ => none) [0, 4, 5, 6] [22, 200] ?_
   simp only [go_sem, reduceIte, reduceCtorEq, zA, zM, zE, zL, zD, zS, zP, zB, zI, zR, hrl, hlen, hrll, hll, htk, htl]
   repeat with_reducible refine cj ?_ ?_
   all_goals try first | omega | (simp [scP, ybl]; done) | exact ya6 _ | exact ybi _ | exact ya7 _
   refine hK3 _ _ _ ?_; clear hK3
   refine AW.adoptK 200 i 0 22 ?_
   simp only [go_sem, reduceIte, zE, hgl, hsl2, hll2]
   repeat refine cj ?_ ?_
   any_goals first | exact yck _ | exact ydf _ | decide | exact hlj | (rw [hrw]; done) | (rw [hcn]; done) | omega
   refine AW.keep [0, 4, 5, 6] [200] ?_
   simp only [go_sem, reduceIte, zE, hap]
   refine AW.rg [0,4,5,6] [200] (e4 @hrl @hlen @hrll @hll) ?_
   rw [← hQl1]; change Exists _
   refine ⟨_, ?hm, i + 1, ?_, ?_, rfl, ?henv, ?hstore, ?hst⟩
   case henv =>
    repeat' (first | rfl | apply yaa | apply yad | apply yai | apply yae | apply yaj | apply yak | apply yap | apply yal | apply yam | apply yaf | apply yab)
    all_goals (first | (simp; done) | omega | (simp; omega))
   case hstore =>
    repeat' (first | rfl | apply yaa | apply yad | apply yai | apply yae | apply yaj | apply yak | apply yap | apply yal | apply yam | apply yaf | apply yab)
    all_goals (rw [hti])
   case hst =>
    first | trivial | omega | (simp; done) | (simp; omega)
   case hm => omega
 ·intro hb
  refine AW.exit ?_
  rw [← hQl1]
  refine hK1 _ _ _ ?_; clear hK1
  refine AW.sg [2] [200] (e4 @hrl @hlen @hrll @hll) ?_
  rw [← hQr]
  refine AW.rt (e4 @hrl @hlen @hrll @hll) ?_
  have hi : i = n := by omega
  subst hi
  rw [List.take_of_length_le (by omega : u.length ≤ i), List.take_of_length_le (by rw [ybc]; omega), yez]
  exact Wk.refl _
end Go.Proofs.B

/- The reference's list of ideals, plainly. -/
namespace Go.AM
/-- The place of a set in a sorted list. -/
def insP (l : List (List Bool)) (s : List Bool) : Nat := (l.takeWhile fun x => decide (cmpS x s < 0)).length
def ygx (l : List (List Bool)) (s : List Bool) : List (List Bool) := l.take (insP l s) ++ s :: l.drop (insP l s)
theorem insP_eq {l : List (List Bool)} {s : List Bool} : ∀ {i : Nat} (_ : i ≤ l.length) (_ : ∀ j, j < i → cmpS (l.getD j []) s < 0) (_ : i < l.length → ¬ cmpS (l.getD i []) s < 0), insP l s = i := by
  induction l with
  | nil => intro i h1 _ _; simp [insP]; simp at h1; exact h1.symm
  | cons x l ih =>
    intro i h1 h2 h3
    unfold insP
    cases i with
    | zero =>
      have := h3 (by simp)
      rw [List.takeWhile_cons, if_neg (by simpa using this)]; rfl
    | succ i =>
      have h0 := h2 0 (by omega)
      rw [List.takeWhile_cons, if_pos (by simpa using h0), List.length_cons]
      have := ih (i := i) (by simpa using h1) (fun j hj => by have := h2 (j + 1) (by omega); simpa using this) (fun h => by have := h3 (by simp; omega); simpa using this)
      unfold insP at this
      rw [this]
theorem insP_le (l : List (List Bool)) (s : List Bool) : insP l s ≤ l.length := by
  unfold insP; exact (List.takeWhile_sublist _).length_le
theorem ymb (l : List (List Bool)) (s : List Bool) : (ygx l s).length = l.length + 1 := by
  unfold ygx
  have := insP_le l s
  simp; omega
theorem insAt_cons (x : List Bool) (l : List (List Bool)) (s : List Bool) : ygx (x :: l) s = if cmpS x s < 0 then x :: ygx l s else s :: x :: l := by
  unfold ygx insP
  rw [List.takeWhile_cons]
  by_cases h : cmpS x s < 0
  · simp [h]
  · simp [h]
theorem ynb {n : Nat} {s : List Bool} (hs : s.length = n) : ∀ {l : List (List Bool)} (_ : ∀ a ∈ l, a.length = n) (_ : StrS l) (_ : s ∉ l), ygx l s = insS s l
  | [], _, _, _ => rfl
  | x :: l, hl, h, hn => by
    obtain ⟨ha, hb⟩ := List.pairwise_cons.1 h
    have hx := hl x (by simp)
    have hne : s ≠ x := fun e => hn (by simp [e])
    rw [insAt_cons]
    unfold insS
    by_cases h1 : cmpS x s < 0
    · rw [if_pos h1, if_neg (ym4 (by omega) h1), if_neg hne, ynb hs (fun a ha => hl a (by simp [ha])) hb (fun h => hn (by simp [h]))]
    · rw [if_neg h1, if_pos]
      exact (cmpS_total (by omega) hne).resolve_right h1
end Go.AM

namespace Go.Proofs.B
open Go.AM Go
set_option maxRecDepth 100000
set_option maxHeartbeats 4000000
theorem yoj (b : List Bool) (hb : b.length ≤ 512) (i : Nat) (h1 : i < b.length) : Reads Tryz.prog 68 false [.agg [.int .i64 b.length, .rsl 1 (words (setW b b.length))], .int .i64 (i : Nat)] (.bool (b.getD i false)) := by
 have h0 : 0 ≤ (i : Int) := by omega
 have hd := ybx (i := (i : Int)) (n := b.length) h0 (by omega)
 have hwl := yaq b
 have hgw := ya4 (l := setW b b.length) (i := ((i : Int).tdiv 64).toNat) (by omega)
 have hwr := yu8 h0
 have hm := yke (b := b) h0 (by omega)
 rw [Int.toNat_natCast] at hm
 have hbl := yca hb
 unfold hasW at *
 generalize setW b b.length = W at *
 refine Reads.body (rs := [.tmp 4]) Tryz.func68 rfl Tryz.ntmps68 rfl (by simp) ?_
 generalize hQr : retQ _ _ _ = Qr
 refine AW.sg [1,2] [2] trivial ?_
 refine AW.sg [4] [] (e2 @hgw @hwr) ?_
 rw [← hQr]
 refine AW.rt trivial ?_
 exact Wk.of_eq (by rw [hm])
def befB (a b : List Bool) : Bool := decide (cmpS a b < 0)
theorem yvd (a b : List Bool) (ha : a.length ≤ 512) (hl : b.length = a.length) : Reads Tryz.prog 99 false [.agg (rowB a), .agg (rowB b)] (.bool (befB a b)) := by
 have hlb : b.length ≤ 512 := by omega
 have hsa := yuk a ha
 have hsb := yuk b hlb
 have hba := fun i hi => yoj a ha i hi
 have hbb := fun i hi => yoj b hlb i hi
 unfold rowB
 rw [hl] at hsb hbb ⊢
 refine Reads.body (rs := [.tmp 4]) Tryz.func99 rfl Tryz.ntmps99 rfl (by simp) ?_
 generalize hQr : retQ _ _ _ = Qr
 refine AW.sg [2,3] [2,3] trivial ?_
 refine AW.so 0 (fun ii => if ii = 1 then some (.reads false (.int .i64 ((memB a).length : Nat))) else none) [2,3,5] [2,3] trivial ?_
 repeat with_reducible refine cj ?_ ?_
 all_goals try first | (exact hsa) | omega | exact ent (by kernel_rfl)
 refine AW.so 0 (fun ii => if ii = 1 then some (.reads false (.int .i64 ((memB b).length : Nat))) else none) [2,3,5,6] [2,3] trivial ?_
 repeat with_reducible refine cj ?_ ?_
 all_goals try first | (exact hsb) | omega | exact ent (by kernel_rfl)
 refine AW.seq fun K1 hK1 => ?_
 refine AW.sg [2,3,5,6,14] [2,3] trivial ?_
 refine AW.cn ?_ ?_
 ·intro hb
  refine AW.sg [4] [] trivial ?_
  rw [← hQr]
  refine AW.rt trivial ?_
  refine Wk.of_eq (congrArg AV.bool ?_)
  unfold befB
  refine decide_eq_decide.2 ?_
  rw [yl3]
  unfold cntB
  constructor
  ·intro h; exact ⟨fun e => by subst e; omega, .inl (by omega)⟩
  ·rintro ⟨_, h | ⟨h, _⟩⟩ <;> omega
 ·intro hb
  have hceq : cntB a = cntB b := by unfold cntB; omega
  refine AW.skip ?_
  refine hK1 _ _ _ ?_; clear hK1
  refine AW.seq fun K2 hK2 => ?_
  refine AW.sg [2,3,7] [2,3] trivial ?_
  refine AW.block ?_
  refine AW.loopE (fun mm ee ss kk => ∃ (i g2 v2 g3 v3 : Nat), a.length - i = mm ∧ ee = [(2, .ptr ⟨2, g2, none⟩ 0 0), (3, .ptr ⟨3, g3, none⟩ 0 0), (7, .int .i64 (i : Nat))] ∧ ss = [(2, some ⟨g2, v2, 2, [[.int .i64 a.length, .rsl 1 (words (setW a a.length))]]⟩), (3, some ⟨g3, v3, 2, [[.int .i64 a.length, .rsl 1 (words (setW b a.length))]]⟩)] ∧ (i ≤ a.length ∧ ∀ j, j < i → a.getD j false = b.getD j false)) ?_ ?_
  ·exact ⟨_, 0, _, _, _, _, rfl, eD, eD, (⟨by omega, fun j hj => by omega⟩)⟩
  rintro mm ee ss kk ⟨i, g2, v2, g3, v3, rfl, rfl, rfl, hI⟩
  generalize hQl1 : ya1 _ _ = Ql1
  obtain ⟨hj, hall⟩ := hI
  refine AW.seq fun K3 hK3 => ?_
  refine AW.sg [2,3,7,21] [2,3] trivial ?_
  refine AW.cn ?_ ?_
  ·intro hb
   have hai := hba i (by omega)
   have hbi := hbb i (by omega)
   refine AW.skip ?_
   refine hK3 _ _ _ ?_; clear hK3
   refine AW.seq fun K4 hK4 => ?_
   refine AW.block ?_
   refine AW.sd mixed 0 (fun ii => if ii = 2 then some (.reads false (.bool (a.getD i false))) else if ii = 5 then some (.reads false (.bool (b.getD i false))) else none) [2,3,7,30] [2,3] trivial ?_
   repeat with_reducible refine cj ?_ ?_
   all_goals try first | (first | exact hai | exact hbi) | omega | exact chk (by kernel_rfl) | exact ent (by kernel_rfl)
   refine AW.cn ?_ ?_
   ·intro hb
    refine AW.so 0 (fun ii => if ii = 2 then some (.reads false (.bool (a.getD i false))) else none) [4] [] trivial ?_
    repeat with_reducible refine cj ?_ ?_
    all_goals try first | (exact hai) | omega | exact ent (by kernel_rfl)
    rw [← hQl1, ← hQr]
    refine AW.rt trivial ?_
    refine Wk.of_eq (congrArg AV.bool ?_)
    have hne : a.getD i false ≠ b.getD i false := fun e => by rw [e] at hb; simp at hb
    unfold befB cmpS
    rw [if_neg (fun e => hne (by rw [e])), if_neg (by omega), if_neg (by omega), yjk (m := i) (by omega) (by omega) hall hne]
    cases a.getD i false <;> rfl
   ·intro hb
    have heq : a.getD i false = b.getD i false := by revert hb; cases a.getD i false <;> cases b.getD i false <;> simp
    refine AW.skip ?_
    refine hK4 _ _ _ ?_; clear hK4
    refine AW.rg [2,3,7] [2,3] trivial ?_
    rw [← hQl1]; change Exists _
    refine ⟨_, eO, i + 1, _, _, _, _, rfl, eD, eD, ?_⟩
    refine ⟨by omega, fun j hj => ?_⟩; rcases Nat.lt_succ_iff_lt_or_eq.1 hj with h | h; exact hall j h; subst h; exact heq
  ·intro hb
   refine AW.kx [] [] ?_
   rw [← hQl1]
   refine hK2 _ _ _ ?_; clear hK2
   refine AW.sg [4] [] trivial ?_
   rw [← hQr]
   refine AW.rt trivial ?_
   refine Wk.of_eq ?_
   have hab : a = b := yqx (n := a.length) rfl hl fun j hj => hall j (by omega)
   subst hab
   unfold befB
   rw [cmpS_self]
   rfl
def insL (l : List (List Bool)) (s : List Bool) : List (List Bool) := if s ∈ l then l else ygx l s
theorem insP_in {n : Nat} {s : List Bool} (hs : s.length = n) {l : List (List Bool)} (hl : ∀ a ∈ l, a.length = n) (hst : StrS l) {j : Nat} (hj : j ≤ l.length) (hall : ∀ i, i < j → cmpS (l.getD i []) s < 0) (hno : j < l.length → ¬ cmpS (l.getD j []) s < 0) : (s ∈ l ↔ j < l.length ∧ ¬ cmpS s (l.getD j []) < 0) := by
 have hg : ∀ i (hi : i < l.length), l.getD i [] = l[i] := fun i hi => by simp [List.getD_eq_getElem?_getD, hi]
 constructor
 ·intro hm
  obtain ⟨q, hq, he⟩ := List.getElem_of_mem hm
  have hjq : ¬ q < j := fun h => by
   have := hall q h
   rw [hg q hq, he, cmpS_self] at this; omega
  have hj1 : j < l.length := by omega
  by_cases e : j = q
  ·subst e
   refine ⟨hj1, ?_⟩
   rw [hg j hj1, he, cmpS_self]; omega
  ·have := List.pairwise_iff_getElem.1 hst j q hj1 hq (by omega)
   rw [he] at this
   exact absurd this (by have := hno hj1; rw [hg j hj1] at this; exact this)
 ·rintro ⟨h1, h2⟩
  have h3 := hno h1
  have hm := ycu h1 ([] : List Bool)
  have he : l.getD j [] = s := ypx (by rw [hs, hl _ hm]) h3 h2
  rw [← he]; exact hm
theorem rins_r (n : Nat) (L : List (List Bool)) (s : List Bool) (hs0 : s.length = n) (hn0 : n ≤ 512) (hL0 : ∀ b ∈ L, b.length = n) (hst : StrS L) (hn : L.length ≤ 100000000) : Reads Tryz.prog 69 false [.rsl 2 (tabR L), .agg (rowB s)] (.rsl 2 (tabR (insL L s))) := by
 have hs : s.length ≤ 512 := by omega
 have hL : ∀ b ∈ L, b.length = s.length := fun b hb => by rw [hL0 b hb, hs0]
 have hcm := fun b (hb : b ∈ L) => yvd b s (by rw [hL b hb]; exact hs) (hL b hb).symm
 have hcm2 := fun b (hb : b ∈ L) => yvd s b hs (hL b hb)
 have hLl := yas L
 have hil := ymb L s
 have hit := yas (ygx L s)
 have hin := fun j hj h1 h2 => insP_in hs0 hL0 hst (j := j) hj h1 h2
 unfold rowB befB at *
 refine Reads.body (rs := [.tmp 4]) Tryz.func69 rfl Tryz.ntmps69 rfl (by simp) ?_
 generalize hQr : retQ _ _ _ = Qr
 refine AW.sg [0,3] [3] (@hLl) ?_
 refine AW.sg [0,3,5] [3] (@hLl) ?_
 refine AW.seq fun K1 hK1 => ?_
 refine AW.block ?_
 refine AW.loopE (fun mm ee ss kk => ∃ (j g v : Nat), L.length - j = mm ∧ ee = [(0, .rsl 2 (tabR L)), (3, .ptr ⟨3, g, none⟩ 0 0), (5, .int .i64 (j : Nat))] ∧ ss = [(3, some ⟨g, v, 2, [[.int .i64 s.length, .rsl 1 (words (setW s s.length))]]⟩)] ∧ (j ≤ L.length ∧ ∀ i, i < j → cmpS (L.getD i []) s < 0)) ?_ ?_
 ·exact ⟨_, 0, _, _, rfl, eD, eD, (⟨by omega, fun i hi => by omega⟩)⟩
 rintro mm ee ss kk ⟨j, g, v, rfl, rfl, rfl, hI⟩
 generalize hQl1 : ya1 _ _ = Ql1
 obtain ⟨hj, hall⟩ := hI
 have hgt : j < L.length → (tabR L).getD j [] = [.int .i64 (L.getD j []).length, .rsl 1 (words (setW (L.getD j []) (L.getD j []).length))] := fun h => ybq h
 have hct : j < L.length → _ := fun h => hcm (L.getD j []) (ycu h _)
 have hct2 : j < L.length → _ := fun h => hcm2 (L.getD j []) (ycu h _)
 refine AW.seq fun K2 hK2 => ?_
 refine AW.sd mixed 0 (fun ii => if ii = 10 then some (.reads false (.bool (decide (cmpS (L.getD j []) s < 0)))) else none) [0,3,5,18] [3] (e3 @hLl @hLl @hgt) ?_
 repeat with_reducible refine cj ?_ ?_
 all_goals try first | ((intro hh; exact ⟨hh, hct (by omega)⟩)) | (intros; (repeat' apply And.intro) <;> first | assumption | ((intro hh; exact ⟨hh, hct (by omega)⟩))) | omega | exact chk (by kernel_rfl) | exact ent (by kernel_rfl) | (intro hgd; exact absurd hgd (by decide)) | rfl | (simp only [go_sem, reduceIte, reduceCtorEq, zA, zM, zE, zL, zD, zS, zP, zB, zI, zR, hLl, hLl, hgt]; done) | (intro _hgd; simp_all [go_sem]; done)
 refine AW.cn ?_ ?_
 ·intro hb
  refine AW.skip ?_
  refine hK2 _ _ _ ?_; clear hK2
  refine AW.block ?_
  refine AW.rg [0,3,5] [3] (@hLl) ?_
  rw [← hQl1]; change Exists _
  refine ⟨_, eO, j + 1, _, _, rfl, eD, eD, ?_⟩
  refine ⟨by omega, fun i hi => ?_⟩; rcases Nat.lt_succ_iff_lt_or_eq.1 hi with h | h; exact hall i h; subst h; exact hb.2
 ·intro hb
  have hnl : j < L.length → ¬ cmpS (L.getD j []) s < 0 := fun h => by rcases hb with hb | hb <;> omega
  have hp : insP L s = j := insP_eq hj hall hnl
  have hmi := hin j hj hall hnl
  refine AW.exit ?_
  rw [← hQl1]
  refine hK1 _ _ _ ?_; clear hK1
  refine AW.seq fun K3 hK3 => ?_
  refine AW.sd mixed 0 (fun ii => if ii = 10 then some (.reads false (.bool (decide (cmpS s (L.getD j []) < 0)))) else none) [0,3,5,33] [3] (e3 @hLl @hLl @hgt) ?_
  repeat with_reducible refine cj ?_ ?_
  all_goals try first | ((intro hh; exact ⟨hh, hct2 (by omega)⟩)) | (intros; (repeat' apply And.intro) <;> first | assumption | ((intro hh; exact ⟨hh, hct2 (by omega)⟩))) | omega | exact chk (by kernel_rfl) | exact ent (by kernel_rfl) | (intro hgd; exact absurd hgd (by decide)) | rfl | (simp only [go_sem, reduceIte, reduceCtorEq, zA, zM, zE, zL, zD, zS, zP, zB, zI, zR, hLl, hLl, hgt]; done) | (intro _hgd; simp_all [go_sem]; done)
  refine AW.cn ?_ ?_
  ·intro hb
   refine AW.sg [4] [] (@hLl) ?_
   rw [← hQr]
   refine AW.rt (@hLl) ?_
   have hm : s ∈ L := hmi.2 ⟨by omega, by omega⟩
   exact Wk.of_eq (by unfold insL; rw [if_pos hm])
  ·intro hb
   have hm : s ∉ L := fun h => by have := hmi.1 h; omega
   have htt : (tabR L).take j = tabR (L.take j) := by unfold tabR; rw [List.map_take]
   have htd : (tabR L).drop j = tabR (L.drop j) := by unfold tabR; rw [List.map_drop]
   have hl1 : (tabR (L.take j)).length = j := by rw [yas, List.length_take]; omega
   have hl2 : (tabR (L.drop j)).length = L.length - j := by rw [yas, List.length_drop]
   have hk1 : (tabR (L.take j)).take j = tabR (L.take j) := List.take_of_length_le (by omega)
   have hk2 : (tabR (L.drop j)).take (L.length - j) = tabR (L.drop j) := List.take_of_length_le (by omega)
   have hp1 : tabR (L.take j) ++ [[.int .i64 s.length, .rsl 1 (words (setW s s.length))]] = tabR (L.take j ++ [s]) := by simp [tabR, rowB]
   have hk3 : (tabR (L.take j ++ [s])).take (j + 1) = tabR (L.take j ++ [s]) := List.take_of_length_le (by rw [yas, List.length_append, List.length_take]; simp; omega)
   have hp2 : tabR (L.take j ++ [s]) ++ tabR (L.drop j) = tabR (ygx L s) := by simp [tabR, ygx, hp]
   have hk4 : (tabR (ygx L s)).take (j + (1 + (L.length - j))) = tabR (ygx L s) := List.take_of_length_le (by omega)
   refine AW.skip ?_
   refine hK3 _ _ _ ?_; clear hK3
   refine AW.sg [0,3,5,6] [3,39] (e2 @hLl (e5 @hLl @htt @htd @hl1 @hl2)) ?_
   repeat with_reducible refine cj ?_ ?_
   all_goals try first | (exact ykj _) | omega | (simp [scP, ybl]; done) | exact ya6 _ | exact ybi _ | exact ya7 _
   refine AW.sg [0,5,6] [39] (e4 @hLl @htt @htd (e5 @hl1 @hl2 @hLl @hk1 @hp1)) ?_
   repeat with_reducible refine cj ?_ ?_
   all_goals try first | (exact ykj _) | omega | (simp [scP, ybl]; done) | exact ya6 _ | exact ybi _ | exact ya7 _
   refine AW.sg [4] [39] (e5 @hLl @htt @htd @hl1 (e5 @hl2 @hLl @hk2 @hk3 @hp2)) ?_
   repeat with_reducible refine cj ?_ ?_
   all_goals try first | (exact ykj _) | omega | (simp [scP, ybl]; done) | exact ya6 _ | exact ybi _ | exact ya7 _
   rw [← hQr]
   refine AW.rt (@hLl) ?_
   exact Wk.of_eq (by unfold insL; rw [if_neg hm]; simp only [hk4, ynt])
end Go.Proofs.B

/- The reference's ideals, plainly. -/
namespace Go.AM
def yj6 (l : List (List Bool)) (s : List Bool) : List (List Bool) := if s ∈ l then l else ygx l s
theorem insAt_mem (l : List (List Bool)) (s a : List Bool) : a ∈ ygx l s ↔ a = s ∨ a ∈ l := by
  unfold ygx
  rw [List.mem_append, List.mem_cons]
  have : a ∈ l ↔ a ∈ l.take (insP l s) ∨ a ∈ l.drop (insP l s) := by rw [← List.mem_append, List.take_append_drop]
  rw [this]
  constructor
  · rintro (h | h | h)
    · exact .inr (.inl h)
    · exact .inl h
    · exact .inr (.inr h)
  · rintro (h | h | h)
    · exact .inr (.inl h)
    · exact .inl h
    · exact .inr (.inr h)
theorem yiy (l : List (List Bool)) (s a : List Bool) : a ∈ yj6 l s ↔ a = s ∨ a ∈ l := by
  unfold yj6
  split
  · rename_i h
    exact ⟨.inr, fun h' => h'.elim (fun e => by rw [e]; exact h) id⟩
  · exact insAt_mem l s a
theorem insL_str {n : Nat} {l : List (List Bool)} {s : List Bool} (hl : ∀ a ∈ l, a.length = n) (hs : s.length = n) (h : StrS l) : StrS (yj6 l s) := by
  unfold yj6
  split
  · exact h
  · rename_i hn
    rw [ynb hs hl h hn]
    exact yn7 hs hl h
theorem insL_le (l : List (List Bool)) (s : List Bool) : (yj6 l s).length ≤ l.length + 1 := by
  unfold yj6
  split
  · omega
  · rw [ymb]; exact Nat.le_refl _
theorem insL_ge (l : List (List Bool)) (s : List Bool) : l.length ≤ (yj6 l s).length := by
  unfold yj6
  split
  · omega
  · rw [ymb]; omega
/-- What stands before a place stays, if what comes in belongs yc2 it. -/
theorem insL_at {l : List (List Bool)} {s b : List Bool} {n p : Nat} (hl : ∀ a ∈ l, a.length = n) (hs : s.length = n) (h : StrS l) (hp : l[p]? = some b) (hb : cmpS b s < 0) : (yj6 l s)[p]? = some b := by
  unfold yj6
  split
  · exact hp
  · obtain ⟨h1, h2⟩ := List.getElem?_eq_some_iff.1 hp
    have hlt : p < insP l s := by
      apply Classical.byContradiction
      intro hno
      have hle : insP l s ≤ p := by omega
      have hq : insP l s < l.length := by omega
      have hnot : ¬ cmpS (l[insP l s]) s < 0 := by
        have : ∀ (l : List (List Bool)) (hq : insP l s < l.length), ¬ cmpS (l[insP l s]) s < 0 := by
          intro l
          unfold insP
          induction l with
          | nil => intro hq; simp at hq
          | cons x l ih =>
            intro hq
            by_cases hx : cmpS x s < 0
            · simp only [List.takeWhile_cons, decide_eq_true hx, if_true, List.length_cons] at hq ⊢
              simp only [List.getElem_cons_succ]
              exact ih (by simpa using hq)
            · simp only [List.takeWhile_cons, decide_eq_false hx, Bool.false_eq_true, if_false, List.length_nil] at hq ⊢
              simpa using hx
        exact this l hq
      rcases Nat.lt_or_eq_of_le hle with h3 | h3
      · have h4 := List.pairwise_iff_getElem.1 h (insP l s) p hq h1 h3
        rw [h2] at h4
        refine hnot (cmpS_trans ?_ ?_ h4 hb)
        · rw [hl _ (List.getElem_mem hq), ← h2, hl _ (List.getElem_mem h1)]
        · rw [hs, hl _ (List.getElem_mem hq)]
      · have : l[insP l s] = b := by rw [← h2]; congr 1
        rw [this] at hnot
        exact hnot hb
    unfold ygx
    rw [List.getElem?_append_left (by rw [List.length_take]; omega), List.getElem?_take, if_pos hlt, hp]
/-- What holds of the list of ideals that grows. -/
structure RidI (n : Nat) (t : List (List Bool)) (O : List (List Bool)) (at_ : Nat) : Prop where
  str : StrS O
  id : ∀ b ∈ O, b.length = n ∧ idB n t b = true
  emp : List.replicate n false ∈ O
  kid : ∀ p, p < at_ → ∀ b, O[p]? = some b → ∀ j, j ∈ nxL t b n n → b.set j true ∈ O
  le : at_ ≤ O.length
theorem RidI.init {n : Nat} {t : List (List Bool)} : RidI n t [List.replicate n false] 0 :=
  ⟨List.pairwise_singleton .., fun b hb => by rw [List.mem_singleton.1 hb]; exact ⟨by simp, ysm n t⟩, by simp, fun p hp => by omega, by simp⟩
theorem RidI.all {n : Nat} {t : List (List Bool)} (hp : IsPo n t) {O : List (List Bool)} (h : RidI n t O O.length) : O = allU (invT n t) n := by
  refine StrS.unique (n := n) (fun a ha => (h.id a ha).1) yod h.str (allU_str _ _) fun a => ⟨fun ha => (ysp hp a).2 (h.id a ha), fun ha => ?_⟩
  have key : ∀ k, ∀ b, b ∈ lvlK (invT n t) n k → b ∈ O := by
    intro k
    induction k with
    | zero => intro b hb; simp only [lvlK, List.mem_singleton] at hb; rw [hb]; exact h.emp
    | succ k ih =>
      intro b hb
      obtain ⟨c, hc, hk⟩ := (ysn (invT n t) (lvlK (invT n t) n k) b).1 hb
      have hcO := ih c hc
      have hcl := (h.id c hcO).1
      obtain ⟨j, hj, rfl⟩ := (yoc hcl).1 hk
      obtain ⟨p, hp1, hp2⟩ := List.getElem_of_mem hcO
      exact h.kid p hp1 c (by rw [List.getElem?_eq_getElem hp1, hp2]) j hj
  obtain ⟨j, _, hj⟩ := mem_outK.1 ha
  exact key j a hj
theorem RidI.len {n : Nat} {t : List (List Bool)} (hp : IsPo n t) {O : List (List Bool)} {a : Nat} (h : RidI n t O a) : O.length ≤ (allU (invT n t) n).length :=
  ysg h.str.nodup fun b hb => (ysp hp b).2 (h.id b hb)
/-- Within a round: the place's set, and how far its children are in. -/
structure RidJ (n : Nat) (t : List (List Bool)) (O : List (List Bool)) (a : Nat) (b : List Bool) (i : Nat) : Prop where
  inv : RidI n t O a
  at_ : O[a]? = some b
  kid : ∀ j, j < i → j ∈ nxL t b n n → b.set j true ∈ O
theorem RidJ.skip {n : Nat} {t O : List (List Bool)} {a i : Nat} {b : List Bool} (h : RidJ n t O a b i) (hn : i ∉ nxL t b n n) : RidJ n t O a b (i + 1) :=
  ⟨h.inv, h.at_, fun j hj hm => by
    rcases Nat.lt_succ_iff_lt_or_eq.1 hj with h1 | h1
    · exact h.kid j h1 hm
    · subst h1; exact absurd hm hn⟩
theorem RidJ.put {n : Nat} {t O : List (List Bool)} (hp : IsPo n t) {a i : Nat} {b : List Bool} (h : RidJ n t O a b i) (hm : i ∈ nxL t b n n) : RidJ n t (yj6 O (b.set i true)) a b (i + 1) := by
  have hbO : b ∈ O := List.mem_of_getElem? h.at_
  obtain ⟨hbl, hbi⟩ := h.inv.id b hbO
  obtain ⟨hin, hnx⟩ := mem_nx.1 hm
  have hf := (nxP_iff.1 hnx).1
  have hsl : (b.set i true).length = n := by simp [hbl]
  have hsi : idB n t (b.set i true) = true := by rw [yqw hp hbl hbi hin hf]; exact decide_eq_true hm
  have hl : ∀ c ∈ O, c.length = n := fun c hc => (h.inv.id c hc).1
  have hcnt := yoa (b := b) (i := i) (by omega) hf
  have hlt : cmpS b (b.set i true) < 0 := by
    rw [yl3]
    refine ⟨fun e => ?_, .inl ?_⟩
    · rw [← e] at hcnt; omega
    · unfold cntB; omega
  have hlow : ∀ p c, p ≤ a → O[p]? = some c → (yj6 O (b.set i true))[p]? = some c := fun p c hpa hc => by
    refine insL_at hl hsl h.inv.str hc ?_
    rcases Nat.lt_or_eq_of_le hpa with h1 | h1
    · obtain ⟨q1, q2⟩ := List.getElem?_eq_some_iff.1 hc
      obtain ⟨r1, r2⟩ := List.getElem?_eq_some_iff.1 h.at_
      have := List.pairwise_iff_getElem.1 h.inv.str p a q1 r1 h1
      rw [q2, r2] at this
      have hcl : c.length = n := hl c (List.mem_of_getElem? hc)
      exact cmpS_trans (by omega) (by omega) this hlt
    · subst h1
      rw [h.at_] at hc
      obtain rfl := Option.some.inj hc
      exact hlt
  refine ⟨⟨insL_str hl hsl h.inv.str, fun c hc => ?_, (yiy _ _ _).2 (.inr h.inv.emp), fun p hp' c hc j hj => ?_, ?_⟩, hlow a b (Nat.le_refl _) h.at_, fun j hj hmj => ?_⟩
  · rcases (yiy _ _ _).1 hc with rfl | hc
    · exact ⟨hsl, hsi⟩
    · exact h.inv.id c hc
  · have hpl : p < O.length := by have := h.inv.le; omega
    have h0 := hlow p (O[p]) (by omega) (List.getElem?_eq_getElem hpl)
    rw [h0] at hc
    obtain rfl := Option.some.inj hc
    exact (yiy _ _ _).2 (.inr (h.inv.kid p hp' _ (List.getElem?_eq_getElem hpl) j hj))
  · have := h.inv.le
    have := insL_ge O (b.set i true)
    omega
  · rcases Nat.lt_succ_iff_lt_or_eq.1 hj with h1 | h1
    · exact (yiy _ _ _).2 (.inr (h.kid j h1 hmj))
    · subst h1; exact (yiy _ _ _).2 (.inl rfl)
theorem RidJ.close {n : Nat} {t O : List (List Bool)} {a : Nat} {b : List Bool} (h : RidJ n t O a b n) : RidI n t O (a + 1) := by
  refine ⟨h.inv.str, h.inv.id, h.inv.emp, fun p hp c hc j hj => ?_, ?_⟩
  · rcases Nat.lt_succ_iff_lt_or_eq.1 hp with h1 | h1
    · exact h.inv.kid p h1 c hc j hj
    · subst h1
      rw [h.at_] at hc
      obtain rfl := Option.some.inj hc
      exact h.kid j (mem_nx.1 hj).1 hj
  · obtain ⟨h1, _⟩ := List.getElem?_eq_some_iff.1 h.at_
    exact h1
end Go.AM

/- A bit that is not set may be added. -/
namespace Go.AM
theorem nat_add_or {w k : Nat} (hw : w < 2 ^ 64) (hk : k < 64) (h : w.testBit k = false) : (w + 2 ^ k) % 2 ^ 64 = w ||| 2 ^ k := by
  have hk2 : 2 ^ k < 2 ^ 64 := Nat.pow_lt_pow_right (by decide) hk
  have e : (BitVec.ofNat 64 w &&& BitVec.ofNat 64 (2 ^ k)) = 0#64 := by
    refine BitVec.eq_of_getLsbD_eq fun i hi => ?_
    rw [BitVec.getLsbD_and, BitVec.getLsbD_ofNat, BitVec.getLsbD_ofNat, BitVec.getLsbD_zero]
    by_cases hik : i = k
    · subst hik; simp [h]
    · rw [Nat.testBit_two_pow_of_ne (fun e => hik e.symm)]; simp
  have := congrArg BitVec.toNat (BitVec.add_eq_or_of_and_eq_zero _ _ e)
  rw [BitVec.toNat_add, BitVec.toNat_or, BitVec.toNat_ofNat, BitVec.toNat_ofNat, Nat.mod_eq_of_lt hw, Nat.mod_eq_of_lt hk2] at this
  exact this
theorem add_bit {b : List Bool} {i : Nat} (hi : i < b.length) (hf : b.getD i false = false) : IntKind.u64.wrap ((setW b b.length).getD ((i : Int).tdiv 64).toNat 0 + bShl .u64 1 ((i : Int).tmod 64)) = bOr .u64 ((setW b b.length).getD ((i : Int).tdiv 64).toNat 0) (bShl .u64 1 ((i : Int).tmod 64)) := by
  have hm := yke (b := b) (i := (i : Int)) (by omega) (by omega)
  rw [Int.toNat_natCast, hf] at hm
  unfold hasW at hm
  have hok := yb9 b
  obtain ⟨h0, h1⟩ := hok ((i : Int).tdiv 64).toNat
  generalize (setW b b.length).getD ((i : Int).tdiv 64).toNat 0 = z at *
  obtain ⟨w, rfl⟩ := Int.eq_ofNat_of_zero_le h0
  have hk : (i : Int).tmod 64 = ((i % 64 : Nat) : Int) := (Int.ofNat_tmod i 64).symm
  rw [hk] at hm ⊢
  have hk64 : i % 64 < 64 := Nat.mod_lt _ (by decide)
  generalize i % 64 = k at *
  have hw : w < 18446744073709551616 := by omega
  have hs := yns hk64
  have hp : 2 ^ k < 18446744073709551616 := by
    have : 2 ^ k ≤ 2 ^ 63 := Nat.pow_le_pow_right (by decide) (by omega)
    exact Nat.lt_of_le_of_lt this (by decide)
  rw [hs, ylb hw hp]
  have ht : w.testBit k = false := by
    rw [ygk hk64] at hm
    rw [Nat.testBit_eq_decide_div_mod_eq]
    rw [decide_eq_false_iff_not] at hm ⊢
    rw [Nat.shiftRight_eq_div_pow] at hm
    intro e
    refine hm ?_
    have := Int.ofNat_tmod (w / 2 ^ k) 2
    rw [e] at this
    simpa using this.symm
  have hao := nat_add_or (w := w) (k := k) (Nat.lt_of_lt_of_eq hw (by decide)) hk64 ht
  rw [← hao]
  generalize 2 ^ k = p
  simp [IntKind.wrap, IntKind.signed, IntKind.bits]
end Go.AM

namespace Go.Proofs.B
open Go.AM Go
set_option maxRecDepth 100000
set_option maxHeartbeats 4000000
abbrev Rws := List (List Bool)
def ridV (u : List (List Bool)) (n : Nat) : AV := if (allU u n).length ≤ 512 then .tup [.rsl 2 (tabR (allU u n)), .bool true] else .tup [.nilsl, .bool false]
theorem yiz (n : Nat) (t : List (List Bool)) (hs : Sq n t) (hn : n ≤ 512) (hpo : IsPo n t) : Reads Tryz.prog 32 false [.rsl 1 (rowsR t)] (ridV (invT n t) n) := by
 have hrl := ybp t
 have hsl := hs.len
 have hwe := ydx (n : Int)
 have hwn := yav (n := (n : Int)) (by omega)
 have hz : List.replicate (ya3 (n : Int)).toNat [AV.int .u64 0] = words (setW (List.replicate n false) n) := by rw [yev]; simp [words]
 have hzl : (words (setW (List.replicate n false) n)).length = (ya3 (n : Int)).toNat := by rw [← hz]; simp
 have htz : (words (setW (List.replicate n false) n)).take (ya3 (n : Int)).toNat = words (setW (List.replicate n false) n) := List.take_of_length_le (by rw [hzl]; exact Nat.le_refl _)
 have hrow0 : tabR [List.replicate n false] = [[.int .i64 n, .rsl 1 (words (setW (List.replicate n false) n))]] := by simp [tabR, rowB]
 have hRa := fun O (h : RidI n t O O.length) => h.all hpo
 have hRl := fun O a (h : RidI n t O a) => h.len hpo
 have hmb := fun b (hb : b.length ≤ 512) i hi => yoj b hb i hi
 refine Reads.body (rs := [.tmp 2, .tmp 3]) Tryz.func32 rfl Tryz.ntmps32 rfl (by simp) ?_
 generalize hQr : retQ _ _ _ = Qr
 refine AW.sg [0] [] trivial ?_
 refine AW.sg [0,4] [] (e2 @hrl @hsl) ?_
 refine AW.sg [0,4,5] [5,18] (e2 @hwe @hz) ?_
 refine AW.sg [0,4,6] [18,21] trivial ?_
 refine AW.seq fun K1 hK1 => ?_
 refine AW.sg [0,4,6,7] [18,21] trivial ?_
 refine AW.block ?_
 refine AW.freezeK [18, 21] [6] [0, 4, 6, 7] [] ?_
 simp only [go_sem, reduceIte, zE, htz, ykc]
 refine AW.keep [0, 4, 6, 7] [] ?_
 simp only [go_sem, reduceIte, zE]
 refine AW.loopE (fun mm ee ss kk => ∃ (a : Nat) (O : Rws), 600 - a = mm ∧ ee = [(0, .rsl 1 (rowsR t)), (4, .int .i64 n), (6, .rsl 2 (tabR O)), (7, .int .i64 (a : Nat))] ∧ ss = [] ∧ (RidI n t O a ∧ a ≤ 512 ∧ O.length ≤ 2000)) ?_ ?_
 ·refine ⟨_, 0, [List.replicate n false], rfl, ?henv, ?hstore, ?hst⟩
  case henv =>
   repeat' (first | rfl | apply yaa | apply yad | apply yai | apply yae | apply yaj | apply yak | apply yap | apply yal | apply yam | apply yaf | apply yab)
   all_goals (first | rfl | (rw [hrow0]; done) | (simp; done) | omega)
  case hstore =>
   repeat' (first | rfl | apply yaa | apply yad | apply yai | apply yae | apply yaj | apply yak | apply yap | apply yal | apply yam | apply yaf | apply yab)
   all_goals (first | (simp; done) | omega | (simp; omega))
  case hst =>
   exact ⟨RidI.init, by omega, by simp⟩
 rintro mm ee ss kk ⟨a, O, rfl, rfl, rfl, hI⟩
 generalize hQl1 : ya1 _ _ = Ql1
 obtain ⟨hR, ha5, hOl⟩ := hI
 have hOt := yas O
 have hOle := hR.le
 refine AW.seq fun K2 hK2 => ?_
 refine AW.sg [0,4,6,7,25] [] (@hOt) ?_
 refine AW.cn ?_ ?_
 ·intro hb
  obtain ⟨b, hb0⟩ := getI (l := O) (j := a) (by omega)
  have hbl := (hR.id b (List.mem_of_getElem? hb0)).1
  have hgb : (tabR O).getD a [] = rowB b := getV (f := rowB) hb0
  unfold rowB at hgb
  rw [hbl] at hgb
  have hmbb := hmb b (by omega)
  rw [hbl] at hmbb
  refine AW.skip ?_
  refine hK2 _ _ _ ?_; clear hK2
  refine AW.seq fun K3 hK3 => ?_
  refine AW.block ?_
  refine AW.seq fun K4 hK4 => ?_
  refine AW.sg [0,4,6,7,30] [] (@hOt) ?_
  refine AW.cn ?_ ?_
  ·intro hb
   refine AW.sg [2,3] [] trivial ?_
   rw [← hQl1, ← hQr]
   refine AW.rt trivial ?_
   have hlen := hRl O a hR
   unfold ridV
   rw [if_neg (by omega)]
   exact Wk.refl _
  ·intro hb
   refine AW.skip ?_
   refine hK4 _ _ _ ?_; clear hK4
   refine AW.sg [0,4,6,7,8] [] trivial ?_
   refine AW.block ?_
   refine AW.loopE (fun mm ee ss kk => ∃ (i : Nat) (O2 : Rws), n - i = mm ∧ ee = [(0, .rsl 1 (rowsR t)), (4, .int .i64 n), (6, .rsl 2 (tabR O2)), (7, .int .i64 (a : Nat)), (8, .int .i64 (i : Nat))] ∧ ss = [] ∧ (i ≤ n ∧ RidJ n t O2 a b i ∧ O2.length ≤ 512 + i)) ?_ ?_
   ·exact ⟨_, 0, O, rfl, eD, eD, (⟨by omega, ⟨hR, hb0, fun j hj => by omega⟩, by omega⟩)⟩
   rintro mm ee ss kk ⟨i, O2, rfl, rfl, rfl, hI⟩
   generalize hQl2 : ya1 _ _ = Ql2
   obtain ⟨hi0, hJ, hO2⟩ := hI
   have hO2t := yas O2
   have hg2 : (tabR O2).getD a [] = rowB b := getV (f := rowB) hJ.at_
   have ha2 : a < O2.length := by obtain ⟨h1, _⟩ := List.getElem?_eq_some_iff.1 hJ.at_; exact h1
   unfold rowB at hg2
   rw [hbl] at hg2
   refine AW.seq fun K5 hK5 => ?_
   refine AW.sg [0,4,6,7,8,33] [] trivial ?_
   refine AW.cn ?_ ?_
   ·intro hb
    have hin : i < n := by omega
    have hmbi := hmbb i hin
    have hnz := nxP_zero t b i
    refine AW.skip ?_
    refine hK5 _ _ _ ?_; clear hK5
    refine AW.seq fun K6 hK6 => ?_
    refine AW.block ?_
    refine AW.so 0 (fun ii => if ii = 5 then some (.reads false (.bool (b.getD i false))) else none) [0,4,6,7,8,9] [] (e2 @hg2 @hO2t) ?_
    repeat with_reducible refine cj ?_ ?_
    all_goals try first | (exact hmbi) | omega | exact ent (by kernel_rfl)
    refine AW.seq fun K7 hK7 => ?_
    refine AW.sg [0,4,6,7,8,9,10] [] trivial ?_
    refine AW.block ?_
    refine AW.loopE (fun mm ee ss kk => ∃ (j : Nat), n - j = mm ∧ ee = [(0, .rsl 1 (rowsR t)), (4, .int .i64 n), (6, .rsl 2 (tabR O2)), (7, .int .i64 (a : Nat)), (8, .int .i64 (i : Nat)), (9, .bool (nxP t b i j)), (10, .int .i64 (j : Nat))] ∧ ss = [] ∧ (j ≤ n)) ?_ ?_
    ·refine ⟨_, 0, rfl, ?henv, ?hstore, ?hst⟩
     case henv =>
      repeat' (first | rfl | apply yaa | apply yad | apply yai | apply yae | apply yaj | apply yak | apply yap | apply yal | apply yam | apply yaf | apply yab)
      all_goals (first | (rw [hnz]; done) | (simp; done) | omega)
     case hstore =>
      repeat' (first | rfl | apply yaa | apply yad | apply yai | apply yae | apply yaj | apply yak | apply yap | apply yal | apply yam | apply yaf | apply yab)
      all_goals (first | (simp; done) | omega | (simp; omega))
     case hst =>
      first | trivial | omega | (simp; done) | (simp; omega)
    rintro mm ee ss kk ⟨j, rfl, rfl, rfl, hI⟩
    generalize hQl3 : ya1 _ _ = Ql3
    refine AW.seq fun K8 hK8 => ?_
    refine AW.sg [0,4,6,7,8,9,10,45] [] trivial ?_
    refine AW.cn ?_ ?_
    ·intro hb
     have hjn : j < n := by omega
     have hgj := yb2 (t := t) (i := j) (by omega)
     have hrj := hs.rowLen hjn
     have hgji := ybm (l := rowT t j) (i := i) (by omega)
     have hmbj := hmbb j hjn
     have hns := nxP_succ t b i j
     have hat : (rowT t j).getD i false = atT t j i := rfl
     rw [hat] at hgji
     generalize rowT t j = rj at *
     refine AW.skip ?_
     refine hK8 _ _ _ ?_; clear hK8
     refine AW.seq fun K9 hK9 => ?_
     refine AW.block ?_
     refine AW.so 0 (fun ii => if ii = 13 then some (.reads false (.bool (b.getD j false))) else none) [0,4,6,7,8,9,10,63] [] (e4 @hgj @hgji @hrl (e5 @hsl @yay @hrj @hg2 @hO2t)) ?_
     repeat with_reducible refine cj ?_ ?_
     all_goals try first | ((intro hh; exact ⟨hh, hmbj⟩)) | (intros; (repeat' apply And.intro) <;> first | assumption | ((intro hh; exact ⟨hh, hmbj⟩))) | omega | exact ent (by kernel_rfl) | (intro hgd; exact absurd hgd (by decide)) | rfl | (simp only [go_sem, reduceIte, reduceCtorEq, zA, zM, zE, zL, zD, zS, zP, zB, zI, zR, hgj, hgji, hrl, hsl, yay, hrj, hg2, hO2t]; done) | (intro _hgd; simp_all [go_sem]; done)
     refine AW.cn ?_ ?_
     ·intro hb
      rw [hb.1, hb.2] at hns
      rw [show (!true || false) = false from rfl, Bool.and_false] at hns
      refine AW.rg [0,4,6,7,8,9,10] [] trivial ?_
      refine hK9 _ _ _ ?_; clear hK9
      refine AW.rg [0,4,6,7,8,9,10] [] trivial ?_
      rw [← hQl3]; change Exists _
      refine ⟨_, ?hm, j + 1, rfl, ?henv, ?hstore, ?hst⟩
      case henv =>
       repeat' (first | rfl | apply yaa | apply yad | apply yai | apply yae | apply yaj | apply yak | apply yap | apply yal | apply yam | apply yaf | apply yab)
       all_goals (first | (rw [hns]; done) | (simp; done) | omega)
      case hstore =>
       repeat' (first | rfl | apply yaa | apply yad | apply yai | apply yae | apply yaj | apply yak | apply yap | apply yal | apply yam | apply yaf | apply yab)
       all_goals (first | (simp; done) | omega | (simp; omega))
      case hst =>
       first | trivial | omega | (simp; done) | (simp; omega)
      case hm => omega
     ·intro hb
      rw [show (!atT t j i || b.getD j false) = true by (rcases hb with hb | hb; rw [hb]; rfl; rw [hb, Bool.or_true]), Bool.and_true] at hns
      refine AW.skip ?_
      refine hK9 _ _ _ ?_; clear hK9
      refine AW.rg [0,4,6,7,8,9,10] [] trivial ?_
      rw [← hQl3]; change Exists _
      refine ⟨_, ?hm, j + 1, rfl, ?henv, ?hstore, ?hst⟩
      case henv =>
       repeat' (first | rfl | apply yaa | apply yad | apply yai | apply yae | apply yaj | apply yak | apply yap | apply yal | apply yam | apply yaf | apply yab)
       all_goals (first | (rw [hns]; done) | (simp; done) | omega)
      case hstore =>
       repeat' (first | rfl | apply yaa | apply yad | apply yai | apply yae | apply yaj | apply yak | apply yap | apply yal | apply yam | apply yaf | apply yab)
       all_goals (first | (simp; done) | omega | (simp; omega))
      case hst =>
       first | trivial | omega | (simp; done) | (simp; omega)
      case hm => omega
    ·intro hb
     have hj : j = n := by omega
     subst hj
     refine AW.exit ?_
     rw [← hQl3]
     refine hK7 _ _ _ ?_; clear hK7
     refine AW.seq fun K10 hK10 => ?_
     refine AW.sg [0,4,6,7,8,65] [] trivial ?_
     refine AW.cn ?_ ?_
     ·intro hb
      have hnm : i ∉ nxL t b j j := fun h => by have := (mem_nx.1 h).2; rw [hb] at this; cases this
      have hJs := hJ.skip hnm
      refine AW.exit ?_
      refine hK6 _ _ _ ?_; clear hK6
      refine AW.rg [0,4,6,7,8] [] trivial ?_
      rw [← hQl2]; change Exists _
      refine ⟨_, eO, i + 1, _, rfl, eD, eD, ?_⟩
      first | exact ⟨by omega, hJs, by omega⟩ | exact ⟨by omega, hJs, by have h9 : (insL O2 (b.set i true)).length ≤ _ := hil; omega⟩
     ·intro hb
      have hmm : i ∈ nxL t b j j := mem_nx.2 ⟨hin, hb⟩
      have hJs := hJ.put hpo hmm
      have hib := add_bit (b := b) (i := i) (by omega) (nxP_iff.1 hb).1
      have hsb := ydg b (i := i) (by omega)
      unfold ycj at hsb
      rw [hbl] at hib hsb
      have hwl := yaq b
      rw [hbl] at hwl
      have hd := ybx (i := (i : Int)) (n := j) (by omega) (by omega)
      have hgw := ya4 (l := setW b j) (i := ((i : Int).tdiv 64).toNat) (by omega)
      have hwr : IntKind.u64.wrap ((i : Int).tmod 64) = (i : Int).tmod 64 := by simp [IntKind.wrap, IntKind.signed, IntKind.bits]; omega
      have htw : (words (setW b j)).take (setW b j).length = words (setW b j) := List.take_of_length_le (by rw [ych]; exact Nat.le_refl _)
      have hcl : (b.set i true).length = j := by simp [hbl]
      have hwl2 := yaq (b.set i true)
      rw [hcl] at hwl2
      have htw2 : (words (setW (b.set i true) j)).take (ya3 (j : Int)).toNat = words (setW (b.set i true) j) := List.take_of_length_le (by rw [ych, hwl2]; exact Nat.le_refl _)
      have hins := rins_r j O2 (b.set i true) hcl (by omega) (fun c hc => (hJ.inv.id c hc).1) hJ.inv.str (by omega)
      have hil := insL_le O2 (b.set i true)
      unfold rowB at hins
      rw [hcl] at hins
      refine AW.skip ?_
      refine hK10 _ _ _ ?_; clear hK10
      refine AW.sg [0,4,6,7,8,11] [11,73] (e4 @hg2 @hO2t @htw @ych) ?_
      refine AW.sd mixed 0 (fun _ => none) [0,4,6,7,8,11] [11,73] (e5 @hgw @hwl @hwr @hib @hsb) ?_
      refine AW.frzCellK [73] 5 11 0 1 ?_
      simp only [go_sem, reduceIte, zE, htw2, ypc, ykc]
      refine ⟨rfl, by decide, by decide, by decide, ?_⟩
      refine AW.keep [0, 4, 6, 7, 8, 11] [11] ?_
      simp only [go_sem, reduceIte, zE]
      refine AW.ro 0 (fun ii => if ii = 2 then some (.reads false (.rsl 2 (tabR (insL O2 (b.set i true))))) else none) [0,4,6,7,8] [] trivial ?_
      repeat with_reducible refine cj ?_ ?_
      all_goals try first | (exact hins) | omega | exact ent (by kernel_rfl)
      refine hK6 _ _ _ ?_; clear hK6
      refine AW.rg [0,4,6,7,8] [] trivial ?_
      rw [← hQl2]; change Exists _
      refine ⟨_, eO, i + 1, _, rfl, eD, eD, ?_⟩
      first | exact ⟨by omega, hJs, by omega⟩ | exact ⟨by omega, hJs, by have h9 : (insL O2 (b.set i true)).length ≤ _ := hil; omega⟩
   ·intro hb
    have hi : i = n := by omega
    subst hi
    have hcl1 := hJ.close
    refine AW.exit ?_
    rw [← hQl2]
    refine hK3 _ _ _ ?_; clear hK3
    refine AW.rg [0,4,6,7] [] trivial ?_
    rw [← hQl1]; change Exists _
    exact ⟨_, eO, a + 1, O2, rfl, eD, eD, (⟨hcl1, by omega, by omega⟩)⟩
 ·intro hb
  have ha : a = O.length := by omega
  subst ha
  have hall := hRa O hR
  refine AW.exit ?_
  rw [← hQl1]
  refine hK1 _ _ _ ?_; clear hK1
  refine AW.sg [2,3] [] trivial ?_
  rw [← hQr]
  refine AW.rt trivial ?_
  unfold ridV
  rw [← hall, if_pos ha5]
  exact Wk.refl _
end Go.Proofs.B

namespace Go.Proofs.B
open Go.AM Go
set_option maxRecDepth 100000
set_option maxHeartbeats 4000000
theorem none_r (es : List (List AV)) (hl : es.length ≤ 9223372036854775807) : Reads Tryz.prog 31 false [.agg [.rsl 2 es]] (.bool (decide ((es.length : Int) = 0))) := by
 refine Reads.body (rs := [.tmp 2]) Tryz.func31 rfl Tryz.ntmps31 rfl (by simp) ?_
 generalize hQr : retQ _ _ _ = Qr
 refine AW.sg [1] [1] trivial ?_
 refine AW.sg [2] [] trivial ?_
 rw [← hQr]
 refine AW.rt trivial ?_
 exact Wk.refl _
theorem yi0 : Reads Tryz.prog 31 false [.agg [.nilsl]] (.bool true) :=
 (none_r [] (by simp)).wk (args := [.agg [.nilsl]]) (.cons (Wk.agg1 (Wk.nil 2)) .nil) (Wk.of_eq (by simp))
theorem eqs1_r (a : List Bool) (ha : a.length ≤ 512) : Reads Tryz.prog 34 false [.agg (rowB a), .agg (rowB a)] (.bool true) := by
 have h := yvi (setW a a.length) (setW a a.length) (by have := yca ha; omega)
 rw [show (setW a a.length == setW a a.length) = true by simp] at h
 unfold rowB at *
 refine Reads.body (rs := [.tmp 4]) Tryz.func34 rfl Tryz.ntmps34 rfl (by simp) ?_
 generalize hQr : retQ _ _ _ = Qr
 refine AW.sg [2,3] [2,3] trivial ?_
 refine AW.so 0 (fun ii => if ii = 10 then some (.reads false (.bool true)) else none) [4] [] trivial ?_
 repeat with_reducible refine cj ?_ ?_
 all_goals try first | (first | exact h | (intro hh; exact ⟨hh, h⟩) | exact fun _ => h) | (intros; (repeat' apply And.intro) <;> first | assumption | (first | exact h | (intro hh; exact ⟨hh, h⟩) | exact fun _ => h)) | omega | exact ent (by kernel_rfl) | (intro hgd; exact absurd hgd (by decide)) | rfl | exact gD | (intro _hgd; simp_all [go_sem]; done)
 rw [← hQr]
 refine AW.rt trivial ?_
 exact Wk.of_eq (by simp)
theorem yvp (n : Nat) (hn : n ≤ 512) (L : List (List Bool)) (hL : ∀ b ∈ L, b.length = n) (hl : L.length ≤ 1000000) : Reads Tryz.prog 33 false [.rsl 2 (tabR L), .rsl 2 (tabR L), .fn 34 []] (.bool true) := by
 have hLl := yas L
 have he := fun b (hb : b ∈ L) => eqs1_r b (by rw [hL b hb]; exact hn)
 unfold rowB at he
 refine Reads.body (rs := [.tmp 6]) Tryz.func33 rfl Tryz.ntmps33 rfl (by simp) ?_
 generalize hQr : retQ _ _ _ = Qr
 refine AW.sg [0,1,2] [] trivial ?_
 refine AW.seq fun K1 hK1 => ?_
 refine AW.sg [0,1,2,14] [] (@hLl) ?_
 refine AW.cn ?_ ?_
 ·intro hb
  exfalso; simp at hb
 ·intro hb
  refine AW.skip ?_
  refine hK1 _ _ _ ?_; clear hK1
  refine AW.seq fun K2 hK2 => ?_
  refine AW.sg [1,2,15,16,17] [] (@hLl) ?_
  refine AW.block ?_
  refine AW.loopE (fun mm ee ss kk => ∃ (i : Nat), L.length - i = mm ∧ ee = [(1, .rsl 2 (tabR L)), (2, .fn 34 []), (15, .rsl 2 (tabR L)), (16, .int .i64 L.length), (17, .int .i64 (i : Nat))] ∧ ss = [] ∧ (i ≤ L.length)) ?_ ?_
  ·exact ⟨_, 0, rfl, eD, eD, eT⟩
  rintro mm ee ss kk ⟨i, rfl, rfl, rfl, hI⟩
  generalize hQl1 : ya1 _ _ = Ql1
  refine AW.sg [1,2,15,16,17,18] [] trivial ?_
  refine AW.seq fun K3 hK3 => ?_
  refine AW.cn ?_ ?_
  ·intro hb
   obtain ⟨b, hbi⟩ := getI (l := L) (j := i) (by omega)
   have hgb : (tabR L).getD i [] = rowB b := getV (f := rowB) hbi
   have heb := he b (List.mem_of_getElem? hbi)
   unfold rowB at hgb
   refine AW.skip ?_
   refine hK3 _ _ _ ?_; clear hK3
   refine AW.seq fun K4 hK4 => ?_
   refine AW.block ?_
   refine AW.sg [1,2,7,8,15,16,17] [8] (e2 @hgb @hLl) ?_
   refine AW.sg [1,2,8,9,15,16,17] [8,9] (e2 @hgb @hLl) ?_
   refine AW.so 0 (fun ii => if ii = 3 then some (.reads false (.bool true)) else none) [1,2,15,16,17,30] [] trivial ?_
   repeat with_reducible refine cj ?_ ?_
   all_goals try first | (exact heb) | omega | exact ent (by kernel_rfl)
   refine AW.cn ?_ ?_
   ·intro hb
    exfalso; simp at hb
   ·intro hb
    refine AW.skip ?_
    refine hK4 _ _ _ ?_; clear hK4
    refine AW.rg [1,2,15,16,17] [] trivial ?_
    rw [← hQl1]; change Exists _
    exact ⟨_, eO, i + 1, rfl, eD, eD, eT⟩
  ·intro hb
   refine AW.exit ?_
   rw [← hQl1]
   refine hK2 _ _ _ ?_; clear hK2
   refine AW.sg [6] [] trivial ?_
   rw [← hQr]
   refine AW.rt trivial ?_
   exact Wk.refl _
def wP (A B : List Int) (k : Nat) : Bool := (List.range k).all fun q => decide (yb5 .u64 (A.getD q 0) (B.getD q 0) = 0)
theorem wP_succ (A B : List Int) (k : Nat) : wP A B (k + 1) = (wP A B k && decide (yb5 .u64 (A.getD k 0) (B.getD k 0) = 0)) := by
 unfold wP; rw [List.range_succ, List.all_append]; simp
theorem wP_sub {b c : List Bool} (hl : c.length = b.length) : wP (setW b b.length) (setW c c.length) (setW b b.length).length = subB b c := by
 have hz := yew yf2 (a := b) (b := c) hl.symm
 have hAl := yaq b
 have hBl : (setW c c.length).length = (ya3 (b.length : Int)).toNat := by rw [yaq, hl]
 have hZl : (List.zipWith (fun x y => x && !y) b c).length = b.length := by simp [hl]
 have hZg : ∀ i, i < b.length → (List.zipWith (fun x y => x && !y) b c).getD i false = (b.getD i false && !c.getD i false) := fun i hi => by
  simp [List.getD_eq_getElem?_getD, List.getElem?_zipWith, hi, show i < c.length by omega]
 rw [Bool.eq_iff_iff, subB_iff]
 unfold wP
 rw [List.all_eq_true]
 constructor
 ·intro h i hi h1
  have e : setW (List.zipWith (fun x y => x && !y) b c) b.length = setW (List.replicate b.length false) b.length := by
   rw [← hz, yev]
   refine List.ext_getElem (by rw [List.length_zipWith, hAl, hBl]; simp) fun q h1 h2 => ?_
   rw [List.getElem_zipWith, List.getElem_replicate]
   rw [List.length_zipWith] at h1
   have := of_decide_eq_true (h q (List.mem_range.2 (by omega)))
   simpa [List.getD_eq_getElem?_getD, show q < (setW b b.length).length by omega, show q < (setW c c.length).length by omega] using this
  have hZ : List.replicate b.length false = List.zipWith (fun x y => x && !y) b c := by
   refine yis (a := List.replicate b.length false) (b := List.zipWith (fun x y => x && !y) b c) (by simp [hl]) ?_
   rw [hZl, List.length_replicate]; exact e.symm
  have := hZg i hi
  rw [← hZ, yob, h1] at this
  simpa using this
 ·intro h q hq
  have hZ : List.zipWith (fun x y => x && !y) b c = List.replicate b.length false := by
   refine yqx (n := b.length) hZl (by simp) fun i hi => ?_
   rw [hZg i hi, yob]
   cases e : b.getD i false
   ·rfl
   ·rw [h i hi e]; rfl
  rw [hZ, yev] at hz
  have hq2 := List.mem_range.1 hq
  have h1 : (List.zipWith (yb5 .u64) (setW b b.length) (setW c c.length)).getD q 0 = 0 := by
   rw [hz]; simp only [List.getD_eq_getElem?_getD, List.getElem?_replicate]; split <;> rfl
  have h2 : (List.zipWith (yb5 .u64) (setW b b.length) (setW c c.length)).getD q 0 = yb5 .u64 ((setW b b.length).getD q 0) ((setW c c.length).getD q 0) := by
   simp [List.getD_eq_getElem?_getD, List.getElem?_zipWith, hq2, show q < (setW c c.length).length by omega]
  rw [← h2, h1]; simp
theorem iR_set {L : List (List Bool)} {i j : Nat} (hj : j < L.length) : (iR L i j).set j (incP L i j) = iR L i (j + 1) := by
 refine List.ext_getElem (by simp [iR]) fun q h1 h2 => ?_
 rw [List.getElem_set]
 simp only [iR, List.getElem_map, List.getElem_range]
 by_cases e : j = q
 ·subst e; simp
 ·rw [if_neg e]
  have : decide (q < j + 1) = decide (q < j) := decide_eq_decide.2 (by omega)
  rw [this]
end Go.Proofs.B

namespace Go.Proofs.B
open Go.AM Go
set_option maxRecDepth 100000
set_option maxHeartbeats 4000000
theorem yve (n : Nat) (hn : n ≤ 512) (L : List (List Bool)) (hL : ∀ b ∈ L, b.length = n) (hm : L.length ≤ 512) : Reads Tryz.prog 36 false [.rsl 2 (tabR L)] (relB (inclT L)) := by
 have hLl := yas L
 have hil := yl7 L
 have hget : ∀ i, i < L.length → (L.getD i []).length = n := fun i hi => hL _ (ycu hi _)
 have hgr : ∀ i, i < L.length → (tabR L).getD i [] = [.int .i64 n, .rsl 1 (words (setW (L.getD i []) n))] := fun i hi => by
  have h1 : (tabR L).getD i [] = rowB (L.getD i []) := ybq hi
  have h2 := hget i hi
  unfold rowB at h1
  rw [h2] at h1
  exact h1
 have hwl : ∀ i, i < L.length → (setW (L.getD i []) n).length = (ya3 (n : Int)).toNat := fun i hi => by
  have := yaq (L.getD i [])
  rw [hget i hi] at this
  exact this
 have hwn := yav (n := (n : Int)) (by omega)
 have hfr := (yvc L.length (inclT L) (yog L) hm).old
 have hbz : ∀ i, List.replicate L.length [AV.bool false] = ybh (iR L i 0) := fun i => by rw [yug]; simp [ybh]
 have hirl := yst L
 unfold relB at *
 refine Reads.body (rs := [.cell 2 24]) Tryz.func36 rfl Tryz.ntmps36 rfl (by simp) ?_
 generalize hQr : retQ _ _ _ = Qr
 refine AW.sg [0,2] [2] trivial ?_
 refine AW.sg [0,2,3] [2] trivial ?_
 refine AW.seq fun K1 hK1 => ?_
 refine AW.sg [0,2,3,4] [2] trivial ?_
 refine AW.block ?_
 refine AW.nilOwn 3 200 1 (by simp only [go_sem, reduceIte, zE]) ?_
 refine AW.keep [0, 2, 3, 4] [2, 200] ?_
 simp only [go_sem, reduceIte, zE]
 refine AW.loopE (fun mm ee ss kk => ∃ (i g2 v2 g v : Nat), L.length - i = mm ∧ ee = [(0, .rsl 2 (tabR L)), (2, .ptr ⟨2, g2, none⟩ 0 0), (3, .sl ⟨200, g, none⟩ 0 i none), (4, .int .i64 (i : Nat))] ∧ ss = [(2, some ⟨g2, v2, 1, [[.nilsl]]⟩), (200, some ⟨g, v, 1, ya9 ((inclT L).take i)⟩)] ∧ (i ≤ L.length)) ?_ ?_
 ·exact ⟨_, 0, _, _, _, _, rfl, eD, eD, eT⟩
 rintro mm ee ss kk ⟨i, g2, v2, g, v, rfl, rfl, rfl, hI⟩
 generalize hQl1 : ya1 _ _ = Ql1
 refine AW.seq fun K2 hK2 => ?_
 refine AW.sg [0,2,3,4,11] [2,200] (@hLl) ?_
 refine AW.cn ?_ ?_
 ·intro hb
  have hin : i < L.length := by omega
  have hgi := hgr i hin
  have hwi := hwl i hin
  have hzi := hbz i
  have htl : ((inclT L).take i).length = i := by rw [List.length_take, hil]; omega
  have htk : (ya9 ((inclT L).take i)).take i = ya9 ((inclT L).take i) := List.take_of_length_le (by rw [ybc]; omega)
  have hit := ym8 (L := L) hin
  refine AW.skip ?_
  refine hK2 _ _ _ ?_; clear hK2
  refine AW.seq fun K3 hK3 => ?_
  refine AW.block ?_
  refine AW.sg [0,2,3,4,5] [2,16,200] (e2 @hLl @hzi) ?_
  refine AW.seq fun K4 hK4 => ?_
  refine AW.sg [0,2,3,4,5,6] [2,16,200] trivial ?_
  refine AW.block ?_
  refine AW.loopE (fun mm ee ss kk => ∃ (j g2 v2 gw vw g v : Nat), L.length - j = mm ∧ ee = [(0, .rsl 2 (tabR L)), (2, .ptr ⟨2, g2, none⟩ 0 0), (3, .sl ⟨200, g, none⟩ 0 i none), (4, .int .i64 (i : Nat)), (5, .sl ⟨16, gw, none⟩ 0 L.length none), (6, .int .i64 (j : Nat))] ∧ ss = [(2, some ⟨g2, v2, 1, [[.nilsl]]⟩), (16, some ⟨gw, vw, 1, ybh (iR L i j)⟩), (200, some ⟨g, v, 1, ya9 ((inclT L).take i)⟩)] ∧ (j ≤ L.length)) ?_ ?_
  ·exact ⟨_, 0, _, _, _, _, _, _, rfl, eD, eD, eT⟩
  rintro mm ee ss kk ⟨j, g2, v2, gw, vw, g, v, rfl, rfl, rfl, hI⟩
  generalize hQl2 : ya1 _ _ = Ql2
  refine AW.seq fun K5 hK5 => ?_
  refine AW.sg [0,2,3,4,5,6,20] [2,16,200] (@hLl) ?_
  refine AW.cn ?_ ?_
  ·intro hb
   have hjn : j < L.length := by omega
   have hgj := hgr j hjn
   have hwj := hwl j hjn
   have hbl : (ybh (iR L i j)).length = L.length := by rw [yay, hirl]
   have hnd : (!decide ((i : Int) = (j : Int))) = decide (i ≠ j) := by rw [show decide ((i : Int) = (j : Int)) = decide (i = j) from decide_eq_decide.2 (by omega)]; by_cases h : i = j <;> simp [h]
   have hbs : ∀ x : Bool, (ybh (iR L i j)).set j [.bool x] = ybh ((iR L i j).set j x) := fun x => by simp [ybh, List.map_set]
   have hw0 : (decide (i ≠ j) && wP (setW (L.getD i []) n) (setW (L.getD j []) n) 0) = decide (i ≠ j) := by simp [wP]
   have hset := iR_set (L := L) (i := i) hjn
   have hsub : wP (setW (L.getD i []) n) (setW (L.getD j []) n) (setW (L.getD i []) n).length = subB (L.getD i []) (L.getD j []) := by
    have h1 := hget i hin
    have h2 := hget j hjn
    have := wP_sub (b := L.getD i []) (c := L.getD j []) (by omega)
    rw [h1, h2] at this
    exact this
   have hinc : incP L i j = (decide (i ≠ j) && subB (L.getD i []) (L.getD j [])) := rfl
   generalize setW (L.getD i []) n = A at *
   generalize setW (L.getD j []) n = B at *
   refine AW.skip ?_
   refine hK5 _ _ _ ?_; clear hK5
   refine AW.seq fun K6 hK6 => ?_
   refine AW.block ?_
   refine AW.sg [0,2,3,4,5,6] [2,16,200] (e3 @hbl @hnd @hbs) ?_
   refine AW.sg [0,2,3,4,5,6,7] [2,16,200] trivial ?_
   refine AW.block ?_
   refine AW.loopE (fun mm ee ss kk => ∃ (k g2 v2 gw vw g v : Nat), A.length - k = mm ∧ ee = [(0, .rsl 2 (tabR L)), (2, .ptr ⟨2, g2, none⟩ 0 0), (3, .sl ⟨200, g, none⟩ 0 i none), (4, .int .i64 (i : Nat)), (5, .sl ⟨16, gw, none⟩ 0 L.length none), (6, .int .i64 (j : Nat)), (7, .int .i64 (k : Nat))] ∧ ss = [(2, some ⟨g2, v2, 1, [[.nilsl]]⟩), (16, some ⟨gw, vw, 1, ybh ((iR L i j).set j (decide (i ≠ j) && wP A B k))⟩), (200, some ⟨g, v, 1, ya9 ((inclT L).take i)⟩)] ∧ (k ≤ A.length)) ?_ ?_
   ·refine ⟨_, 0, ?_, ?_, ?_, ?_, ?_, ?_, rfl, ?henv, ?hstore, ?hst⟩
    case henv =>
     repeat' (first | rfl | apply yaa | apply yad | apply yai | apply yae | apply yaj | apply yak | apply yap | apply yal | apply yam | apply yaf | apply yab)
     all_goals (first | (simp; done) | omega | (simp; omega))
    case hstore =>
     repeat' (first | rfl | apply yaa | apply yad | apply yai | apply yae | apply yaj | apply yak | apply yap | apply yal | apply yam | apply yaf | apply yab)
     all_goals (rw [hw0])
    case hst =>
     first | trivial | omega | (simp; done) | (simp; omega)
   rintro mm ee ss kk ⟨k, g2, v2, gw, vw, g, v, rfl, rfl, rfl, hI⟩
   generalize hQl3 : ya1 _ _ = Ql3
   refine AW.seq fun K7 hK7 => ?_
   refine AW.sg [0,2,3,4,5,6,7,36] [2,16,200] (e3 @hgi @hLl @ych) ?_
   refine AW.cn ?_ ?_
   ·intro hb
    have hgA := ya4 (l := A) (i := k) (by omega)
    have hgB := ya4 (l := B) (i := k) (by omega)
    have hws := wP_succ A B k
    have hbl2 : (ybh ((iR L i j).set j (decide (i ≠ j) && wP A B k))).length = L.length := by rw [yay, List.length_set, hirl]
    have hbs2 : ∀ y x : Bool, (ybh ((iR L i j).set j y)).set j [.bool x] = ybh ((iR L i j).set j x) := fun y x => by simp [ybh, List.map_set]
    refine AW.skip ?_
    refine hK7 _ _ _ ?_; clear hK7
    refine AW.seq fun K8 hK8 => ?_
    refine AW.block ?_
    refine AW.sd mixed 0 (fun _ => none) [0,2,3,4,5,6,7,56] [2,16,200] (e2 @hgi (e5 @hgj @hLl @hgA @hgB @ych)) ?_
    refine AW.cn ?_ ?_
    ·intro hb
     rw [show decide (yb5 .u64 (A.getD k 0) (B.getD k 0) = 0) = false from by first | exact decide_eq_false hb | simpa using hb, Bool.and_false] at hws
     refine AW.rg [0,2,3,4,5,6,7] [2,16,200] (e2 @hbl2 @hbs2) ?_
     refine hK8 _ _ _ ?_; clear hK8
     refine AW.rg [0,2,3,4,5,6,7] [2,16,200] trivial ?_
     rw [← hQl3]; change Exists _
     refine ⟨_, ?hm, k + 1, ?_, ?_, ?_, ?_, ?_, ?_, rfl, ?henv, ?hstore, ?hst⟩
     case henv =>
      repeat' (first | rfl | apply yaa | apply yad | apply yai | apply yae | apply yaj | apply yak | apply yap | apply yal | apply yam | apply yaf | apply yab)
      all_goals (first | (simp; done) | omega | (simp; omega))
     case hstore =>
      repeat' (first | rfl | apply yaa | apply yad | apply yai | apply yae | apply yaj | apply yak | apply yap | apply yal | apply yam | apply yaf | apply yab)
      all_goals (first | (rw [hws]; done) | (rw [hws]; rfl) | (rw [hws, Bool.and_false, List.set_set]; done) | (rw [hws, Bool.and_false]; simp [List.set_set]; done) | (rw [hws]; simp [List.set_set]; done))
     case hst =>
      first | trivial | omega | (simp; done) | (simp; omega)
     case hm => omega
    ·intro hb
     rw [show decide (yb5 .u64 (A.getD k 0) (B.getD k 0) = 0) = true from by first | exact decide_eq_true hb | simpa using hb, Bool.and_true] at hws
     refine AW.skip ?_
     refine hK8 _ _ _ ?_; clear hK8
     refine AW.rg [0,2,3,4,5,6,7] [2,16,200] trivial ?_
     rw [← hQl3]; change Exists _
     refine ⟨_, ?hm, k + 1, ?_, ?_, ?_, ?_, ?_, ?_, rfl, ?henv, ?hstore, ?hst⟩
     case henv =>
      repeat' (first | rfl | apply yaa | apply yad | apply yai | apply yae | apply yaj | apply yak | apply yap | apply yal | apply yam | apply yaf | apply yab)
      all_goals (first | (simp; done) | omega | (simp; omega))
     case hstore =>
      repeat' (first | rfl | apply yaa | apply yad | apply yai | apply yae | apply yaj | apply yak | apply yap | apply yal | apply yam | apply yaf | apply yab)
      all_goals (first | (rw [hws]; done) | (rw [hws]; rfl) | (rw [hws, Bool.and_false, List.set_set]; done) | (rw [hws, Bool.and_false]; simp [List.set_set]; done) | (rw [hws]; simp [List.set_set]; done))
     case hst =>
      first | trivial | omega | (simp; done) | (simp; omega)
     case hm => omega
   ·intro hb
    have hk : k = A.length := by omega
    subst hk
    rw [hsub, ← hinc, hset]
    refine AW.exit ?_
    rw [← hQl3]
    refine hK6 _ _ _ ?_; clear hK6
    refine AW.rg [0,2,3,4,5,6] [2,16,200] trivial ?_
    rw [← hQl2]; change Exists _
    exact ⟨_, eO, j + 1, _, _, _, _, _, _, rfl, eD, eD, eT⟩
  ·intro hb
   have hj : j = L.length := by omega
   subst hj
   have hap : ya9 ((inclT L).take i) ++ [[.osl 1 (ybh (iR L i L.length))]] = ya9 ((inclT L).take (i + 1)) := by rw [hit, yd4]
   have hgl : ∀ c : List AV, (ya9 ((inclT L).take i) ++ [c]).getD i [] = c := fun c => by rw [List.getD_eq_getElem?_getD, List.getElem?_append_right (by rw [ybc]; omega), ybc, htl]; simp
   have hsl : ∀ c c' : List AV, (ya9 ((inclT L).take i) ++ [c]).set i c' = ya9 ((inclT L).take i) ++ [c'] := fun c c' => by rw [List.set_append_right _ _ (by rw [ybc]; omega), ybc, htl]; simp
   have hll : ∀ c : List AV, (ya9 ((inclT L).take i) ++ [c]).length = i + 1 := fun c => by simp [ybc]; omega
   have hbl3 : (iR L i L.length).length = L.length := hirl _ _
   refine AW.exit ?_
   rw [← hQl2]
   refine hK4 _ _ _ ?_; clear hK4
   refine AW.regionK 0 (fun _ => none) [0, 2, 3, 4] [2, 16, 200] ?_
   simp only [go_sem, reduceIte, reduceCtorEq, zA, zM, zE, zL, zD, zS, zP, zB, zI, zR, htk, ybc, htl]
   repeat with_reducible refine cj ?_ ?_
   all_goals try first | omega | (simp [scP, ybl]; done) | exact ya6 _ | exact ybi _ | exact ya7 _
   refine hK3 _ _ _ ?_; clear hK3
   refine AW.adoptK 200 i 0 16 ?_
   simp only [go_sem, reduceIte, zE, hgl, hsl, hll]
   repeat refine cj ?_ ?_
   any_goals first | exact yck _ | decide | (rw [yay, hbl3]; done) | exact hbl3 | omega
   refine AW.keep [0, 2, 3, 4] [2, 200] ?_
   simp only [go_sem, reduceIte, zE, hap]
   refine AW.rg [0,2,3,4] [2,200] trivial ?_
   rw [← hQl1]; change Exists _
   exact ⟨_, eO, i + 1, _, _, _, _, rfl, eD, eD, eT⟩
 ·intro hb
  have hi : i = L.length := by omega
  have htM : (ya9 (inclT L)).take L.length = ya9 (inclT L) := List.take_of_length_le (by rw [ybc, hil]; exact Nat.le_refl _)
  rw [hi, List.take_of_length_le (by omega : (inclT L).length ≤ L.length)]
  refine AW.exit ?_
  rw [← hQl1]
  refine hK1 _ _ _ ?_; clear hK1
  refine AW.freezeK [200] [3] [2, 3] [2] ?_
  simp only [go_sem, reduceIte, zE, htM, ypi]
  refine AW.keep [2, 3] [2] ?_
  simp only [go_sem, reduceIte, zE]
  refine AW.so 0 (fun ii => if ii = 1 then some (.reads false (.agg [.rsl 2 (tabR (inclT L))])) else none) [2] [2] trivial ?_
  repeat with_reducible refine cj ?_ ?_
  all_goals try first | (exact hfr) | omega | exact ent (by kernel_rfl)
  rw [← hQr]
  refine AW.rt trivial ?_
  exact Wk.refl _
end Go.Proofs.B

namespace Go.Proofs.B
open Go.AM Go
set_option maxRecDepth 100000
set_option maxHeartbeats 4000000
/-- The joins, by the definition. -/
def yi1 (t : List (List Bool)) (n i k : Nat) : List Int := (List.range k).map (jnF t n i)
def jnA (t : List (List Bool)) (n k : Nat) : List (List Int) := (List.range k).map fun i => yi1 t n i n
theorem jnRow_succ (t : List (List Bool)) (n i k : Nat) : yi1 t n i (k + 1) = yi1 t n i k ++ [jnF t n i k] := by simp [yi1, List.range_succ]
theorem yqa (t : List (List Bool)) (n i k : Nat) : (yi1 t n i k).length = k := by simp [yi1]
theorem jnA_succ (t : List (List Bool)) (n k : Nat) : jnA t n (k + 1) = jnA t n k ++ [yi1 t n k n] := by simp [jnA, List.range_succ]
theorem yok (t : List (List Bool)) (n k : Nat) : (jnA t n k).length = k := by simp [jnA]
theorem ys0 {n : Nat} {t : List (List Bool)} (hs : Sq n t) (hp : IsPo n t) : jnA t n n = jnT t n := by
 have hU := ycb t n
 have hTl : (jnT t n).length = n := by unfold jnT; rw [ykk, hU]
 refine List.ext_getElem (by rw [yok, hTl]) fun i h1 h2 => ?_
 have hi : i < n := by rw [yok] at h1; exact h1
 have e1 : (jnT t n)[i] = (jnT t n).getD i [] := by simp [List.getD_eq_getElem?_getD, h2]
 rw [e1]
 unfold jnT
 rw [yix (by omega), hU]
 simp only [jnA, List.getElem_map, List.getElem_range, yi1]
 exact List.map_congr_left fun j hj => (yp9 hs hp hi (List.mem_range.1 hj)).symm
theorem ys1 (n : Nat) (t : List (List Bool)) (hs : Sq n t) (hn : n ≤ 512) : Reads Tryz.prog 71 false [.rsl 1 (rowsR t)] (.rsl 1 (lisR (jnA t n n))) := by
 have hrl := ybp t
 have hsl := hs.len
 have hjn := fun i j hi hj => yq3 n t hs hn i j hi hj
 refine Reads.body (rs := [.tmp 2]) Tryz.func71 rfl Tryz.ntmps71 rfl (by simp) ?_
 generalize hQr : retQ _ _ _ = Qr
 refine AW.sg [0] [] trivial ?_
 refine AW.sg [0,3] [] trivial ?_
 refine AW.seq fun K1 hK1 => ?_
 refine AW.sg [0,3,4] [] trivial ?_
 refine AW.block ?_
 refine AW.nilOwn 3 200 1 (by simp only [go_sem, reduceIte, zE]) ?_
 refine AW.keep [0, 3, 4] [200] ?_
 simp only [go_sem, reduceIte, zE]
 refine AW.loopE (fun mm ee ss kk => ∃ (i g v : Nat), n - i = mm ∧ ee = [(0, .rsl 1 (rowsR t)), (3, .sl ⟨200, g, none⟩ 0 i none), (4, .int .i64 (i : Nat))] ∧ ss = [(200, some ⟨g, v, 1, lisO (jnA t n i)⟩)] ∧ (i ≤ n)) ?_ ?_
 ·exact ⟨_, 0, _, _, rfl, eD, eD, eT⟩
 rintro mm ee ss kk ⟨i, g, v, rfl, rfl, rfl, hI⟩
 generalize hQl1 : ya1 _ _ = Ql1
 refine AW.seq fun K2 hK2 => ?_
 refine AW.sg [0,3,4,10] [200] (e2 @hrl @hsl) ?_
 refine AW.cn ?_ ?_
 ·intro hb
  have hin : i < n := by omega
  have hAl := yok t n i
  have htk : (lisO (jnA t n i)).take i = lisO (jnA t n i) := List.take_of_length_le (by rw [ycq, hAl]; exact Nat.le_refl _)
  have has := jnA_succ t n i
  refine AW.skip ?_
  refine hK2 _ _ _ ?_; clear hK2
  refine AW.seq fun K3 hK3 => ?_
  refine AW.block ?_
  refine AW.sg [0,3,4,5] [200] trivial ?_
  refine AW.seq fun K4 hK4 => ?_
  refine AW.sg [0,3,4,5,6] [200] trivial ?_
  refine AW.block ?_
  refine AW.nilOwn 5 201 1 (by simp only [go_sem, reduceIte, zE]) ?_
  refine AW.keep [0, 3, 4, 5, 6] [200, 201] ?_
  simp only [go_sem, reduceIte, zE]
  refine AW.loopE (fun mm ee ss kk => ∃ (j g v h w : Nat), n - j = mm ∧ ee = [(0, .rsl 1 (rowsR t)), (3, .sl ⟨200, g, none⟩ 0 i none), (4, .int .i64 (i : Nat)), (5, .sl ⟨201, h, none⟩ 0 j none), (6, .int .i64 (j : Nat))] ∧ ss = [(200, some ⟨g, v, 1, lisO (jnA t n i)⟩), (201, some ⟨h, w, 1, ints (yi1 t n i j)⟩)] ∧ (j ≤ n)) ?_ ?_
  ·exact ⟨_, 0, _, _, _, _, rfl, eD, eD, eT⟩
  rintro mm ee ss kk ⟨j, g, v, h, w, rfl, rfl, rfl, hI⟩
  generalize hQl2 : ya1 _ _ = Ql2
  refine AW.seq fun K5 hK5 => ?_
  refine AW.sg [0,3,4,5,6,16] [200,201] (e2 @hrl @hsl) ?_
  refine AW.cn ?_ ?_
  ·intro hb
   have hjn2 := hjn i j hin (by omega)
   have hrs := jnRow_succ t n i j
   have hrle := yqa t n i j
   have htr : (ints (yi1 t n i j)).take j = ints (yi1 t n i j) := List.take_of_length_le (by rw [yat, hrle]; exact Nat.le_refl _)
   have hapr : ints (yi1 t n i j) ++ [[.int .i64 (jnF t n i j)]] = ints (yi1 t n i (j + 1)) := by rw [hrs]; simp [ints]
   refine AW.skip ?_
   refine hK5 _ _ _ ?_; clear hK5
   refine AW.seq fun K6 hK6 => ?_
   refine AW.block ?_
   refine AW.ro 0 (fun ii => if ii = 4 then some (.reads false (.int .i64 (jnF t n i j))) else none) [0,3,4,5,6] [200,201] (e4 @htr @hapr @yat @hrle) ?_
   repeat with_reducible refine cj ?_ ?_
   all_goals try first | (exact hjn2) | omega | exact ent (by kernel_rfl) | (simp [scP, ybl]; done) | exact ya6 _ | exact ybi _ | exact ya7 _
   refine hK6 _ _ _ ?_; clear hK6
   refine AW.rg [0,3,4,5,6] [200,201] trivial ?_
   rw [← hQl2]; change Exists _
   exact ⟨_, eO, j + 1, _, _, _, _, rfl, eD, eD, eT⟩
  ·intro hb
   have hj : j = n := by omega
   subst hj
   have hrle := yqa t j i j
   have hap : lisO (jnA t j i) ++ [[.osl 1 (ints (yi1 t j i j))]] = lisO (jnA t j (i + 1)) := by rw [has]; simp [lisO]
   have hgl : ∀ c : List AV, (lisO (jnA t j i) ++ [c]).getD i [] = c := fun c => by rw [List.getD_eq_getElem?_getD, List.getElem?_append_right (by rw [ycq]; omega), ycq, hAl]; simp
   have hsl2 : ∀ c c' : List AV, (lisO (jnA t j i) ++ [c]).set i c' = lisO (jnA t j i) ++ [c'] := fun c c' => by rw [List.set_append_right _ _ (by rw [ycq]; omega), ycq, hAl]; simp
   have hll : ∀ c : List AV, (lisO (jnA t j i) ++ [c]).length = i + 1 := fun c => by simp [ycq]; omega
   refine AW.exit ?_
   rw [← hQl2]
   refine hK4 _ _ _ ?_; clear hK4
   refine AW.regionK 0 (fun _ => none) [0, 3, 4] [200, 201] ?_
   simp only [go_sem, reduceIte, reduceCtorEq, zA, zM, zE, zL, zD, zS, zP, zB, zI, zR, htk, ycq, hAl]
   repeat with_reducible refine cj ?_ ?_
   all_goals try first | omega | (simp [scP, ybl]; done) | exact ya6 _ | exact ybi _ | exact ya7 _
   refine hK3 _ _ _ ?_; clear hK3
   refine AW.adoptK 200 i 0 201 ?_
   simp only [go_sem, reduceIte, zE, hgl, hsl2, hll]
   repeat refine cj ?_ ?_
   any_goals first | exact yms _ | decide | (rw [yat, hrle]; done) | exact hrle | omega
   refine AW.keep [0, 3, 4] [200] ?_
   simp only [go_sem, reduceIte, zE, hap]
   refine AW.rg [0,3,4] [200] trivial ?_
   rw [← hQl1]; change Exists _
   exact ⟨_, eO, i + 1, _, _, rfl, eD, eD, eT⟩
 ·intro hb
  have hi : i = n := by omega
  subst hi
  have htM : (lisO (jnA t i i)).take i = lisO (jnA t i i) := List.take_of_length_le (by rw [ycq, yok]; exact Nat.le_refl _)
  refine AW.exit ?_
  rw [← hQl1]
  refine hK1 _ _ _ ?_; clear hK1
  refine AW.sg [2] [200] trivial ?_
  rw [← hQr]
  refine AW.rt trivial ?_
  exact Wk.of_eq (by simp only [go_sem, reduceIte, zE, htM, vwc_lisO])
end Go.Proofs.B

namespace Go.Proofs.B
open Go.AM Go
set_option maxRecDepth 100000
set_option maxHeartbeats 4000000
/-- What is said of distributivity: the answer, and the least triple. -/
def DisQ (J M : List (List Int)) (n : Nat) (b : Bool) (x y z : Int) : Prop :=
 ((∀ a, a < n → ∀ b, b < n → ∀ c, c < n → dsP J M a b c = true) ∧ b = true ∧ x = 0 ∧ y = 0 ∧ z = 0) ∨
 (∃ i j k : Nat, i < n ∧ j < n ∧ k < n ∧ disP J M n i j k ∧ dsP J M i j k = false ∧ b = false ∧ x = i ∧ y = j ∧ z = k)
theorem DisQ.toA {J M : List (List Int)} {n : Nat} {b : Bool} {x y z : Int} (h : DisQ J M n b x y z) : DisA J M n (.tup [.bool b, .agg [.int .i64 x, .int .i64 y, .int .i64 z], .int .i64 0]) := by
 rcases h with ⟨h, rfl, rfl, rfl, rfl⟩ | ⟨i, j, k, h1, h2, h3, h4, h5, rfl, rfl, rfl, rfl⟩
 ·exact .inl ⟨h, rfl⟩
 ·exact .inr ⟨i, j, k, h1, h2, h3, h4, h5, rfl⟩
theorem DisQ.ex (J M : List (List Int)) (n : Nat) : ∃ b x y z, DisQ J M n b x y z := by
 obtain ⟨v, h⟩ := DisA.ex J M n
 rcases h with ⟨h, _⟩ | ⟨i, j, k, h1, h2, h3, h4, h5, _⟩
 ·exact ⟨_, _, _, _, .inl ⟨h, rfl, rfl, rfl, rfl⟩⟩
 ·exact ⟨_, _, _, _, .inr ⟨i, j, k, h1, h2, h3, h4, h5, rfl, rfl, rfl, rfl⟩⟩
theorem yum (n : Nat) (t : List (List Bool)) (hs : Sq n t) (J M : List (List Int)) (hJ : yl6 J n) (hM : yl6 M n) (hn : n ≤ 512) (eJ : jnA t n n = J) (eM : jnA (invT n t) n n = M) (b0 : Bool) (x0 y0 z0 : Int) (hd : DisQ J M n b0 x0 y0 z0) : Reads Tryz.prog 38 false [.rsl 1 (rowsR t)] (.tup [.bool b0, .agg [.int .i64 x0, .int .i64 y0, .int .i64 z0]]) := by
 have hrl := ybp t
 have hsl := hs.len
 have h1 := ys1 n t hs hn
 rw [eJ] at h1
 have h2 := (ym9 n t hs hn).old
 have h3 := ys1 n (invT n t) Sq.inv hn
 rw [eM] at h3
 have hJl := hJ.1
 have hMl := hM.1
 refine Reads.body (rs := [.tmp 2, .cell 3 31]) Tryz.func38 rfl Tryz.ntmps38 rfl (by simp) ?_
 generalize hQr : retQ _ _ _ = Qr
 refine AW.sg [0,3] [3] trivial ?_
 refine AW.so 0 (fun ii => if ii = 1 then some (.reads false (.rsl 1 (lisR J))) else none) [0,3,4] [3] trivial ?_
 repeat with_reducible refine cj ?_ ?_
 all_goals try first | (exact h1) | omega | exact ent (by kernel_rfl)
 refine AW.so 0 (fun ii => if ii = 1 then some (.reads false (.rsl 1 (rowsR (invT n t)))) else if ii = 2 then some (.reads false (.rsl 1 (lisR M))) else none) [0,3,4,5] [3] trivial ?_
 repeat with_reducible refine cj ?_ ?_
 all_goals try first | (first | exact h2 | exact h3) | omega | exact ent (by kernel_rfl)
 refine AW.seq fun K1 hK1 => ?_
 refine AW.sg [0,3,4,5,6] [3] trivial ?_
 refine AW.block ?_
 refine AW.loopE (fun mm ee ss kk => ∃ (i g3 v3 : Nat), n - i = mm ∧ ee = [(0, .rsl 1 (rowsR t)), (3, .ptr ⟨3, g3, none⟩ 0 0), (4, .rsl 1 (lisR J)), (5, .rsl 1 (lisR M)), (6, .int .i64 (i : Nat))] ∧ ss = [(3, some ⟨g3, v3, 3, [[.int .i64 0, .int .i64 0, .int .i64 0]]⟩)] ∧ (i ≤ n ∧ ∀ a, a < i → ∀ b, b < n → ∀ c, c < n → dsP J M a b c = true)) ?_ ?_
 ·exact ⟨_, 0, _, _, rfl, eD, eD, (⟨by omega, fun a ha => by omega⟩)⟩
 rintro mm ee ss kk ⟨i, g3, v3, rfl, rfl, rfl, hI⟩
 generalize hQl1 : ya1 _ _ = Ql1
 obtain ⟨hi0, hPA⟩ := hI
 refine AW.seq fun K2 hK2 => ?_
 refine AW.sg [0,3,4,5,6,17] [3] (e2 @hrl @hsl) ?_
 refine AW.cn ?_ ?_
 ·intro hb
  have hin : i < n := by omega
  refine AW.skip ?_
  refine hK2 _ _ _ ?_; clear hK2
  refine AW.seq fun K3 hK3 => ?_
  refine AW.block ?_
  refine AW.sg [0,3,4,5,6,7] [3] trivial ?_
  refine AW.block ?_
  refine AW.loopE (fun mm ee ss kk => ∃ (j g3 v3 : Nat), n - j = mm ∧ ee = [(0, .rsl 1 (rowsR t)), (3, .ptr ⟨3, g3, none⟩ 0 0), (4, .rsl 1 (lisR J)), (5, .rsl 1 (lisR M)), (6, .int .i64 (i : Nat)), (7, .int .i64 (j : Nat))] ∧ ss = [(3, some ⟨g3, v3, 3, [[.int .i64 0, .int .i64 0, .int .i64 0]]⟩)] ∧ (j ≤ n ∧ ∀ b, b < j → ∀ c, c < n → dsP J M i b c = true)) ?_ ?_
  ·exact ⟨_, 0, _, _, rfl, eD, eD, (⟨by omega, fun a ha => by omega⟩)⟩
  rintro mm ee ss kk ⟨j, g3, v3, rfl, rfl, rfl, hI⟩
  generalize hQl2 : ya1 _ _ = Ql2
  obtain ⟨hj0, hPB⟩ := hI
  refine AW.seq fun K4 hK4 => ?_
  refine AW.sg [0,3,4,5,6,7,23] [3] (e2 @hrl @hsl) ?_
  refine AW.cn ?_ ?_
  ·intro hb
   have hjn : j < n := by omega
   refine AW.skip ?_
   refine hK4 _ _ _ ?_; clear hK4
   refine AW.seq fun K5 hK5 => ?_
   refine AW.block ?_
   refine AW.sg [0,3,4,5,6,7,8] [3] trivial ?_
   refine AW.block ?_
   refine AW.loopE (fun mm ee ss kk => ∃ (k g3 v3 : Nat), n - k = mm ∧ ee = [(0, .rsl 1 (rowsR t)), (3, .ptr ⟨3, g3, none⟩ 0 0), (4, .rsl 1 (lisR J)), (5, .rsl 1 (lisR M)), (6, .int .i64 (i : Nat)), (7, .int .i64 (j : Nat)), (8, .int .i64 (k : Nat))] ∧ ss = [(3, some ⟨g3, v3, 3, [[.int .i64 0, .int .i64 0, .int .i64 0]]⟩)] ∧ (k ≤ n ∧ ∀ c, c < k → dsP J M i j c = true)) ?_ ?_
   ·exact ⟨_, 0, _, _, rfl, eD, eD, (⟨by omega, fun a ha => by omega⟩)⟩
   rintro mm ee ss kk ⟨k, g3, v3, rfl, rfl, rfl, hI⟩
   generalize hQl3 : ya1 _ _ = Ql3
   obtain ⟨hk0, hPC⟩ := hI
   refine AW.seq fun K6 hK6 => ?_
   refine AW.sg [0,3,4,5,6,7,8,29] [3] (e2 @hrl @hsl) ?_
   refine AW.cn ?_ ?_
   ·intro hb
    have hkn : k < n := by omega
    have hdp : dsP J M i j k = decide ((M.getD i []).getD ((J.getD j []).getD k 0).toNat 0 = (J.getD ((M.getD i []).getD j 0).toNat []).getD ((M.getD i []).getD k 0).toNat 0) := rfl
    have hgM := yeg (cs := M) (i := i) (by omega)
    have hgJ := yeg (cs := J) (i := j) (by omega)
    obtain ⟨hMr, hMi⟩ := hM.2 i hin
    obtain ⟨hJr, hJj⟩ := hJ.2 j hjn
    have hx := hJj k hkn
    have hy := hMi j hjn
    have hz := hMi k hkn
    have hgx := yci (l := J.getD j []) (i := k) (by omega)
    have hgy := yci (l := M.getD i []) (i := j) (by omega)
    have hgz := yci (l := M.getD i []) (i := k) (by omega)
    generalize (J.getD j []).getD k 0 = x at *
    generalize (M.getD i []).getD j 0 = y at *
    generalize (M.getD i []).getD k 0 = z at *
    have hg1 := yci (l := M.getD i []) (i := x.toNat) (by omega)
    have hgJy := yeg (cs := J) (i := y.toNat) (by omega)
    have hJyr := (hJ.2 y.toNat (by omega)).1
    have hg2 := yci (l := J.getD y.toNat []) (i := z.toNat) (by omega)
    generalize M.getD i [] = Mi at *
    generalize J.getD j [] = Jj at *
    generalize J.getD y.toNat [] = Jy at *
    refine AW.skip ?_
    refine hK6 _ _ _ ?_; clear hK6
    refine AW.seq fun K7 hK7 => ?_
    refine AW.block ?_
    refine AW.sd mixed 0 (fun _ => none) [0,3,4,5,6,7,8,64] [3] (e3 @hgM @hgJ (e5 @hgx @hgy @hgz @hg1 (e5 @hgJy @hg2 @ykl @yat (e5 @hJl @hMl @hMr @hJr @hJyr)))) ?_
    refine AW.cn ?_ ?_
    ·intro hb
     refine AW.sg [2,3] [3] trivial ?_
     rw [← hQl3, ← hQl2, ← hQl1, ← hQr]
     refine AW.rt trivial ?_
     have hf : dsP J M i j k = false := by rw [hdp]; first | exact decide_eq_false hb | simpa using hb
     rcases hd with ⟨h1, _⟩ | ⟨i', j', k', hi', hj', hk', hdd, hf', rfl, rfl, rfl, rfl⟩
     ·have := h1 i hin j hjn k hkn; rw [hf] at this; cases this
     ·obtain ⟨rfl, rfl, rfl⟩ := disP.uniq ⟨hPA, hPB, hPC⟩ hdd hjn hkn hj' hk' hf hf'
      exact Wk.refl _
    ·intro hb
     have hT : dsP J M i j k = true := by rw [hdp]; first | exact decide_eq_true hb | simpa using hb
     refine AW.skip ?_
     refine hK7 _ _ _ ?_; clear hK7
     refine AW.rg [0,3,4,5,6,7,8] [3] trivial ?_
     rw [← hQl3]; change Exists _
     refine ⟨_, eO, k + 1, _, _, rfl, eD, eD, ?_⟩
     refine ⟨by omega, fun c hc => ?_⟩; rcases Nat.lt_succ_iff_lt_or_eq.1 hc with h | h; exact hPC c h; subst h; exact hT
   ·intro hb
    refine AW.kx [0,3,4,5,6,7] [3] ?_
    rw [← hQl3]
    refine hK5 _ _ _ ?_; clear hK5
    refine AW.rg [0,3,4,5,6,7] [3] trivial ?_
    rw [← hQl2]; change Exists _
    refine ⟨_, eO, j + 1, _, _, rfl, eD, eD, ?_⟩
    refine ⟨by omega, fun b hb' c hc => ?_⟩; rcases Nat.lt_succ_iff_lt_or_eq.1 hb' with h | h; exact hPB b h c hc; subst h; exact hPC c (by omega)
  ·intro hb
   refine AW.kx [0,3,4,5,6] [3] ?_
   rw [← hQl2]
   refine hK3 _ _ _ ?_; clear hK3
   refine AW.rg [0,3,4,5,6] [3] trivial ?_
   rw [← hQl1]; change Exists _
   refine ⟨_, eO, i + 1, _, _, rfl, eD, eD, ?_⟩
   refine ⟨by omega, fun a ha b hb' c hc => ?_⟩; rcases Nat.lt_succ_iff_lt_or_eq.1 ha with h | h; exact hPA a h b hb' c hc; subst h; exact hPB b (by omega) c hc
 ·intro hb
  have hall : ∀ a, a < n → ∀ b, b < n → ∀ c, c < n → dsP J M a b c = true := fun a ha => hPA a (by omega)
  refine AW.kx [3] [3] ?_
  rw [← hQl1]
  refine hK1 _ _ _ ?_; clear hK1
  refine AW.sg [2,3] [3] trivial ?_
  rw [← hQr]
  refine AW.rt trivial ?_
  rcases hd with ⟨_, rfl, rfl, rfl, rfl⟩ | ⟨i', j', k', hi', hj', hk', hdd, hf', rfl, rfl, rfl, rfl⟩
  ·exact Wk.refl _
  ·have := hall i' hi' j' hj' k' hk'; rw [hf'] at this; cases this
end Go.Proofs.B

namespace Go.Proofs.B
open Go.AM Go
set_option maxRecDepth 100000
set_option maxHeartbeats 4000000
theorem yvf (n : Nat) (t : List (List Bool)) (hs : Sq n t) (hn : n ≤ 512) : Reads Tryz.prog 39 false [.rsl 1 (rowsR t)] (.rsl 1 (ints (nats (irrL (covT n t) n n)))) := by
 have hrl := ybp t
 have hsl := hs.len
 have hrd := (rreduction_r n t hs hn).old
 rw [show redT n t (compT n t (warsh n t)) = covT n t from rfl] at hrd
 have hCs : Sq n (covT n t) := hs.cov
 generalize covT n t = C at *
 have hCrl := ybp C
 have hCn := hCs.len
 have hcl := yuh C
 have hc0 : ∀ i, cntC C 0 i = 0 := fun i => rfl
 refine Reads.body (rs := [.tmp 2]) Tryz.func39 rfl Tryz.ntmps39 rfl (by simp) ?_
 generalize hQr : retQ _ _ _ = Qr
 refine AW.sg [0] [] trivial ?_
 refine AW.so 0 (fun ii => if ii = 1 then some (.reads false (.rsl 1 (rowsR C))) else none) [0,3] [] trivial ?_
 repeat with_reducible refine cj ?_ ?_
 all_goals try first | (exact hrd) | omega | exact ent (by kernel_rfl)
 refine AW.sg [0,3,4] [] trivial ?_
 refine AW.seq fun K1 hK1 => ?_
 refine AW.sg [0,3,4,5] [] trivial ?_
 refine AW.block ?_
 refine AW.nilOwn 4 200 1 (by simp only [go_sem, reduceIte, zE]) ?_
 refine AW.keep [0, 3, 4, 5] [200] ?_
 simp only [go_sem, reduceIte, zE]
 refine AW.loopE (fun mm ee ss kk => ∃ (i g v : Nat), n - i = mm ∧ ee = [(0, .rsl 1 (rowsR t)), (3, .rsl 1 (rowsR C)), (4, .sl ⟨200, g, none⟩ 0 (irrL C n i).length none), (5, .int .i64 (i : Nat))] ∧ ss = [(200, some ⟨g, v, 1, ints (nats (irrL C n i))⟩)] ∧ (i ≤ n)) ?_ ?_
 ·exact ⟨_, 0, _, _, rfl, eD, eD, eT⟩
 rintro mm ee ss kk ⟨i, g, v, rfl, rfl, rfl, hI⟩
 generalize hQl1 : ya1 _ _ = Ql1
 refine AW.seq fun K2 hK2 => ?_
 refine AW.sg [0,3,4,5,13] [200] (e2 @hrl @hsl) ?_
 refine AW.cn ?_ ?_
 ·intro hb
  have hin : i < n := by omega
  have h0i := hc0 i
  have his := yp6 C n i
  have hill := yl8 C n i
  have htk : (ints (nats (irrL C n i))).take (irrL C n i).length = ints (nats (irrL C n i)) := List.take_of_length_le (by rw [yat, yau]; exact Nat.le_refl _)
  have hcni := hcl n i
  generalize irrL C n i = I0 at *
  refine AW.skip ?_
  refine hK2 _ _ _ ?_; clear hK2
  refine AW.seq fun K3 hK3 => ?_
  refine AW.block ?_
  refine AW.sg [0,3,4,5,6] [200] trivial ?_
  refine AW.seq fun K4 hK4 => ?_
  refine AW.sg [0,3,4,5,6,7] [200] trivial ?_
  refine AW.block ?_
  refine AW.loopE (fun mm ee ss kk => ∃ (j g v : Nat), n - j = mm ∧ ee = [(0, .rsl 1 (rowsR t)), (3, .rsl 1 (rowsR C)), (4, .sl ⟨200, g, none⟩ 0 I0.length none), (5, .int .i64 (i : Nat)), (6, .int .i64 (cntC C j i : Nat)), (7, .int .i64 (j : Nat))] ∧ ss = [(200, some ⟨g, v, 1, ints (nats I0)⟩)] ∧ (j ≤ n)) ?_ ?_
  ·refine ⟨_, 0, ?_, ?_, rfl, ?henv, ?hstore, ?hst⟩
   case henv =>
    repeat' (first | rfl | apply yaa | apply yad | apply yai | apply yae | apply yaj | apply yak | apply yap | apply yal | apply yam | apply yaf | apply yab)
    all_goals (first | (rw [h0i]; rfl) | (rw [h0i]; done) | (simp; done) | omega)
   case hstore =>
    repeat' (first | rfl | apply yaa | apply yad | apply yai | apply yae | apply yaj | apply yak | apply yap | apply yal | apply yam | apply yaf | apply yab)
    all_goals (first | (simp; done) | omega | (simp; omega))
   case hst =>
    first | trivial | omega | (simp; done) | (simp; omega)
  rintro mm ee ss kk ⟨j, g, v, rfl, rfl, rfl, hI⟩
  generalize hQl2 : ya1 _ _ = Ql2
  refine AW.seq fun K5 hK5 => ?_
  refine AW.sg [0,3,4,5,6,7,19] [200] (e2 @hrl @hsl) ?_
  refine AW.cn ?_ ?_
  ·intro hb
   have hjn : j < n := by omega
   have hgj := yb2 (t := C) (i := j) (by omega)
   have hrj := hCs.rowLen hjn
   have hgji := ybm (l := rowT C j) (i := i) (by omega)
   have hat : (rowT C j).getD i false = atT C j i := rfl
   have hcs := yp5 C j i
   have hcj := hcl j i
   rw [hat] at hgji
   generalize rowT C j = rj at *
   refine AW.skip ?_
   refine hK5 _ _ _ ?_; clear hK5
   refine AW.seq fun K6 hK6 => ?_
   refine AW.block ?_
   refine AW.sg [0,3,4,5,6,7,28] [200] (e2 @hgj (e5 @hgji @hCrl @hCn @yay @hrj)) ?_
   refine AW.cn ?_ ?_
   ·intro hb
    rw [if_pos hb] at hcs
    refine AW.rg [0,3,4,5,6,7] [200] trivial ?_
    refine hK6 _ _ _ ?_; clear hK6
    refine AW.rg [0,3,4,5,6,7] [200] trivial ?_
    rw [← hQl2]; change Exists _
    refine ⟨_, ?hm, j + 1, ?_, ?_, rfl, ?henv, ?hstore, ?hst⟩
    case henv =>
     repeat' (first | rfl | apply yaa | apply yad | apply yai | apply yae | apply yaj | apply yak | apply yap | apply yal | apply yam | apply yaf | apply yab)
     all_goals (first | (rw [hcs]; done) | (rw [hcs]; simp; done) | (rw [hcs]; push_cast; rfl) | (simp; done) | omega)
    case hstore =>
     repeat' (first | rfl | apply yaa | apply yad | apply yai | apply yae | apply yaj | apply yak | apply yap | apply yal | apply yam | apply yaf | apply yab)
     all_goals (first | (simp; done) | omega | (simp; omega))
    case hst =>
     first | trivial | omega | (simp; done) | (simp; omega)
    case hm => omega
   ·intro hb
    rw [if_neg (by rw [hb]; simp)] at hcs
    refine AW.skip ?_
    refine hK6 _ _ _ ?_; clear hK6
    refine AW.rg [0,3,4,5,6,7] [200] trivial ?_
    rw [← hQl2]; change Exists _
    refine ⟨_, ?hm, j + 1, ?_, ?_, rfl, ?henv, ?hstore, ?hst⟩
    case henv =>
     repeat' (first | rfl | apply yaa | apply yad | apply yai | apply yae | apply yaj | apply yak | apply yap | apply yal | apply yam | apply yaf | apply yab)
     all_goals (first | (rw [hcs]; done) | (rw [hcs]; simp; done) | (rw [hcs]; push_cast; rfl) | (simp; done) | omega)
    case hstore =>
     repeat' (first | rfl | apply yaa | apply yad | apply yai | apply yae | apply yaj | apply yak | apply yap | apply yal | apply yam | apply yaf | apply yab)
     all_goals (first | (simp; done) | omega | (simp; omega))
    case hst =>
     first | trivial | omega | (simp; done) | (simp; omega)
    case hm => omega
  ·intro hb
   have hj : j = n := by omega
   subst hj
   refine AW.exit ?_
   rw [← hQl2]
   refine hK4 _ _ _ ?_; clear hK4
   refine AW.sg [0,3,4,5,32] [200] trivial ?_
   refine AW.cn ?_ ?_
   ·intro hb
    rw [if_pos (by omega)] at his
    refine AW.regionK 0 (fun _ => none) [0, 3, 4, 5] [200] ?_
    simp only [go_sem, reduceIte, reduceCtorEq, zA, zM, zE, zL, zD, zS, zP, zB, zI, zR, htk, ykd, ykh, yau, yat]
    repeat with_reducible refine cj ?_ ?_
    all_goals try first | omega | (simp [scP, ybl]; done) | exact ya6 _ | exact ybi _ | exact ya7 _
    refine hK3 _ _ _ ?_; clear hK3
    refine AW.rg [0,3,4,5] [200] trivial ?_
    rw [← hQl1]; change Exists _
    refine ⟨_, ?hm, i + 1, ?_, ?_, rfl, ?henv, ?hstore, ?hst⟩
    case henv =>
     repeat' (first | rfl | apply yaa | apply yad | apply yai | apply yae | apply yaj | apply yak | apply yap | apply yal | apply yam | apply yaf | apply yab)
     all_goals (first | (rw [his]; done) | (rw [his]; simp; done) | (simp; done) | omega)
    case hstore =>
     repeat' (first | rfl | apply yaa | apply yad | apply yai | apply yae | apply yaj | apply yak | apply yap | apply yal | apply yam | apply yaf | apply yab)
     all_goals (rw [his])
    case hst =>
     first | trivial | omega | (simp; done) | (simp; omega)
    case hm => omega
   ·intro hb
    rw [if_neg (by omega)] at his
    refine AW.skip ?_
    refine hK3 _ _ _ ?_; clear hK3
    refine AW.rg [0,3,4,5] [200] trivial ?_
    rw [← hQl1]; change Exists _
    refine ⟨_, ?hm, i + 1, ?_, ?_, rfl, ?henv, ?hstore, ?hst⟩
    case henv =>
     repeat' (first | rfl | apply yaa | apply yad | apply yai | apply yae | apply yaj | apply yak | apply yap | apply yal | apply yam | apply yaf | apply yab)
     all_goals (first | (rw [his]; done) | (rw [his]; simp; done) | (simp; done) | omega)
    case hstore =>
     repeat' (first | rfl | apply yaa | apply yad | apply yai | apply yae | apply yaj | apply yak | apply yap | apply yal | apply yam | apply yaf | apply yab)
     all_goals (rw [his])
    case hst =>
     first | trivial | omega | (simp; done) | (simp; omega)
    case hm => omega
 ·intro hb
  have hi : i = n := by omega
  subst hi
  refine AW.exit ?_
  rw [← hQl1]
  refine hK1 _ _ _ ?_; clear hK1
  refine AW.sg [2] [200] trivial ?_
  rw [← hQr]
  refine AW.rt trivial ?_
  rw [List.take_of_length_le (by rw [yau]; exact Nat.le_refl _)]
  exact Wk.refl _
/-- The restriction's rows, first entries. -/
def rsR (t : List (List Bool)) (M : List Nat) (i j : Nat) : List Bool := (List.range M.length).map fun q => decide (q < j) && atT t (M.getD i 0) (M.getD q 0)
theorem rsR_len (t : List (List Bool)) (M : List Nat) (i j : Nat) : (rsR t M i j).length = M.length := by simp [rsR]
theorem rsR_zero (t : List (List Bool)) (M : List Nat) (i : Nat) : rsR t M i 0 = List.replicate M.length false := by
 unfold rsR
 refine List.ext_getElem (by simp) fun q h1 h2 => by simp
theorem rsR_set {t : List (List Bool)} {M : List Nat} {i j : Nat} (hj : j < M.length) : (rsR t M i j).set j (atT t (M.getD i 0) (M.getD j 0)) = rsR t M i (j + 1) := by
 refine List.ext_getElem (by simp [rsR]) fun q h1 h2 => ?_
 rw [List.getElem_set]
 simp only [rsR, List.getElem_map, List.getElem_range]
 by_cases e : j = q
 ·subst e; simp
 ·rw [if_neg e]
  have : decide (q < j + 1) = decide (q < j) := decide_eq_decide.2 (by omega)
  rw [this]
theorem resT_take {t : List (List Bool)} {M : List Nat} {i : Nat} (hi : i < M.length) : (resT t M).take (i + 1) = (resT t M).take i ++ [rsR t M i M.length] := by
 rw [List.take_add_one]
 congr 1
 unfold resT tabF
 rw [List.getElem?_map, List.getElem?_range hi]
 simp only [Option.map_some, Option.toList_some]
 congr 1
 unfold setR rsR
 refine List.map_congr_left fun q hq => ?_
 rw [decide_eq_true (List.mem_range.1 hq), Bool.true_and]
theorem ys2 (n : Nat) (t : List (List Bool)) (hs : Sq n t) (hn : n ≤ 512) (M : List Nat) (hM : ∀ x ∈ M, x < n) (hm : M.length ≤ 512) : Reads Tryz.prog 40 false [.rsl 1 (rowsR t), .rsl 1 (ints (nats M))] (relB (resT t M)) := by
 have hrl := ybp t
 have hsl := hs.len
 have hsq := yn0 t M
 have hil := hsq.len
 have hfr := (yvc M.length (resT t M) hsq hm).old
 have hbz : ∀ i, List.replicate M.length [AV.bool false] = ybh (rsR t M i 0) := fun i => by rw [rsR_zero]; simp [ybh]
 have hirl := rsR_len t M
 unfold relB at *
 refine Reads.body (rs := [.cell 4 24]) Tryz.func40 rfl Tryz.ntmps40 rfl (by simp) ?_
 generalize hQr : retQ _ _ _ = Qr
 refine AW.sg [0,1,4] [4] trivial ?_
 refine AW.sg [0,1,4,5] [4] trivial ?_
 refine AW.seq fun K1 hK1 => ?_
 refine AW.sg [0,1,4,5,6] [4] trivial ?_
 refine AW.block ?_
 refine AW.nilOwn 5 200 1 (by simp only [go_sem, reduceIte, zE]) ?_
 refine AW.keep [0, 1, 4, 5, 6] [4, 200] ?_
 simp only [go_sem, reduceIte, zE]
 refine AW.loopE (fun mm ee ss kk => ∃ (i g2 v2 g v : Nat), M.length - i = mm ∧ ee = [(0, .rsl 1 (rowsR t)), (1, .rsl 1 (ints (nats M))), (4, .ptr ⟨4, g2, none⟩ 0 0), (5, .sl ⟨200, g, none⟩ 0 i none), (6, .int .i64 (i : Nat))] ∧ ss = [(4, some ⟨g2, v2, 1, [[.nilsl]]⟩), (200, some ⟨g, v, 1, ya9 ((resT t M).take i)⟩)] ∧ (i ≤ M.length)) ?_ ?_
 ·exact ⟨_, 0, _, _, _, _, rfl, eD, eD, eT⟩
 rintro mm ee ss kk ⟨i, g2, v2, g, v, rfl, rfl, rfl, hI⟩
 generalize hQl1 : ya1 _ _ = Ql1
 refine AW.seq fun K2 hK2 => ?_
 refine AW.sg [0,1,4,5,6,12] [4,200] (e2 @yat @yau) ?_
 refine AW.cn ?_ ?_
 ·intro hb
  have hin : i < M.length := by omega
  have hzi := hbz i
  have htl : ((resT t M).take i).length = i := by rw [List.length_take, hil]; omega
  have htk : (ya9 ((resT t M).take i)).take i = ya9 ((resT t M).take i) := List.take_of_length_le (by rw [ybc]; omega)
  have hit := resT_take (t := t) hin
  have hgMi := yin (M := M) (k := i) hin
  have hMi : M.getD i 0 < n := hM _ (ycu hin _)
  have hgr := yb2 (t := t) (i := M.getD i 0) (by omega)
  have hrr := hs.rowLen hMi
  refine AW.skip ?_
  refine hK2 _ _ _ ?_; clear hK2
  refine AW.seq fun K3 hK3 => ?_
  refine AW.block ?_
  refine AW.sg [0,1,4,5,6,7] [4,17,200] (e3 @yat @yau @hzi) ?_
  refine AW.seq fun K4 hK4 => ?_
  refine AW.sg [0,1,4,5,6,7,8] [4,17,200] trivial ?_
  refine AW.block ?_
  refine AW.loopE (fun mm ee ss kk => ∃ (j g2 v2 gw vw g v : Nat), M.length - j = mm ∧ ee = [(0, .rsl 1 (rowsR t)), (1, .rsl 1 (ints (nats M))), (4, .ptr ⟨4, g2, none⟩ 0 0), (5, .sl ⟨200, g, none⟩ 0 i none), (6, .int .i64 (i : Nat)), (7, .sl ⟨17, gw, none⟩ 0 M.length none), (8, .int .i64 (j : Nat))] ∧ ss = [(4, some ⟨g2, v2, 1, [[.nilsl]]⟩), (17, some ⟨gw, vw, 1, ybh (rsR t M i j)⟩), (200, some ⟨g, v, 1, ya9 ((resT t M).take i)⟩)] ∧ (j ≤ M.length)) ?_ ?_
  ·exact ⟨_, 0, _, _, _, _, _, _, rfl, eD, eD, eT⟩
  rintro mm ee ss kk ⟨j, g2, v2, gw, vw, g, v, rfl, rfl, rfl, hI⟩
  generalize hQl2 : ya1 _ _ = Ql2
  refine AW.seq fun K5 hK5 => ?_
  refine AW.sg [0,1,4,5,6,7,8,21] [4,17,200] (e2 @yat @yau) ?_
  refine AW.cn ?_ ?_
  ·intro hb
   have hjn : j < M.length := by omega
   have hgMj := yin (M := M) (k := j) hjn
   have hMj : M.getD j 0 < n := hM _ (ycu hjn _)
   have hset := rsR_set (t := t) (M := M) (i := i) hjn
   have hbl : (ybh (rsR t M i j)).length = M.length := by rw [yay, hirl]
   have hbs : ∀ x : Bool, (ybh (rsR t M i j)).set j [.bool x] = ybh ((rsR t M i j).set j x) := fun x => by simp [ybh, List.map_set]
   have hgb := ybm (l := rowT t (M.getD i 0)) (i := M.getD j 0) (by omega)
   have hat : (rowT t (M.getD i 0)).getD (M.getD j 0) false = atT t (M.getD i 0) (M.getD j 0) := rfl
   rw [hat] at hgb
   generalize rowT t (M.getD i 0) = ri at *
   generalize atT t (M.getD i 0) (M.getD j 0) = at_ at *
   generalize M.getD i 0 = x at *
   generalize M.getD j 0 = y at *
   refine AW.skip ?_
   refine hK5 _ _ _ ?_; clear hK5
   refine AW.seq fun K6 hK6 => ?_
   refine AW.block ?_
   refine AW.rd mixed 0 (fun _ => none) [0,1,4,5,6,7,8] [4,17,200] (e2 @yat (e5 @yau @hgMi @hgMj @hgr (e5 @hgb @hrl @hsl @yay (e5 @hrr @hbl @hbs @hset @hirl)))) ?_
   refine hK6 _ _ _ ?_; clear hK6
   refine AW.rg [0,1,4,5,6,7,8] [4,17,200] trivial ?_
   rw [← hQl2]; change Exists _
   exact ⟨_, eO, j + 1, _, _, _, _, _, _, rfl, eD, eD, eT⟩
  ·intro hb
   have hj : j = M.length := by omega
   subst hj
   have hap : ya9 ((resT t M).take i) ++ [[.osl 1 (ybh (rsR t M i M.length))]] = ya9 ((resT t M).take (i + 1)) := by rw [hit, yd4]
   have hgl : ∀ c : List AV, (ya9 ((resT t M).take i) ++ [c]).getD i [] = c := fun c => by rw [List.getD_eq_getElem?_getD, List.getElem?_append_right (by rw [ybc]; omega), ybc, htl]; simp
   have hsl2 : ∀ c c' : List AV, (ya9 ((resT t M).take i) ++ [c]).set i c' = ya9 ((resT t M).take i) ++ [c'] := fun c c' => by rw [List.set_append_right _ _ (by rw [ybc]; omega), ybc, htl]; simp
   have hll : ∀ c : List AV, (ya9 ((resT t M).take i) ++ [c]).length = i + 1 := fun c => by simp [ybc]; omega
   have hbl3 : (rsR t M i M.length).length = M.length := hirl _ _
   refine AW.exit ?_
   rw [← hQl2]
   refine hK4 _ _ _ ?_; clear hK4
   refine AW.regionK 0 (fun _ => none) [0, 1, 4, 5, 6] [4, 17, 200] ?_
   simp only [go_sem, reduceIte, reduceCtorEq, zA, zM, zE, zL, zD, zS, zP, zB, zI, zR, htk, ybc, htl]
   repeat with_reducible refine cj ?_ ?_
   all_goals try first | omega | (simp [scP, ybl]; done) | exact ya6 _ | exact ybi _ | exact ya7 _
   refine hK3 _ _ _ ?_; clear hK3
   refine AW.adoptK 200 i 0 17 ?_
   simp only [go_sem, reduceIte, zE, hgl, hsl2, hll]
   repeat refine cj ?_ ?_
   any_goals first | exact yck _ | decide | (rw [yay, hbl3]; done) | exact hbl3 | omega
   refine AW.keep [0, 1, 4, 5, 6] [4, 200] ?_
   simp only [go_sem, reduceIte, zE, hap]
   refine AW.rg [0,1,4,5,6] [4,200] trivial ?_
   rw [← hQl1]; change Exists _
   exact ⟨_, eO, i + 1, _, _, _, _, rfl, eD, eD, eT⟩
 ·intro hb
  have hi : i = M.length := by omega
  have htM : (ya9 (resT t M)).take M.length = ya9 (resT t M) := List.take_of_length_le (by rw [ybc, hil]; exact Nat.le_refl _)
  rw [hi, List.take_of_length_le (by omega : (resT t M).length ≤ M.length)]
  refine AW.exit ?_
  rw [← hQl1]
  refine hK1 _ _ _ ?_; clear hK1
  refine AW.freezeK [200] [5] [4, 5] [4] ?_
  simp only [go_sem, reduceIte, zE, htM, ypi]
  refine AW.keep [4, 5] [4] ?_
  simp only [go_sem, reduceIte, zE]
  refine AW.so 0 (fun ii => if ii = 1 then some (.reads false (.agg [.rsl 2 (tabR (resT t M))])) else none) [4] [4] trivial ?_
  repeat with_reducible refine cj ?_ ?_
  all_goals try first | (exact hfr) | omega | exact ent (by kernel_rfl)
  rw [← hQr]
  refine AW.rt trivial ?_
  exact Wk.refl _
end Go.Proofs.B

namespace Go.Proofs.B
open Go.AM Go
set_option maxRecDepth 100000
set_option maxHeartbeats 4000000
theorem blists_0 (rs : List USet) (hl : yme rs) (h : yg6 rs = true) : Reads Tryz.prog 6 false [relV rs] (.bool true) := by
 have ha := yjn
 have hg := yjo rs hl
 rw [h] at hg
 unfold relV at *
 refine Reads.body (rs := [.tmp 2]) Tryz.func6 rfl Tryz.ntmps6 rfl (by simp) ?_
 generalize hQr : retQ _ _ _ = Qr
 refine AW.sg [1] [1] trivial ?_
 refine AW.seq fun K1 hK1 => ?_
 refine AW.so 0 (fun ii => if ii = 0 then some (.reads false (.bool true)) else none) [1,19] [1] trivial ?_
 repeat with_reducible refine cj ?_ ?_
 all_goals try first | (exact ha) | omega | exact ent (by kernel_rfl)
 refine AW.cn ?_ ?_
 ·intro hb
  exfalso; simp at hb
 ·intro hb
  refine AW.skip ?_
  refine hK1 _ _ _ ?_; clear hK1
  refine AW.seq fun K2 hK2 => ?_
  refine AW.so 0 (fun ii => if ii = 1 then some (.reads false (.bool true)) else none) [1,21] [1] trivial ?_
  repeat with_reducible refine cj ?_ ?_
  all_goals try first | (exact hg) | omega | exact ent (by kernel_rfl)
  refine AW.cn ?_ ?_
  ·intro hb
   refine AW.sg [2] [] trivial ?_
   rw [← hQr]
   refine AW.rt trivial ?_
   exact Wk.refl _
  ·intro hb
   exfalso; simp at hb
theorem blists_e (rs : List USet) (hl : yme rs) (h : yg6 rs = false) (hv1 : Reads Tryz.prog 58 false [relV rs] (.bool false)) (hv2 : Reads Tryz.prog 49 false [relV rs] (.bool false)) : Reads Tryz.prog 6 false [relV rs] (.bool true) := by
 have ha := yjn
 have hg := yjo rs hl
 rw [h] at hg
 have hl1 := hl.1
 unfold relV at *
 have htb := ykm _ (by simpa using hl1) false hv1 (by simp)
 have hds := yq1 _ htb
 have hid := ideals_e _ _ _ (yjl _ _ (list_e _ hv1)) rfl
 have hir := yvj _ (yqy _ .any .any htb)
 have ho := yma _ _ hv2
 have hnn := yi0
 refine Reads.body (rs := [.tmp 2]) Tryz.func6 rfl Tryz.ntmps6 rfl (by simp) ?_
 generalize hQr : retQ _ _ _ = Qr
 refine AW.sg [1] [1] trivial ?_
 refine AW.seq fun K1 hK1 => ?_
 refine AW.so 0 (fun ii => if ii = 0 then some (.reads false (.bool true)) else none) [1,19] [1] trivial ?_
 repeat with_reducible refine cj ?_ ?_
 all_goals try first | (exact ha) | omega | exact ent (by kernel_rfl)
 refine AW.cn ?_ ?_
 ·intro hb
  exfalso; simp at hb
 ·intro hb
  refine AW.skip ?_
  refine hK1 _ _ _ ?_; clear hK1
  refine AW.seq fun K2 hK2 => ?_
  refine AW.so 0 (fun ii => if ii = 1 then some (.reads false (.bool false)) else none) [1,21] [1] trivial ?_
  repeat with_reducible refine cj ?_ ?_
  all_goals try first | (exact hg) | omega | exact ent (by kernel_rfl)
  refine AW.cn ?_ ?_
  ·intro hb
   exfalso; simp at hb
  ·intro hb
   refine AW.skip ?_
   refine hK2 _ _ _ ?_; clear hK2
   refine AW.so 0 (fun ii => if ii = 1 then some (.reads false (.tup [.bool false, .agg [.int .i64 0, .int .i64 0, .int .i64 0], .int .i64 1])) else none) [1,3,4,5] [1,4] trivial ?_
   repeat with_reducible refine cj ?_ ?_
   all_goals try first | (exact hds) | omega | exact ent (by kernel_rfl)
   refine AW.so 0 (fun ii => if ii = 1 then some (.reads false (.tup [.agg [.nilsl], .nilsl, .int .i64 ((1 : Nat) : Int)])) else none) [1,3,4,5,6,7,8] [1,4,6] trivial ?_
   repeat with_reducible refine cj ?_ ?_
   all_goals try first | (exact hid) | omega | exact ent (by kernel_rfl)
   refine AW.so 0 (fun ii => if ii = 1 then some (.reads false (.tup [.agg [.nilsl], .nilsl, .int .i64 1])) else none) [1,3,4,5,6,7,8,9,10,11] [1,4,6,9] trivial ?_
   repeat with_reducible refine cj ?_ ?_
   all_goals try first | (exact hir) | omega | exact ent (by kernel_rfl)
   refine AW.seq fun K3 hK3 => ?_
   refine AW.so 0 (fun ii => if ii = 1 then some (.reads false (.bool false)) else none) [1,3,4,5,6,7,8,9,10,11,42] [1,4,6,9] trivial ?_
   repeat with_reducible refine cj ?_ ?_
   all_goals try first | (exact ho) | omega | exact ent (by kernel_rfl)
   refine AW.cn ?_ ?_
   ·intro hb
    refine AW.so 0 (fun ii => if ii = 17 then some (.reads false (.bool true)) else if ii = 30 then some (.reads false (.bool true)) else none) [2] [] trivial ?_
    repeat with_reducible refine cj ?_ ?_
    all_goals try first | ((intro hh; exact ⟨hh, hnn⟩)) | (intros; (repeat' apply And.intro) <;> first | assumption | ((intro hh; exact ⟨hh, hnn⟩))) | omega | exact ent (by kernel_rfl) | (intro hgd; exact absurd hgd (by decide)) | rfl | exact gD | (intro _hgd; simp_all [go_sem]; done)
    rw [← hQr]
    refine AW.rt trivial ?_
    exact Wk.of_eq (by simp)
   ·intro hb
    exfalso; simp at hb
theorem blists_bl (n : Nat) (t : List (List Bool)) (hs : Sq n t) (hn : n ≤ 512) (hp : poB n t = true) (hf : yg6 (t.map SB) = false) (hbig : 512 < (allU (invT n t) n).length) (hlat : latB t n = true) : Reads Tryz.prog 6 false [relB t] (.bool true) := by
 have ha := yjn
 have hg := yjo (t.map SB) (yki hs hn)
 rw [hf, ← yf3] at hg
 have hpo := (yjg hs).1 hp
 have hv := yp8 n t hs hn
 rw [hp] at hv
 have htab := (yl9 n t hs hn).old
 have hri := yiz n t hs hn hpo
 have hrl := ykn n t hs hn
 rw [← ysx hs hpo, hlat] at hrl
 have hnn := yi0
 rw [show ridV (invT n t) n = .tup [.nilsl, .bool false] from if_neg (by omega)] at hri
 have hid : Reads Tryz.prog 12 false [relB t] (.tup [.agg [.nilsl], .nilsl, .int .i64 9]) := by
  by_cases h5 : (allU (invT n t) n).length ≤ 5000
  ·exact ygt _ _ _ (yf9 _ _ _ (yhq n t hs hn hp h5)) (.inr ⟨rfl, by omega⟩)
  ·exact ygt _ _ _ (yjl _ _ (ysl n t hs hn hp h5)) (.inl rfl)
 have h0n : 0 < n := by
  apply Classical.byContradiction
  intro h
  unfold latB at hlat
  rw [decide_eq_false h] at hlat
  cases hlat
 have hall : ((List.range n).all fun i => ydq (jnT t n) i && ydq (mtT t n) i) = true := by
  unfold latB at hlat
  rw [Bool.and_eq_true] at hlat
  exact hlat.2
 have htb := ygr n t hs hn hp h0n
 rw [show tabV t n = .tup [.agg [.rsl 1 (lisR (jnT t n)), .rsl 1 (lisR (mtT t n))], .bool true] from if_pos hall] at htb
 have hJ : yl6 (jnT t n) n := ygs (ycb ..) fun i hi => by
  have := List.all_eq_true.1 hall i (List.mem_range.2 hi)
  rw [Bool.and_eq_true] at this
  exact this.1
 have hM : yl6 (mtT t n) n := ygs (ycb ..) fun i hi => by
  have := List.all_eq_true.1 hall i (List.mem_range.2 hi)
  rw [Bool.and_eq_true] at this
  exact this.2
 obtain ⟨bq, x, y, z, hq⟩ := DisQ.ex (jnT t n) (mtT t n) n
 have hds := yq0 n t hs _ _ hJ hM hn _ hq.toA htb
 have hrds := yum n t hs _ _ hJ hM hn (ys0 hs hpo) (ys0 Sq.inv hpo.inv) bq x y z hq
 have hir := yvk n t hs hn hp hlat
 have hrir := yvf n t hs hn
 have hIle := yl8 (covT n t) n n
 have hIlt : ∀ x ∈ irrL (covT n t) n n, x < n := fun x hx => List.mem_range.1 (List.mem_filter.1 hx).1
 generalize irrL (covT n t) n n = I0 at *
 have hrs := ys2 n t hs hn I0 hIlt (by omega)
 have hqs := yn0 t I0
 have hsq := ysz I0.length I0.length (resT t I0) (resT t I0) hqs hqs (by omega) (by omega)
 rw [show decide (resT t I0 = resT t I0) = true by simp] at hsq
 have heqi := yn5 (nats I0) (by rw [yau]; omega)
 generalize resT t I0 = Q at *
 unfold relB at *
 have hod := yma _ _ hv
 generalize rowsR t = R at *
 refine Reads.body (rs := [.tmp 2]) Tryz.func6 rfl Tryz.ntmps6 rfl (by simp) ?_
 generalize hQr : retQ _ _ _ = Qr
 refine AW.sg [1] [1] trivial ?_
 refine AW.seq fun K1 hK1 => ?_
 refine AW.so 0 (fun ii => if ii = 0 then some (.reads false (.bool true)) else none) [1,19] [1] trivial ?_
 repeat with_reducible refine cj ?_ ?_
 all_goals try first | (exact ha) | omega | exact ent (by kernel_rfl)
 refine AW.cn ?_ ?_
 ·intro hb
  exfalso; simp at hb
 ·intro hb
  refine AW.skip ?_
  refine hK1 _ _ _ ?_; clear hK1
  refine AW.seq fun K2 hK2 => ?_
  refine AW.so 0 (fun ii => if ii = 1 then some (.reads false (.bool false)) else none) [1,21] [1] trivial ?_
  repeat with_reducible refine cj ?_ ?_
  all_goals try first | (exact hg) | omega | exact ent (by kernel_rfl)
  refine AW.cn ?_ ?_
  ·intro hb
   exfalso; simp at hb
  ·intro hb
   refine AW.skip ?_
   refine hK2 _ _ _ ?_; clear hK2
   refine AW.so 0 (fun ii => if ii = 1 then some (.reads false (.tup [.bool bq, .agg [.int .i64 x, .int .i64 y, .int .i64 z], .int .i64 0])) else none) [1,3,4,5] [1,4] trivial ?_
   repeat with_reducible refine cj ?_ ?_
   all_goals try first | (exact hds) | omega | exact ent (by kernel_rfl)
   refine AW.so 0 (fun ii => if ii = 1 then some (.reads false (.tup [.agg [.nilsl], .nilsl, .int .i64 9])) else none) [1,3,4,5,6,7,8] [1,4,6] trivial ?_
   repeat with_reducible refine cj ?_ ?_
   all_goals try first | (exact hid) | omega | exact ent (by kernel_rfl)
   refine AW.so 0 (fun ii => if ii = 1 then some (.reads false (.tup [.agg [.rsl 2 (tabR Q)], .rsl 1 (ints (nats I0)), .int .i64 0])) else none) [1,3,4,5,6,7,8,9,10,11] [1,4,6,9] trivial ?_
   repeat with_reducible refine cj ?_ ?_
   all_goals try first | (exact hir) | omega | exact ent (by kernel_rfl)
   refine AW.seq fun K3 hK3 => ?_
   refine AW.so 0 (fun ii => if ii = 1 then some (.reads false (.bool true)) else none) [1,3,4,5,6,7,8,9,10,11,42] [1,4,6,9] trivial ?_
   repeat with_reducible refine cj ?_ ?_
   all_goals try first | (exact hod) | omega | exact ent (by kernel_rfl)
   refine AW.cn ?_ ?_
   ·intro hb
    exfalso; simp at hb
   ·intro hb
    refine AW.skip ?_
    refine hK3 _ _ _ ?_; clear hK3
    refine AW.so 0 (fun ii => if ii = 1 then some (.reads false (.rsl 1 R)) else none) [3,4,5,6,7,8,9,10,11,12] [4,6,9] trivial ?_
    repeat with_reducible refine cj ?_ ?_
    all_goals try first | (exact htab) | omega | exact ent (by kernel_rfl)
    refine AW.so 0 (fun ii => if ii = 1 then some (.reads false (.tup [.nilsl, .bool false])) else none) [3,4,5,6,7,8,9,10,11,12,13,14] [4,6,9] trivial ?_
    repeat with_reducible refine cj ?_ ?_
    all_goals try first | (exact hri) | omega | exact ent (by kernel_rfl)
    refine AW.seq fun K4 hK4 => ?_
    refine AW.sg [3,4,5,6,7,8,9,10,11,12,13,88] [4,6,9] trivial ?_
    refine AW.cn ?_ ?_
    ·intro hb
     refine AW.so 0 (fun ii => if ii = 4 then some (.reads false (.bool true)) else none) [3,4,5,9,10,11,12,100] [4,9] trivial ?_
     repeat with_reducible refine cj ?_ ?_
     all_goals try first | ((intro hh; exact ⟨hh, hnn⟩)) | (intros; (repeat' apply And.intro) <;> first | assumption | ((intro hh; exact ⟨hh, hnn⟩))) | omega | exact ent (by kernel_rfl) | (intro hgd; exact absurd hgd (by decide)) | rfl | exact gD | (intro _hgd; simp_all [go_sem]; done)
     refine AW.cn ?_ ?_
     ·intro hb
      exfalso; simp at hb
     ·intro hb
      refine AW.skip ?_
      refine hK4 _ _ _ ?_; clear hK4
      refine AW.seq fun K5 hK5 => ?_
      refine AW.so 0 (fun ii => if ii = 1 then some (.reads false (.bool true)) else none) [3,4,5,9,10,11,12,125] [4,9] trivial ?_
      repeat with_reducible refine cj ?_ ?_
      all_goals try first | (exact hrl) | omega | exact ent (by kernel_rfl)
      refine AW.cn ?_ ?_
      ·intro hb
       exfalso; simp at hb
      ·intro hb
       refine AW.skip ?_
       refine hK5 _ _ _ ?_; clear hK5
       refine AW.so 0 (fun ii => if ii = 1 then some (.reads false (.tup [.bool bq, .agg [.int .i64 x, .int .i64 y, .int .i64 z]])) else none) [3,4,5,9,10,11,12,15,16] [4,9,16] trivial ?_
       repeat with_reducible refine cj ?_ ?_
       all_goals try first | (exact hrds) | omega | exact ent (by kernel_rfl)
       refine AW.so 0 (fun ii => if ii = 1 then some (.reads false (.rsl 1 (ints (nats I0)))) else none) [3,4,5,9,10,11,12,15,16,17] [4,9,16] trivial ?_
       repeat with_reducible refine cj ?_ ?_
       all_goals try first | (exact hrir) | omega | exact ent (by kernel_rfl)
       refine AW.sd mixed 0 (fun ii => if ii = 19 then some (.reads false (.bool true)) else if ii = 25 then some (.reads false (.agg [.rsl 2 (tabR Q)])) else if ii = 26 then some (.reads false (.bool true)) else none) [2] [] trivial ?_
       repeat with_reducible refine cj ?_ ?_
       all_goals try first | (first | (intro hh; exact ⟨hh, heqi⟩) | (intro hh; exact ⟨hh, hrs⟩) | (intro hh; exact ⟨hh, hsq⟩)) | (intros; (repeat' apply And.intro) <;> first | assumption | (first | (intro hh; exact ⟨hh, heqi⟩) | (intro hh; exact ⟨hh, hrs⟩) | (intro hh; exact ⟨hh, hsq⟩))) | omega | exact chk (by kernel_rfl) | exact ent (by kernel_rfl) | (intro hgd; exact absurd hgd (by decide)) | rfl | exact gD | (intro _hgd; simp_all [go_sem]; done)
       rw [← hQr]
       refine AW.rt trivial ?_
       exact Wk.of_eq (by simp)
    ·intro hb
     exfalso; simp at hb
theorem blists_bn (n : Nat) (t : List (List Bool)) (hs : Sq n t) (hn : n ≤ 512) (hp : poB n t = true) (hf : yg6 (t.map SB) = false) (hbig : 512 < (allU (invT n t) n).length) (hlat : latB t n = false) : Reads Tryz.prog 6 false [relB t] (.bool true) := by
 have ha := yjn
 have hg := yjo (t.map SB) (yki hs hn)
 rw [hf, ← yf3] at hg
 have hpo := (yjg hs).1 hp
 have hv := yp8 n t hs hn
 rw [hp] at hv
 have htab := (yl9 n t hs hn).old
 have hri := yiz n t hs hn hpo
 have hrl := ykn n t hs hn
 rw [← ysx hs hpo, hlat] at hrl
 have hnn := yi0
 rw [show ridV (invT n t) n = .tup [.nilsl, .bool false] from if_neg (by omega)] at hri
 have hid : Reads Tryz.prog 12 false [relB t] (.tup [.agg [.nilsl], .nilsl, .int .i64 9]) := by
  by_cases h5 : (allU (invT n t) n).length ≤ 5000
  ·exact ygt _ _ _ (yf9 _ _ _ (yhq n t hs hn hp h5)) (.inr ⟨rfl, by omega⟩)
  ·exact ygt _ _ _ (yjl _ _ (ysl n t hs hn hp h5)) (.inl rfl)
 have htb : Reads Tryz.prog 53 false [relB t] (.tup [.agg [.nilsl, .nilsl], .bool false]) := by
  by_cases h0 : 0 < n
  ·have h := ygr n t hs hn hp h0
   rw [show tabV t n = .tup [.agg [.nilsl, .nilsl], .bool false] from if_neg (by
    unfold latB at hlat
    rw [decide_eq_true h0, Bool.true_and] at hlat
    rw [hlat]; simp)] at h
   exact h
  ·exact ykm _ (by rw [yas, hs.len]; omega) _ (ydw n t hs hn) (by rw [yas, hs.len, decide_eq_false h0, Bool.and_false])
 have hds := yq1 _ htb
 have hil := yqz n t hs hn hp
 rw [hlat] at hil
 have hir := yvj _ hil
 unfold relB at *
 have hod := yma _ _ hv
 generalize rowsR t = R at *
 refine Reads.body (rs := [.tmp 2]) Tryz.func6 rfl Tryz.ntmps6 rfl (by simp) ?_
 generalize hQr : retQ _ _ _ = Qr
 refine AW.sg [1] [1] trivial ?_
 refine AW.seq fun K1 hK1 => ?_
 refine AW.so 0 (fun ii => if ii = 0 then some (.reads false (.bool true)) else none) [1,19] [1] trivial ?_
 repeat with_reducible refine cj ?_ ?_
 all_goals try first | (exact ha) | omega | exact ent (by kernel_rfl)
 refine AW.cn ?_ ?_
 ·intro hb
  exfalso; simp at hb
 ·intro hb
  refine AW.skip ?_
  refine hK1 _ _ _ ?_; clear hK1
  refine AW.seq fun K2 hK2 => ?_
  refine AW.so 0 (fun ii => if ii = 1 then some (.reads false (.bool false)) else none) [1,21] [1] trivial ?_
  repeat with_reducible refine cj ?_ ?_
  all_goals try first | (exact hg) | omega | exact ent (by kernel_rfl)
  refine AW.cn ?_ ?_
  ·intro hb
   exfalso; simp at hb
  ·intro hb
   refine AW.skip ?_
   refine hK2 _ _ _ ?_; clear hK2
   refine AW.so 0 (fun ii => if ii = 1 then some (.reads false (.tup [.bool false, .agg [.int .i64 0, .int .i64 0, .int .i64 0], .int .i64 1])) else none) [1,3,4,5] [1,4] trivial ?_
   repeat with_reducible refine cj ?_ ?_
   all_goals try first | (exact hds) | omega | exact ent (by kernel_rfl)
   refine AW.so 0 (fun ii => if ii = 1 then some (.reads false (.tup [.agg [.nilsl], .nilsl, .int .i64 9])) else none) [1,3,4,5,6,7,8] [1,4,6] trivial ?_
   repeat with_reducible refine cj ?_ ?_
   all_goals try first | (exact hid) | omega | exact ent (by kernel_rfl)
   refine AW.so 0 (fun ii => if ii = 1 then some (.reads false (.tup [.agg [.nilsl], .nilsl, .int .i64 1])) else none) [1,3,4,5,6,7,8,9,10,11] [1,4,6,9] trivial ?_
   repeat with_reducible refine cj ?_ ?_
   all_goals try first | (exact hir) | omega | exact ent (by kernel_rfl)
   refine AW.seq fun K3 hK3 => ?_
   refine AW.so 0 (fun ii => if ii = 1 then some (.reads false (.bool true)) else none) [1,3,4,5,6,7,8,9,10,11,42] [1,4,6,9] trivial ?_
   repeat with_reducible refine cj ?_ ?_
   all_goals try first | (exact hod) | omega | exact ent (by kernel_rfl)
   refine AW.cn ?_ ?_
   ·intro hb
    exfalso; simp at hb
   ·intro hb
    refine AW.skip ?_
    refine hK3 _ _ _ ?_; clear hK3
    refine AW.so 0 (fun ii => if ii = 1 then some (.reads false (.rsl 1 R)) else none) [3,4,5,6,7,8,9,10,11,12] [4,6,9] trivial ?_
    repeat with_reducible refine cj ?_ ?_
    all_goals try first | (exact htab) | omega | exact ent (by kernel_rfl)
    refine AW.so 0 (fun ii => if ii = 1 then some (.reads false (.tup [.nilsl, .bool false])) else none) [3,4,5,6,7,8,9,10,11,12,13,14] [4,6,9] trivial ?_
    repeat with_reducible refine cj ?_ ?_
    all_goals try first | (exact hri) | omega | exact ent (by kernel_rfl)
    refine AW.seq fun K4 hK4 => ?_
    refine AW.sg [3,4,5,6,7,8,9,10,11,12,13,88] [4,6,9] trivial ?_
    refine AW.cn ?_ ?_
    ·intro hb
     refine AW.so 0 (fun ii => if ii = 4 then some (.reads false (.bool true)) else none) [3,4,5,9,10,11,12,100] [4,9] trivial ?_
     repeat with_reducible refine cj ?_ ?_
     all_goals try first | ((intro hh; exact ⟨hh, hnn⟩)) | (intros; (repeat' apply And.intro) <;> first | assumption | ((intro hh; exact ⟨hh, hnn⟩))) | omega | exact ent (by kernel_rfl) | (intro hgd; exact absurd hgd (by decide)) | rfl | exact gD | (intro _hgd; simp_all [go_sem]; done)
     refine AW.cn ?_ ?_
     ·intro hb
      exfalso; simp at hb
     ·intro hb
      refine AW.skip ?_
      refine hK4 _ _ _ ?_; clear hK4
      refine AW.seq fun K5 hK5 => ?_
      refine AW.so 0 (fun ii => if ii = 1 then some (.reads false (.bool false)) else none) [3,4,5,9,10,11,12,125] [4,9] trivial ?_
      repeat with_reducible refine cj ?_ ?_
      all_goals try first | (exact hrl) | omega | exact ent (by kernel_rfl)
      refine AW.cn ?_ ?_
      ·intro hb
       refine AW.so 0 (fun ii => if ii = 17 then some (.reads false (.bool true)) else none) [2] [] trivial ?_
       repeat with_reducible refine cj ?_ ?_
       all_goals try first | ((intro hh; exact ⟨hh, hnn⟩)) | (intros; (repeat' apply And.intro) <;> first | assumption | ((intro hh; exact ⟨hh, hnn⟩))) | omega | exact ent (by kernel_rfl) | (intro hgd; exact absurd hgd (by decide)) | rfl | exact gD | (intro _hgd; simp_all [go_sem]; done)
       rw [← hQr]
       refine AW.rt trivial ?_
       exact Wk.of_eq (by simp)
      ·intro hb
       exfalso; simp at hb
    ·intro hb
     exfalso; simp at hb
theorem blists_sl (n : Nat) (t : List (List Bool)) (hs : Sq n t) (hn : n ≤ 512) (hp : poB n t = true) (hf : yg6 (t.map SB) = false) (hbig : (allU (invT n t) n).length ≤ 512) (hlat : latB t n = true) : Reads Tryz.prog 6 false [relB t] (.bool true) := by
 have ha := yjn
 have hg := yjo (t.map SB) (yki hs hn)
 rw [hf, ← yf3] at hg
 have hpo := (yjg hs).1 hp
 have hv := yp8 n t hs hn
 rw [hp] at hv
 have htab := (yl9 n t hs hn).old
 have hri := yiz n t hs hn hpo
 have hrl := ykn n t hs hn
 rw [← ysx hs hpo, hlat] at hrl
 have hnn := yi0
 rw [show ridV (invT n t) n = .tup [.rsl 2 (tabR (allU (invT n t) n)), .bool true] from if_pos hbig] at hri
 have hL : ∀ b ∈ allU (invT n t) n, b.length = n := yod
 have hid := yoh n (tabR t) hn (allU (invT n t) n) hL hbig (yf9 _ _ _ (yhq n t hs hn hp (by omega))) (yhq n t hs hn hp (by omega))
 generalize allU (invT n t) n = L at *
 have heqf := Reads.flat (yvp n hn L hL (by omega)) rfl
 have hinc := yve n hn L hL hbig
 have hisq := yog L
 have hsam := ysz L.length L.length (inclT L) (inclT L) hisq hisq hbig hbig
 rw [show decide (inclT L = inclT L) = true by simp] at hsam
 have hLl := yas L
 generalize inclT L = E at *
 have h0n : 0 < n := by
  apply Classical.byContradiction
  intro h
  unfold latB at hlat
  rw [decide_eq_false h] at hlat
  cases hlat
 have hall : ((List.range n).all fun i => ydq (jnT t n) i && ydq (mtT t n) i) = true := by
  unfold latB at hlat
  rw [Bool.and_eq_true] at hlat
  exact hlat.2
 have htb := ygr n t hs hn hp h0n
 rw [show tabV t n = .tup [.agg [.rsl 1 (lisR (jnT t n)), .rsl 1 (lisR (mtT t n))], .bool true] from if_pos hall] at htb
 have hJ : yl6 (jnT t n) n := ygs (ycb ..) fun i hi => by
  have := List.all_eq_true.1 hall i (List.mem_range.2 hi)
  rw [Bool.and_eq_true] at this
  exact this.1
 have hM : yl6 (mtT t n) n := ygs (ycb ..) fun i hi => by
  have := List.all_eq_true.1 hall i (List.mem_range.2 hi)
  rw [Bool.and_eq_true] at this
  exact this.2
 obtain ⟨bq, x, y, z, hq⟩ := DisQ.ex (jnT t n) (mtT t n) n
 have hds := yq0 n t hs _ _ hJ hM hn _ hq.toA htb
 have hrds := yum n t hs _ _ hJ hM hn (ys0 hs hpo) (ys0 Sq.inv hpo.inv) bq x y z hq
 have hir := yvk n t hs hn hp hlat
 have hrir := yvf n t hs hn
 have hIle := yl8 (covT n t) n n
 have hIlt : ∀ x ∈ irrL (covT n t) n n, x < n := fun x hx => List.mem_range.1 (List.mem_filter.1 hx).1
 generalize irrL (covT n t) n n = I0 at *
 have hrs := ys2 n t hs hn I0 hIlt (by omega)
 have hqs := yn0 t I0
 have hsq := ysz I0.length I0.length (resT t I0) (resT t I0) hqs hqs (by omega) (by omega)
 rw [show decide (resT t I0 = resT t I0) = true by simp] at hsq
 have heqi := yn5 (nats I0) (by rw [yau]; omega)
 generalize resT t I0 = Q at *
 unfold relB at *
 have hod := yma _ _ hv
 generalize rowsR t = R at *
 refine Reads.body (rs := [.tmp 2]) Tryz.func6 rfl Tryz.ntmps6 rfl (by simp) ?_
 generalize hQr : retQ _ _ _ = Qr
 refine AW.sg [1] [1] trivial ?_
 refine AW.seq fun K1 hK1 => ?_
 refine AW.so 0 (fun ii => if ii = 0 then some (.reads false (.bool true)) else none) [1,19] [1] trivial ?_
 repeat with_reducible refine cj ?_ ?_
 all_goals try first | (exact ha) | omega | exact ent (by kernel_rfl)
 refine AW.cn ?_ ?_
 ·intro hb
  exfalso; simp at hb
 ·intro hb
  refine AW.skip ?_
  refine hK1 _ _ _ ?_; clear hK1
  refine AW.seq fun K2 hK2 => ?_
  refine AW.so 0 (fun ii => if ii = 1 then some (.reads false (.bool false)) else none) [1,21] [1] trivial ?_
  repeat with_reducible refine cj ?_ ?_
  all_goals try first | (exact hg) | omega | exact ent (by kernel_rfl)
  refine AW.cn ?_ ?_
  ·intro hb
   exfalso; simp at hb
  ·intro hb
   refine AW.skip ?_
   refine hK2 _ _ _ ?_; clear hK2
   refine AW.so 0 (fun ii => if ii = 1 then some (.reads false (.tup [.bool bq, .agg [.int .i64 x, .int .i64 y, .int .i64 z], .int .i64 0])) else none) [1,3,4,5] [1,4] trivial ?_
   repeat with_reducible refine cj ?_ ?_
   all_goals try first | (exact hds) | omega | exact ent (by kernel_rfl)
   refine AW.so 0 (fun ii => if ii = 1 then some (.reads false (.tup [.agg [.rsl 2 (tabR E)], .rsl 2 (tabR L), .int .i64 0])) else none) [1,3,4,5,6,7,8] [1,4,6] trivial ?_
   repeat with_reducible refine cj ?_ ?_
   all_goals try first | (exact hid) | omega | exact ent (by kernel_rfl)
   refine AW.so 0 (fun ii => if ii = 1 then some (.reads false (.tup [.agg [.rsl 2 (tabR Q)], .rsl 1 (ints (nats I0)), .int .i64 0])) else none) [1,3,4,5,6,7,8,9,10,11] [1,4,6,9] trivial ?_
   repeat with_reducible refine cj ?_ ?_
   all_goals try first | (exact hir) | omega | exact ent (by kernel_rfl)
   refine AW.seq fun K3 hK3 => ?_
   refine AW.so 0 (fun ii => if ii = 1 then some (.reads false (.bool true)) else none) [1,3,4,5,6,7,8,9,10,11,42] [1,4,6,9] trivial ?_
   repeat with_reducible refine cj ?_ ?_
   all_goals try first | (exact hod) | omega | exact ent (by kernel_rfl)
   refine AW.cn ?_ ?_
   ·intro hb
    exfalso; simp at hb
   ·intro hb
    refine AW.skip ?_
    refine hK3 _ _ _ ?_; clear hK3
    refine AW.so 0 (fun ii => if ii = 1 then some (.reads false (.rsl 1 R)) else none) [3,4,5,6,7,8,9,10,11,12] [4,6,9] trivial ?_
    repeat with_reducible refine cj ?_ ?_
    all_goals try first | (exact htab) | omega | exact ent (by kernel_rfl)
    refine AW.so 0 (fun ii => if ii = 1 then some (.reads false (.tup [.rsl 2 (tabR L), .bool true])) else none) [3,4,5,6,7,8,9,10,11,12,13,14] [4,6,9] trivial ?_
    repeat with_reducible refine cj ?_ ?_
    all_goals try first | (exact hri) | omega | exact ent (by kernel_rfl)
    refine AW.seq fun K4 hK4 => ?_
    refine AW.sg [3,4,5,6,7,8,9,10,11,12,13,88] [4,6,9] trivial ?_
    refine AW.cn ?_ ?_
    ·intro hb
     exfalso; simp at hb
    ·intro hb
     refine AW.sd mixed 0 (fun ii => if ii = 12 then some (.reads true (.bool true)) else if ii = 18 then some (.reads false (.agg [.rsl 2 (tabR E)])) else if ii = 19 then some (.reads false (.bool true)) else none) [3,4,5,9,10,11,12,122] [4,9] (@hLl) ?_
     repeat with_reducible refine cj ?_ ?_
     all_goals try first | (first | (intro hh; exact ⟨hh, heqf⟩) | (intro hh; exact ⟨hh, hinc⟩) | (intro hh; exact ⟨hh, hsam⟩)) | (intros; (repeat' apply And.intro) <;> first | assumption | (first | (intro hh; exact ⟨hh, heqf⟩) | (intro hh; exact ⟨hh, hinc⟩) | (intro hh; exact ⟨hh, hsam⟩))) | omega | exact chk (by kernel_rfl) | exact ent (by kernel_rfl) | (intro hgd; exact absurd hgd (by decide)) | rfl | (simp only [go_sem, reduceIte, reduceCtorEq, zA, zM, zE, zL, zD, zS, zP, zB, zI, zR, hLl]; done) | (intro _hgd; simp_all [go_sem]; done)
     refine AW.cn ?_ ?_
     ·intro hb
      exfalso; simp at hb
     ·intro hb
      refine AW.skip ?_
      refine hK4 _ _ _ ?_; clear hK4
      refine AW.seq fun K5 hK5 => ?_
      refine AW.so 0 (fun ii => if ii = 1 then some (.reads false (.bool true)) else none) [3,4,5,9,10,11,12,125] [4,9] trivial ?_
      repeat with_reducible refine cj ?_ ?_
      all_goals try first | (exact hrl) | omega | exact ent (by kernel_rfl)
      refine AW.cn ?_ ?_
      ·intro hb
       exfalso; simp at hb
      ·intro hb
       refine AW.skip ?_
       refine hK5 _ _ _ ?_; clear hK5
       refine AW.so 0 (fun ii => if ii = 1 then some (.reads false (.tup [.bool bq, .agg [.int .i64 x, .int .i64 y, .int .i64 z]])) else none) [3,4,5,9,10,11,12,15,16] [4,9,16] trivial ?_
       repeat with_reducible refine cj ?_ ?_
       all_goals try first | (exact hrds) | omega | exact ent (by kernel_rfl)
       refine AW.so 0 (fun ii => if ii = 1 then some (.reads false (.rsl 1 (ints (nats I0)))) else none) [3,4,5,9,10,11,12,15,16,17] [4,9,16] trivial ?_
       repeat with_reducible refine cj ?_ ?_
       all_goals try first | (exact hrir) | omega | exact ent (by kernel_rfl)
       refine AW.sd mixed 0 (fun ii => if ii = 19 then some (.reads false (.bool true)) else if ii = 25 then some (.reads false (.agg [.rsl 2 (tabR Q)])) else if ii = 26 then some (.reads false (.bool true)) else none) [2] [] trivial ?_
       repeat with_reducible refine cj ?_ ?_
       all_goals try first | (first | (intro hh; exact ⟨hh, heqi⟩) | (intro hh; exact ⟨hh, hrs⟩) | (intro hh; exact ⟨hh, hsq⟩)) | (intros; (repeat' apply And.intro) <;> first | assumption | (first | (intro hh; exact ⟨hh, heqi⟩) | (intro hh; exact ⟨hh, hrs⟩) | (intro hh; exact ⟨hh, hsq⟩))) | omega | exact chk (by kernel_rfl) | exact ent (by kernel_rfl) | (intro hgd; exact absurd hgd (by decide)) | rfl | exact gD | (intro _hgd; simp_all [go_sem]; done)
       rw [← hQr]
       refine AW.rt trivial ?_
       exact Wk.of_eq (by simp)
theorem blists_sn (n : Nat) (t : List (List Bool)) (hs : Sq n t) (hn : n ≤ 512) (hp : poB n t = true) (hf : yg6 (t.map SB) = false) (hbig : (allU (invT n t) n).length ≤ 512) (hlat : latB t n = false) : Reads Tryz.prog 6 false [relB t] (.bool true) := by
 have ha := yjn
 have hg := yjo (t.map SB) (yki hs hn)
 rw [hf, ← yf3] at hg
 have hpo := (yjg hs).1 hp
 have hv := yp8 n t hs hn
 rw [hp] at hv
 have htab := (yl9 n t hs hn).old
 have hri := yiz n t hs hn hpo
 have hrl := ykn n t hs hn
 rw [← ysx hs hpo, hlat] at hrl
 have hnn := yi0
 rw [show ridV (invT n t) n = .tup [.rsl 2 (tabR (allU (invT n t) n)), .bool true] from if_pos hbig] at hri
 have hL : ∀ b ∈ allU (invT n t) n, b.length = n := yod
 have hid := yoh n (tabR t) hn (allU (invT n t) n) hL hbig (yf9 _ _ _ (yhq n t hs hn hp (by omega))) (yhq n t hs hn hp (by omega))
 generalize allU (invT n t) n = L at *
 have heqf := Reads.flat (yvp n hn L hL (by omega)) rfl
 have hinc := yve n hn L hL hbig
 have hisq := yog L
 have hsam := ysz L.length L.length (inclT L) (inclT L) hisq hisq hbig hbig
 rw [show decide (inclT L = inclT L) = true by simp] at hsam
 have hLl := yas L
 generalize inclT L = E at *
 have htb : Reads Tryz.prog 53 false [relB t] (.tup [.agg [.nilsl, .nilsl], .bool false]) := by
  by_cases h0 : 0 < n
  ·have h := ygr n t hs hn hp h0
   rw [show tabV t n = .tup [.agg [.nilsl, .nilsl], .bool false] from if_neg (by
    unfold latB at hlat
    rw [decide_eq_true h0, Bool.true_and] at hlat
    rw [hlat]; simp)] at h
   exact h
  ·exact ykm _ (by rw [yas, hs.len]; omega) _ (ydw n t hs hn) (by rw [yas, hs.len, decide_eq_false h0, Bool.and_false])
 have hds := yq1 _ htb
 have hil := yqz n t hs hn hp
 rw [hlat] at hil
 have hir := yvj _ hil
 unfold relB at *
 have hod := yma _ _ hv
 generalize rowsR t = R at *
 refine Reads.body (rs := [.tmp 2]) Tryz.func6 rfl Tryz.ntmps6 rfl (by simp) ?_
 generalize hQr : retQ _ _ _ = Qr
 refine AW.sg [1] [1] trivial ?_
 refine AW.seq fun K1 hK1 => ?_
 refine AW.so 0 (fun ii => if ii = 0 then some (.reads false (.bool true)) else none) [1,19] [1] trivial ?_
 repeat with_reducible refine cj ?_ ?_
 all_goals try first | (exact ha) | omega | exact ent (by kernel_rfl)
 refine AW.cn ?_ ?_
 ·intro hb
  exfalso; simp at hb
 ·intro hb
  refine AW.skip ?_
  refine hK1 _ _ _ ?_; clear hK1
  refine AW.seq fun K2 hK2 => ?_
  refine AW.so 0 (fun ii => if ii = 1 then some (.reads false (.bool false)) else none) [1,21] [1] trivial ?_
  repeat with_reducible refine cj ?_ ?_
  all_goals try first | (exact hg) | omega | exact ent (by kernel_rfl)
  refine AW.cn ?_ ?_
  ·intro hb
   exfalso; simp at hb
  ·intro hb
   refine AW.skip ?_
   refine hK2 _ _ _ ?_; clear hK2
   refine AW.so 0 (fun ii => if ii = 1 then some (.reads false (.tup [.bool false, .agg [.int .i64 0, .int .i64 0, .int .i64 0], .int .i64 1])) else none) [1,3,4,5] [1,4] trivial ?_
   repeat with_reducible refine cj ?_ ?_
   all_goals try first | (exact hds) | omega | exact ent (by kernel_rfl)
   refine AW.so 0 (fun ii => if ii = 1 then some (.reads false (.tup [.agg [.rsl 2 (tabR E)], .rsl 2 (tabR L), .int .i64 0])) else none) [1,3,4,5,6,7,8] [1,4,6] trivial ?_
   repeat with_reducible refine cj ?_ ?_
   all_goals try first | (exact hid) | omega | exact ent (by kernel_rfl)
   refine AW.so 0 (fun ii => if ii = 1 then some (.reads false (.tup [.agg [.nilsl], .nilsl, .int .i64 1])) else none) [1,3,4,5,6,7,8,9,10,11] [1,4,6,9] trivial ?_
   repeat with_reducible refine cj ?_ ?_
   all_goals try first | (exact hir) | omega | exact ent (by kernel_rfl)
   refine AW.seq fun K3 hK3 => ?_
   refine AW.so 0 (fun ii => if ii = 1 then some (.reads false (.bool true)) else none) [1,3,4,5,6,7,8,9,10,11,42] [1,4,6,9] trivial ?_
   repeat with_reducible refine cj ?_ ?_
   all_goals try first | (exact hod) | omega | exact ent (by kernel_rfl)
   refine AW.cn ?_ ?_
   ·intro hb
    exfalso; simp at hb
   ·intro hb
    refine AW.skip ?_
    refine hK3 _ _ _ ?_; clear hK3
    refine AW.so 0 (fun ii => if ii = 1 then some (.reads false (.rsl 1 R)) else none) [3,4,5,6,7,8,9,10,11,12] [4,6,9] trivial ?_
    repeat with_reducible refine cj ?_ ?_
    all_goals try first | (exact htab) | omega | exact ent (by kernel_rfl)
    refine AW.so 0 (fun ii => if ii = 1 then some (.reads false (.tup [.rsl 2 (tabR L), .bool true])) else none) [3,4,5,6,7,8,9,10,11,12,13,14] [4,6,9] trivial ?_
    repeat with_reducible refine cj ?_ ?_
    all_goals try first | (exact hri) | omega | exact ent (by kernel_rfl)
    refine AW.seq fun K4 hK4 => ?_
    refine AW.sg [3,4,5,6,7,8,9,10,11,12,13,88] [4,6,9] trivial ?_
    refine AW.cn ?_ ?_
    ·intro hb
     exfalso; simp at hb
    ·intro hb
     refine AW.sd mixed 0 (fun ii => if ii = 12 then some (.reads true (.bool true)) else if ii = 18 then some (.reads false (.agg [.rsl 2 (tabR E)])) else if ii = 19 then some (.reads false (.bool true)) else none) [3,4,5,9,10,11,12,122] [4,9] (@hLl) ?_
     repeat with_reducible refine cj ?_ ?_
     all_goals try first | (first | (intro hh; exact ⟨hh, heqf⟩) | (intro hh; exact ⟨hh, hinc⟩) | (intro hh; exact ⟨hh, hsam⟩)) | (intros; (repeat' apply And.intro) <;> first | assumption | (first | (intro hh; exact ⟨hh, heqf⟩) | (intro hh; exact ⟨hh, hinc⟩) | (intro hh; exact ⟨hh, hsam⟩))) | omega | exact chk (by kernel_rfl) | exact ent (by kernel_rfl) | (intro hgd; exact absurd hgd (by decide)) | rfl | (simp only [go_sem, reduceIte, reduceCtorEq, zA, zM, zE, zL, zD, zS, zP, zB, zI, zR, hLl]; done) | (intro _hgd; simp_all [go_sem]; done)
     refine AW.cn ?_ ?_
     ·intro hb
      exfalso; simp at hb
     ·intro hb
      refine AW.skip ?_
      refine hK4 _ _ _ ?_; clear hK4
      refine AW.seq fun K5 hK5 => ?_
      refine AW.so 0 (fun ii => if ii = 1 then some (.reads false (.bool false)) else none) [3,4,5,9,10,11,12,125] [4,9] trivial ?_
      repeat with_reducible refine cj ?_ ?_
      all_goals try first | (exact hrl) | omega | exact ent (by kernel_rfl)
      refine AW.cn ?_ ?_
      ·intro hb
       refine AW.so 0 (fun ii => if ii = 17 then some (.reads false (.bool true)) else none) [2] [] trivial ?_
       repeat with_reducible refine cj ?_ ?_
       all_goals try first | ((intro hh; exact ⟨hh, hnn⟩)) | (intros; (repeat' apply And.intro) <;> first | assumption | ((intro hh; exact ⟨hh, hnn⟩))) | omega | exact ent (by kernel_rfl) | (intro hgd; exact absurd hgd (by decide)) | rfl | exact gD | (intro _hgd; simp_all [go_sem]; done)
       rw [← hQr]
       refine AW.rt trivial ?_
       exact Wk.of_eq (by simp)
      ·intro hb
       exfalso; simp at hb
theorem law_blists (rs : List USet) (hl : yme rs) (hok : ∀ x ∈ rs, okW x.W) : Reads Tryz.prog 6 false [relV rs] (.bool true) := by
 cases hf : yg6 rs
 ·rcases rel_cases rs hok with ⟨t, ht, hs, hn, hp⟩ | hb
  ·rw [show relV rs = relB t by rw [yf3, ← ht]]
   have hf' : yg6 (t.map SB) = false := by rw [← ht]; exact hf
   by_cases hbig : (allU (invT rs.length t) rs.length).length ≤ 512
   ·cases hlat : latB t rs.length
    ·exact blists_sn _ t hs hn hp hf' hbig hlat
    ·exact blists_sl _ t hs hn hp hf' hbig hlat
   ·cases hlat : latB t rs.length
    ·exact blists_bn _ t hs hn hp hf' (by omega) hlat
    ·exact blists_bl _ t hs hn hp hf' (by omega) hlat
  ·exact blists_e rs hl hf (ysy rs hl hb).1 (ysy rs hl hb).2
 ·exact blists_0 rs hl hf
end Go.Proofs.B

/- The shapes of arguments. -/
namespace Go.AM
theorem yun {P : Program} {t : TypeId} {k : IntKind} (hu : P.underlying t = some (.int k)) {f : Nat} {x : List AV} (h : Fit P f t x) : ∃ n, x = [.int k n] ∧ k.min ≤ n ∧ n ≤ k.max := by
  cases f with
  | zero => exact h.elim
  | succ f => unfold Fit at h; rw [hu] at h; exact h
theorem yqb {P : Program} {t e : TypeId} {m : Nat} (hu : P.underlying t = some (.slice e)) (hm : P.cellsOf e = m) (h0 : m ≠ 0) {f : Nat} {x : List AV} (h : Fit P f t x) : ∃ es f', x = [.rsl m es] ∧ es.length ≤ maxLen ∧ ∀ y ∈ es, Fit P f' e y := by
  cases f with
  | zero => exact h.elim
  | succ f =>
    unfold Fit at h; rw [hu] at h
    rcases h with h | ⟨es, h1, h2, h3⟩
    · exact absurd (hm ▸ h) h0
    · rw [hm] at h1; exact ⟨es, f, h1, h2, fun y hy => (h3 y hy).2⟩
theorem ync {P : Program} {t : TypeId} {fs : Array Field} (hu : P.underlying t = some (.struct fs)) {f : Nat} {x : List AV} (h : Fit P f t x) : ∃ f' parts, x = List.flatten parts ∧ F2 (fun (fl : Field) p => Fit P f' fl.type p) fs.toList parts := by
  cases f with
  | zero => exact h.elim
  | succ f =>
    unfold Fit at h; rw [hu] at h
    obtain ⟨parts, h1, h2⟩ := h
    exact ⟨f, parts, h1, yho (fun _ _ h => h.2) h2⟩
theorem F2.two {α β : Type} {R : α → β → Prop} {a b : α} {l : List β} (h : F2 R [a, b] l) : ∃ x y, l = [x, y] ∧ R a x ∧ R b y := by
  cases h with | cons h1 t => cases t with | cons h2 t => cases t with | nil => exact ⟨_, _, rfl, h1, h2⟩
theorem yhs {α β : Type} {f : α → β} {p : α → Prop} : ∀ {l : List β}, (∀ x ∈ l, ∃ a, x = f a ∧ p a) → ∃ m : List α, l = m.map f ∧ ∀ a ∈ m, p a
  | [], _ => ⟨[], rfl, fun _ h => by cases h⟩
  | x :: l, h => by
    obtain ⟨a, rfl, ha⟩ := h x (List.mem_cons_self ..)
    obtain ⟨m, rfl, hm⟩ := yhs fun y hy => h y (List.mem_cons_of_mem _ hy)
    exact ⟨a :: m, rfl, fun b hb => by rcases List.mem_cons.1 hb with rfl | hb; exact ha; exact hm b hb⟩
theorem okW_of {W : List Int} (h : ∀ w ∈ W, 0 ≤ w ∧ w ≤ 18446744073709551615) : okW W := fun i => by
  by_cases hi : i < W.length
  · have := h _ (ycu hi 0); omega
  · rw [List.getD_eq_getElem?_getD, List.getElem?_eq_none (by omega)]; simp
end Go.AM

/- A laid table, as the machine's package variable. -/
namespace Go.AM
theorem rptr_of_laid {P : Program} {n : String} {g : Nat} {t e : TypeId} {k : IntKind} {L : List Int} {W : World} (hg : P.globalNamed n = some g) (ht : (P.globals[g]?).map (·.type) = some t) (hu : P.underlying t = some (.array L.length e))
    (hc : P.cellsOf e = 1) (hc2 : P.cellsOf t = L.length) (hu2 : P.underlying e = some (.int k)) (hL : L ≠ []) (h : laidMet P [(n, .agg (L.map fun i => .lit (.int k i)))] W) : RelP (immF W fun _ => False) W (.rptr (L.map (AV.int k))) (.pointer (some ⟨g, 0, none⟩)) := by
  obtain ⟨ps, ⟨g0, t0, cs0, f0, p0, q0, hg0, ht0, hv0, hd0, _, _⟩, _, _⟩ := h
  obtain rfl := Option.some.inj (hg.symm.trans hg0)
  obtain rfl := Option.some.inj (ht.symm.trans ht0)
  obtain ⟨xs, m, rfl, hx, hlen, hn, hel⟩ := DataW.trod_array hu hd0
  have hcell : ∀ j, j < L.length → W.cell? ⟨g, j, none⟩ = some (.int k (L.getD j 0)) := fun j hj => by
    have h0 := hel j hj
    rw [hc, Nat.mul_one] at h0
    have hjx : j < xs.length := by omega
    rw [List.getElem?_eq_getElem hjx] at h0
    obtain ⟨z, e1, e2, _⟩ := DataW.trod_int hu2 h0
    have hxs : xs.map (·.1) = L.map fun i => .lit (.int k i) := by
      simp only [Prod.mk.injEq, DataW.agg.injEq] at hx
      exact hx.1.symm
    have hzj : (xs.map (·.1))[j]? = (L.map fun i => (.lit (.int k i) : DataW Unit))[j]? := by rw [hxs]
    rw [List.getElem?_map, List.getElem?_map, List.getElem?_eq_getElem hjx, List.getElem?_eq_getElem hj, e2] at hzj
    simp only [Option.map_some, Option.some.injEq, DataW.lit.injEq, Lit.int.injEq] at hzj
    have hz : z = L.getD j 0 := by rw [hzj.2]; simp [List.getD_eq_getElem?_getD, hj]
    have hcs : cs0[j]? = some (.int k z) := by
      have hl : cs0.toList.length = L.length := by rw [hlen, hc2]
      have hd : cs0.toList.drop j = cs0.toList[j]'(by omega) :: cs0.toList.drop (j + 1) := List.drop_eq_getElem_cons (by omega)
      rw [hd] at e1
      simp only [List.take_succ_cons, List.take_zero, List.cons.injEq, and_true] at e1
      rw [← Array.getElem?_toList, List.getElem?_eq_getElem (by omega), e1]
    rw [World.var?_cell hg hv0 j, hcs, hz]
  have hlt : g < W.heap.size := by
    cases L with
    | nil => exact absurd rfl hL
    | cons a l =>
      have := hcell 0 (by simp)
      unfold World.cell? at this
      cases hh : W.heap[g]? with
      | none => simp [hh] at this
      | some o => exact ycw hh
  refine .rptr _ g 0 (fun j => .int k (L.getD j 0)) ⟨hlt, fun h => h⟩ (fun j hj => ?_) (fun j hj => ?_)
  · rw [List.length_map] at hj
    rw [Nat.zero_add]
    exact hcell j hj
  · rw [List.length_map] at hj
    have e : (L.map (AV.int k)).getD j .any = .int k (L.getD j 0) := by simp [List.getD_eq_getElem?_getD, hj]
    rw [e]
    exact .int _ _
end Go.AM

/- The shapes of the birkhoff laws' arguments. -/
namespace Go.AM
open Go.Proofs
theorem fit_words {f : Nat} {x : List AV} (h : Fit Tryz.prog f 39 x) : ∃ W : List Int, x = [.rsl 1 (words W)] ∧ W.length ≤ 9223372036854775807 ∧ okW W := by
  obtain ⟨es, f2, rfl, h5, h6⟩ := yqb (m := 1) Tryz.underlying39 (by kernel_rfl) (by decide) h
  obtain ⟨ws, rfl, hw⟩ := yhs (f := fun x : Int => [AV.int .u64 x]) (p := fun w => 0 ≤ w ∧ w ≤ 18446744073709551615) fun y hy => by
    obtain ⟨n, e, h1, h2⟩ := yun Tryz.underlying45 (h6 y hy)
    exact ⟨n, e, by simpa [IntKind.min, IntKind.signed] using h1, by simpa [IntKind.max, IntKind.signed, IntKind.bits] using h2⟩
  exact ⟨ws, rfl, by simpa [maxLen] using h5, okW_of hw⟩
theorem fit_set {f : Nat} {x : List AV} (h : Fit Tryz.prog f 41 x) : ∃ y : USet, x = rowV y ∧ y.W.length ≤ 9223372036854775807 ∧ okW y.W := by
  obtain ⟨f', parts, rfl, h2⟩ := ync Tryz.underlying41 h
  obtain ⟨a, b, rfl, h3, h4⟩ := F2.two h2
  obtain ⟨i, rfl, _⟩ := yun Tryz.underlying3 h3
  obtain ⟨W, rfl, h5, h6⟩ := fit_words h4
  exact ⟨⟨i, W⟩, rfl, h5, h6⟩
theorem F2.one {α β : Type} {R : α → β → Prop} {a : α} {l : List β} (h : F2 R [a] l) : ∃ x, l = [x] ∧ R a x := by
  cases h with | cons h1 t => cases t with | nil => exact ⟨_, rfl, h1⟩
theorem fit_rel {f : Nat} {x : List AV} (h : Fit Tryz.prog f 24 x) : ∃ rs : List USet, x = [.rsl 2 (rs.map rowV)] ∧ (rs.length ≤ 9223372036854775807 ∧ ∀ y ∈ rs, y.W.length ≤ 9223372036854775807) ∧ ∀ y ∈ rs, okW y.W := by
  obtain ⟨f', parts, rfl, h2⟩ := ync Tryz.underlying24 h
  obtain ⟨a, rfl, h3⟩ := F2.one h2
  obtain ⟨es, f2, rfl, h5, h6⟩ := yqb (m := 2) Tryz.underlying22 (by kernel_rfl) (by decide) h3
  obtain ⟨rs, rfl, hr⟩ := yhs (f := rowV) (p := fun y => y.W.length ≤ 9223372036854775807 ∧ okW y.W) fun y hy => fit_set (h6 y hy)
  exact ⟨rs, rfl, ⟨by simpa [maxLen] using h5, fun y hy => (hr y hy).1⟩, fun y hy => (hr y hy).2⟩
theorem laidMet_tail {P : Program} {W : World} {x : String × DataW Unit} {l : List (String × DataW Unit)} (h : laidMet P (x :: l) W) : laidMet P l W := by
  obtain ⟨ps, ⟨g, t, cs, f, p, q, hg, ht, hv, hd, hr, rfl⟩, hn, hc⟩ := h
  exact ⟨q, hr, (List.nodup_append.1 hn).2.1, fun b off hm => hc b off (List.mem_append.2 (.inr hm))⟩
theorem laidMet_head {P : Program} {W : World} {x : String × DataW Unit} {l : List (String × DataW Unit)} (h : laidMet P (x :: l) W) : laidMet P [x] W := by
  obtain ⟨ps, ⟨g, t, cs, f, p, q, hg, ht, hv, hd, hr, rfl⟩, hn, hc⟩ := h
  refine ⟨MemPlace.row ⟨g, 0, none⟩ cs.size ++ p ++ [], ⟨g, t, cs, f, p, [], hg, ht, hv, hd, rfl, rfl⟩, ?_, fun b off hm => ?_⟩
  · rw [List.append_nil]; exact (List.nodup_append.1 hn).1
  · rw [List.append_nil] at hm; exact hc b off (List.mem_append.2 (.inl hm))
theorem pgl {W : World} (h : laidMetH Tryz.prog [("math/bits.deBruijn32tab", YtppocnbagombeaaGreatDoor.Rows.laid_math_bits_deBruijn32tab), ("math/bits.deBruijn64tab", YtppocnbagombeaaGreatDoor.Rows.laid_math_bits_deBruijn64tab), ("internal/strconv.uint64pow10", YtppocnbagombeaaGreatDoor.Rows.laid_internal_strconv_uint64pow10)] W) : GL (immF W fun _ => False) W := fun g cs e => by
  rw [MakeChecks.laidMetH_plain _ _ _ (by rfl)] at h
  have h2 := laidMet_head (laidMet_tail h)
  cases g with
  | zero =>
    rw [yps] at e
    obtain rfl := Option.some.inj e
    exact rptr_of_laid (L := tzTab) (by kernel_rfl : Tryz.prog.globalNamed "math/bits.deBruijn64tab" = some 0) (by kernel_rfl : (Tryz.prog.globals[0]?).map (·.type) = some 136) (e := 5) Tryz.underlying136 (by kernel_rfl) (by kernel_rfl) Tryz.underlying5 (by decide) h2
  | succ g => cases e
theorem pmet (os : Os) (args : Array Value) : laidMetH Tryz.prog [("math/bits.deBruijn32tab", YtppocnbagombeaaGreatDoor.Rows.laid_math_bits_deBruijn32tab), ("math/bits.deBruijn64tab", YtppocnbagombeaaGreatDoor.Rows.laid_math_bits_deBruijn64tab), ("internal/strconv.uint64pow10", YtppocnbagombeaaGreatDoor.Rows.laid_internal_strconv_uint64pow10)] ((World.doorLaid Tryz.prog 400 os).forCall (fun _ _ => 0) ⟨#[], args, []⟩).memory :=
  laidMetH_of_parts3 (fuel := 8) (laidMet_of_run' 8 (by kernel_rfl) (by kernel_rfl)) (by kernel_rfl) (by kernel_rfl)
end Go.AM

