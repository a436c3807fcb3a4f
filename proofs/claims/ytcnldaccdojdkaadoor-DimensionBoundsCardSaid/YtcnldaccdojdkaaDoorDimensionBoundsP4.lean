/- Lemmas and contracts, part 4: an abstract machine over the model, and the functions that the statement reaches. -/
import Derived.Test.YtcnldaccdojdkaaDoorDimensionBoundsP3
set_option linter.unusedVariables false
set_option linter.unusedSimpArgs false
open Nat renaming reduceAdd → zA, reduceMul → zM, reduceEqDiff → zE, reduceLT → zL, reduceLeDiff → zD, reduceSub → zS, reducePow → zP, reduceBEq → zB
open Int renaming reduceToNat → zI
open List renaming reduceReplicate → zR
/- Linear extensions: what the program's state says. -/
namespace Go.AM
def lisR (cs : List (List Int)) : List (List AV) := cs.map fun c => [.rsl 1 (ints c)]
theorem lisR_len (cs : List (List Int)) : (lisR cs).length = cs.length := by simp [lisR]
theorem lisR_get {cs : List (List Int)} {i : Nat} (hi : i < cs.length) : (lisR cs).getD i [] = [.rsl 1 (ints (cs.getD i []))] := by
  simp [lisR, List.getD_eq_getElem?_getD, List.getElem?_eq_getElem hi]
@[go_sem] theorem vw_boolsL (s : Store) (d : Nat) (l : List Bool) : (bools l).map (fun cs => cs.map (vw s d)) = bools l := by
  simp [bools, vw_bool]
/-- A state, as it is read. -/
def stV (n : Nat) (bel : List (List Int)) (d : List Bool) : List AV := [.int .i64 n, .rsl 1 (lisR bel), .rsl 1 (bools d)]
def stO (n : Nat) (bel : List (List Int)) (d : List Bool) : List AV := [.int .i64 n, .rsl 1 (lisR bel), .osl 1 (bools d)]
def openB (d : List Bool) (j : Int) : Bool := !d.getD j.toNat false
def freeL (bel : List (List Int)) (d : List Bool) (i : Nat) : Bool := !d.getD i false && !(bel.getD i []).any (openB d)
/-- The first number from i on that meets p. -/
def nxt (p : Nat → Bool) (n i : Nat) : Int := match (List.range' i (n - i)).find? p with
  | some j => (j : Nat)
  | none => -1
/-! ### Keys. -/
def byB (d : List Bool) : List (List AV) := d.map fun b => [.int .u8 (if b then 1 else 0)]
def keyS (d : List Bool) : ByteArray := strOf (byB d)
@[go_sem] theorem vwc_map_byB (s : Store) (n : Nat) (d : List Bool) : (byB d).map (fun cs => cs.map (vwc s n)) = byB d := by
  simp [byB, vwc_int]
theorem foldl_push_data : ∀ (l : List Int) (b : ByteArray), (l.foldl (fun r n => r.push (UInt8.ofNat n.toNat)) b).data.toList = b.data.toList ++ l.map fun n => UInt8.ofNat n.toNat
  | [], b => by simp
  | n :: l, b => by
    rw [List.foldl_cons, foldl_push_data l]
    simp [ByteArray.push]
theorem keyS_data (d : List Bool) : (keyS d).data.toList = d.map fun b => if b then 1 else 0 := by
  unfold keyS strOf
  rw [foldl_push_data]
  simp only [byB, List.map_map]
  show [] ++ _ = _
  rw [List.nil_append]
  apply List.map_congr_left
  intro b _
  cases b <;> rfl
theorem keyS_inj {d d' : List Bool} (h : (keyS d).data.toList = (keyS d').data.toList) : d = d' := by
  rw [keyS_data, keyS_data] at h
  refine (List.map_inj_right fun a b h => ?_).1 h
  cases a <;> cases b <;> first | rfl | (exact absurd h (by decide))
def lisO (cs : List (List Int)) : List (List AV) := cs.map fun c => [.osl 1 (ints c)]
theorem lisO_len (cs : List (List Int)) : (lisO cs).length = cs.length := by simp [lisO]
theorem lisO_get {cs : List (List Int)} {i : Nat} (hi : i < cs.length) : (lisO cs).getD i [] = [.osl 1 (ints (cs.getD i []))] := by
  simp [lisO, List.getD_eq_getElem?_getD, List.getElem?_eq_getElem hi]
theorem lisO_set (l : List (List Int)) (i : Nat) (row : List Int) : (lisO l).set i [.osl 1 (ints row)] = lisO (l.set i row) := by
  unfold lisO; rw [List.map_set]
@[go_sem] theorem vwc_lisO (s : Store) (d : Nat) (nb : List (List Int)) : (lisO nb).map (fun cs => cs.map (vwc s d)) = lisR nb := by
  simp [lisO, lisR, vwc_osl, vw_ints]
@[go_sem] theorem vwc_lisR (s : Store) (d : Nat) (nb : List (List Int)) : (lisR nb).map (fun cs => cs.map (vwc s d)) = lisR nb := by
  simp [lisR, vwc_rsl]
/-! ### The elements below. -/
def belAt (t : List (List Bool)) (n i : Nat) : List (List Int) := (List.range n).map fun x => ((List.range i).filter fun j => atT t j x).map fun j : Nat => (j : Int)
def belL (n : Nat) (t : List (List Bool)) : List (List Int) := belAt t n n
def addB (i : Nat) (bel : List (List Int)) (x : Nat) : List (List Int) := bel.set x (bel.getD x [] ++ [(i : Int)])
theorem belAt_len (t : List (List Bool)) (n i : Nat) : (belAt t n i).length = n := by simp [belAt]
theorem belAt_get {t : List (List Bool)} {n i x : Nat} (hx : x < n) : (belAt t n i).getD x [] = ((List.range i).filter fun j => atT t j x).map fun j : Nat => (j : Int) := by
  simp [belAt, List.getD_eq_getElem?_getD, hx]
theorem belAt_zero (t : List (List Bool)) (n : Nat) : belAt t n 0 = List.replicate n [] := by
  apply List.ext_getElem?
  intro x
  by_cases hx : x < n <;> simp [belAt, hx]
theorem addB_len (i : Nat) (bel : List (List Int)) (x : Nat) : (addB i bel x).length = bel.length := by simp [addB]
theorem addsB_len (i : Nat) : ∀ (L : List Nat) (bel : List (List Int)), (L.foldl (addB i) bel).length = bel.length
  | [], _ => rfl
  | x :: L, bel => by rw [List.foldl_cons, addsB_len i L, addB_len]
theorem addsB_get (i : Nat) : ∀ (L : List Nat) (bel : List (List Int)) (x : Nat), L.Nodup → x < bel.length → (L.foldl (addB i) bel).getD x [] = bel.getD x [] ++ if x ∈ L then [(i : Int)] else []
  | [], _, _, _, _ => by simp
  | y :: L, bel, x, hn, hx => by
    obtain ⟨h1, h2⟩ := List.nodup_cons.1 hn
    rw [List.foldl_cons, addsB_get i L _ x h2 (by rw [addB_len]; exact hx)]
    by_cases e : x = y
    · subst e
      simp [addB, List.getD_eq_getElem?_getD, hx, h1]
    · have : (addB i bel y).getD x [] = bel.getD x [] := by
        simp [addB, List.getD_eq_getElem?_getD, List.getElem?_set_ne (Ne.symm e)]
      rw [this]
      simp [e]
theorem memB_nd (b : List Bool) : (memB b).Nodup := List.Pairwise.filter _ List.nodup_range
theorem belAt_succ {n : Nat} {t : List (List Bool)} (hs : Sq n t) {i : Nat} (hi : i < n) : (memB (rowT t i)).foldl (addB i) (belAt t n i) = belAt t n (i + 1) := by
  apply List.ext_getElem?
  intro x
  by_cases hx : x < n
  · have h := addsB_get i (memB (rowT t i)) (belAt t n i) x (memB_nd _) (by rw [belAt_len]; exact hx)
    rw [belAt_get hx] at h
    have h2 := belAt_get (t := t) (n := n) (i := i + 1) hx
    have hl1 : x < ((memB (rowT t i)).foldl (addB i) (belAt t n i)).length := by rw [addsB_len, belAt_len]; exact hx
    have hl2 : x < (belAt t n (i + 1)).length := by rw [belAt_len]; exact hx
    rw [List.getD_eq_getElem?_getD, List.getElem?_eq_getElem hl1, Option.getD_some] at h
    rw [List.getD_eq_getElem?_getD, List.getElem?_eq_getElem hl2, Option.getD_some] at h2
    rw [List.getElem?_eq_getElem hl1, List.getElem?_eq_getElem hl2, h, h2, List.range_succ, List.filter_append, List.map_append]
    congr 2
    have hm : x ∈ memB (rowT t i) ↔ atT t i x = true := by
      rw [memB_mem, hs.rowLen hi]; exact ⟨fun h => h.2, fun h => ⟨hx, h⟩⟩
    by_cases ha : atT t i x = true
    · simp [hm, ha]
    · simp [hm, ha]
  · rw [List.getElem?_eq_none (by rw [addsB_len, belAt_len]; omega), List.getElem?_eq_none (by rw [belAt_len]; omega)]
theorem belAt_row {t : List (List Bool)} {n i x : Nat} (hx : x < n) : ((belAt t n i).getD x []).length ≤ i := by
  rw [belAt_get hx, List.length_map]
  have := List.length_filter_le (fun j => atT t j x) (List.range i)
  simpa using this
structure BOk (n : Nat) (bel : List (List Int)) : Prop where
  small : n ≤ 512
  len : bel.length = n
  inb : ∀ i, i < n → (bel.getD i []).length ≤ 512 ∧ ∀ j ∈ bel.getD i [], 0 ≤ j ∧ j < (n : Int)
/-! ### Placing the rest. -/
/-! ### Extensions. -/
def exD (d : List Bool) (l : List Int) : List Bool := l.foldl (fun d i => d.set i.toNat true) d
theorem exD_len : ∀ (l : List Int) (d : List Bool), (exD d l).length = d.length
  | [], _ => rfl
  | i :: l, d => by
    show (exD (d.set i.toNat true) l).length = _
    rw [exD_len l]; simp
theorem exD_snoc (d : List Bool) (l : List Int) (i : Int) : exD d (l ++ [i]) = (exD d l).set i.toNat true := by simp [exD]
def exOk (n : Nat) (bel : List (List Int)) (d : List Bool) (i : Int) : Bool := decide (0 ≤ i) && decide (i < n) && freeL bel d i.toNat
def extGo (n : Nat) (bel : List (List Int)) : List Bool → List Int → Bool
  | _, [] => true
  | d, i :: l => exOk n bel d i && extGo n bel (d.set i.toNat true) l
theorem extGo_app (n : Nat) (bel : List (List Int)) : ∀ (l m : List Int) (d : List Bool), extGo n bel d (l ++ m) = (extGo n bel d l && extGo n bel (exD d l) m)
  | [], m, d => by simp [extGo, exD]
  | i :: l, m, d => by
    show (exOk n bel d i && extGo n bel (d.set i.toNat true) (l ++ m)) = ((exOk n bel d i && extGo n bel (d.set i.toNat true) l) && extGo n bel (exD (d.set i.toNat true) l) m)
    rw [extGo_app n bel l m, Bool.and_assoc]
def extB (n : Nat) (bel : List (List Int)) (l : List Int) : Bool := decide (l.length = n) && extGo n bel (List.replicate n false) l
theorem belL_ok {n : Nat} (t : List (List Bool)) (hn : n ≤ 512) : BOk n (belL n t) := by
  refine ⟨hn, belAt_len _ _ _, fun i hi => ⟨Nat.le_trans (belAt_row hi) hn, fun j hj => ?_⟩⟩
  unfold belL at hj
  rw [belAt_get hi] at hj
  obtain ⟨k, hk, rfl⟩ := List.mem_map.1 hj
  have := List.mem_range.1 (List.mem_filter.1 hk).1
  omega
end Go.AM

namespace Go.Proofs.D
open Go.AM Go
set_option maxRecDepth 100000
set_option maxHeartbeats 2000000
theorem open1_r (n : Nat) (bel : List (List Int)) (d : List Bool) (j : Int) (h0 : 0 ≤ j) (h1 : j < d.length) : Reads Tryd.prog 97 false [.int .i64 j, .rptr [.rptr (stV n bel d)]] (.bool (openB d j)) := by
 have hg := bools_getD (l := d) (i := j.toNat) (by omega)
 have hl := bools_len d
 unfold stV
 refine Reads.body (rs := [.tmp 3]) Tryd.func97 rfl Tryd.ntmps97 rfl (by simp) ?_
 generalize hQr : retQ _ _ _ = Qr
 -- block 1
 refine AW.sg [0,1] [] (e2 @hg @hl) ?_
 refine AW.sg [3] [] (e2 @hg @hl) ?_
 -- ret 1
 rw [← hQr]
 refine AW.rt (e2 @hg @hl) ?_
 exact Wk.of_eq (by simp [openB])
theorem ixopen_r (n : Nat) (bel : List (List Int)) (d : List Bool) (l : List Int) (hl : l.length ≤ 9223372036854775807) (hin : ∀ j ∈ l, 0 ≤ j ∧ j < d.length) : Reads Tryd.prog 89 false [.rsl 1 (ints l), .fn 97 [.rptr [.rptr (stV n bel d)]]] (.int .i64 (ixf (openB d) l)) := by
 have hbp := fun j h => open1_r n bel d j (hin j h).1 (hin j h).2
 refine Reads.body (rs := [.tmp 4]) Tryd.func89 rfl Tryd.ntmps89 rfl (by simp) ?_
 generalize hQr : retQ _ _ _ = Qr
 -- block 2
 refine AW.sg [0,1] [] (@ints_len) ?_
 refine AW.seq fun K1 hK1 => ?_
 refine AW.sg [0,1,7,8] [] (@ints_len) ?_
 refine AW.block ?_
 refine AW.loopE (fun mm ee ss kk => ∃ (j : Nat), l.length - j = mm ∧ ee = [(0, .rsl 1 (ints l)), (1, .fn 97 [.rptr [.rptr (stV n bel d)]]), (7, .int .i64 l.length), (8, .int .i64 (j : Nat))] ∧ ss = [] ∧ (j ≤ l.length ∧ (l.take j).any (openB d) = false)) ?_ ?_
 -- init 1
 ·exact ⟨_, 0, rfl, eD, eD, eT⟩
 rintro mm ee ss kk ⟨j, rfl, rfl, rfl, hI⟩
 generalize hQl1 : thenQ _ _ = Ql1
 obtain ⟨hj, hall⟩ := hI
 refine AW.sg [0,1,7,8,9] [] (@ints_len) ?_
 refine AW.seq fun K2 hK2 => ?_
 refine AW.cn ?_ ?_
 ·intro hb
  obtain ⟨x, hx⟩ := getI (l := l) (j := j) (by omega)
  have hgx := ints_get hx
  have hats := any_take_succ (p := openB d) hx
  have hbx := hbp x (List.mem_of_getElem? hx)
  refine AW.skip ?_
  refine hK2 _ _ _ ?_; clear hK2
  refine AW.seq fun K3 hK3 => ?_
  refine AW.block ?_
  refine AW.sg [0,1,5,7,8] [] (@ints_len) ?_
  refine AW.so 0 (fun ii => if ii = 5 then some (.reads false (.bool (openB d x))) else none) [0,1,5,7,8,16] [] (e2 @ints_len @hgx) ?_
  repeat with_reducible refine cj ?_ ?_
  all_goals try first | (exact hbx) | omega | exact ent (by kernel_rfl)
  refine AW.cn ?_ ?_
  ·intro hb
   refine AW.sg [4] [] (@ints_len) ?_
   -- ret 1
   rw [← hQl1, ← hQr]
   refine AW.rt (@ints_len) ?_
   exact Wk.of_eq (by rw [ixf_at hx hb hall])
  ·intro hb
   refine AW.skip ?_
   refine hK3 _ _ _ ?_; clear hK3
   refine AW.rg [0,1,7,8] [] (@ints_len) ?_
   -- again 1
   rw [← hQl1]; change Exists _
   exact ⟨_, eO, j + 1, rfl, eD, eD, (⟨by omega, by rw [hats, hall, hb]; rfl⟩)⟩
 ·intro hb
  -- exit 0
  refine AW.kx [] [] ?_
  rw [← hQl1]
  refine hK1 _ _ _ ?_; clear hK1
  refine AW.sg [4] [] (@ints_len) ?_
  -- ret 2
  rw [← hQr]
  refine AW.rt (@ints_len) ?_
  exact Wk.of_eq (by rw [List.take_of_length_le (by omega)] at hall; rw [ixf_none hall])
end Go.Proofs.D

namespace Go.Proofs.D
open Go.AM Go
set_option maxRecDepth 100000
set_option maxHeartbeats 2000000
theorem ctopen_r (n : Nat) (bel : List (List Int)) (d : List Bool) (l : List Int) (hl : l.length ≤ 9223372036854775807) (hin : ∀ j ∈ l, 0 ≤ j ∧ j < d.length) : Reads Tryd.prog 71 false [.rsl 1 (ints l), .fn 97 [.rptr [.rptr (stV n bel d)]]] (.bool (l.any (openB d))) := by
 have h := ixopen_r n bel d l hl hin
 have hge := ixf_ge (openB d) l
 refine Reads.body (rs := [.tmp 4]) Tryd.func71 rfl Tryd.ntmps71 rfl (by simp) ?_
 generalize hQr : retQ _ _ _ = Qr
 -- block 1
 refine AW.sg [0,1] [] trivial ?_
 refine AW.so 0 (fun ii => if ii = 2 then some (.reads false (.int .i64 (ixf (openB d) l))) else none) [4] [] trivial ?_
 repeat with_reducible refine cj ?_ ?_
 all_goals try first | (exact h) | omega | exact ent (by kernel_rfl)
 -- ret 1
 rw [← hQr]
 refine AW.rt trivial ?_
 exact Wk.of_eq (by rw [hge])
theorem free_r {n : Nat} {bel : List (List Int)} (hb0 : BOk n bel) (d : List Bool) (hd : d.length = n) (i : Nat) (hi : i < n) : Reads Tryd.prog 91 false [.rptr (stV n bel d), .int .i64 i] (.bool (freeL bel d i)) := by
 obtain ⟨hs, hlen, hin⟩ := hb0
 obtain ⟨hil, hij⟩ := hin i hi
 have h := Reads.flat (ctopen_r n bel d (bel.getD i []) (by omega) (fun j hj => by rw [hd]; exact hij j hj)) rfl
 have hg := bools_getD (l := d) (i := i) (by omega)
 have hl := bools_len d
 have hg2 := lisR_get (cs := bel) (i := i) (by omega)
 have hl2 := lisR_len bel
 unfold stV at *
 refine Reads.body (rs := [.tmp 4]) Tryd.func91 rfl Tryd.ntmps91 rfl (by simp) ?_
 generalize hQr : retQ _ _ _ = Qr
 -- block 2
 refine AW.sg [1,2] [2] (e5 @hg @hl @hg2 @hl2 @Int.toNat_natCast) ?_
 refine AW.so 0 (fun ii => if ii = 17 then some (.reads true (.bool ((bel.getD i []).any (openB d)))) else none) [4] [] (e5 @hg @hl @hg2 @hl2 @Int.toNat_natCast) ?_
 repeat with_reducible refine cj ?_ ?_
 all_goals try first | (exact h) | (intros; (repeat' apply And.intro) <;> first | assumption | (exact h)) | omega | exact ent (by kernel_rfl) | (intro hgd; exact absurd hgd (by decide)) | rfl | (simp only [go_sem, reduceIte, reduceCtorEq, zA, zM, zE, zL, zD, zS, zP, zB, zI, zR, hg, hl, hg2, hl2, Int.toNat_natCast]; done) | (intro _hgd; simp_all [go_sem]; done)
 -- ret 1
 rw [← hQr]
 refine AW.rt (e5 @hg @hl @hg2 @hl2 @Int.toNat_natCast) ?_
 exact Wk.of_eq (by simp [freeL])
end Go.Proofs.D

namespace Go.Proofs.D
open Go.AM Go
set_option maxRecDepth 100000
set_option maxHeartbeats 2000000
theorem open_u (n : Nat) (t : List (List Bool)) (hs : Sq n t) (hn : n ≤ 512) :
  Upd Tryd.prog 90 [] [relB t] (fun k => .ptr ⟨0, k, none⟩ 0 0) (fun k => [(0, some ⟨k, k, 3, [stO n (belL n t) (List.replicate n false)]⟩)]) := by
 have hlt : (tabR t).length = n := by rw [tabR_len, hs.len]
 have hgr := fun i hi => tabR_get (t := t) (i := i) hi
 have hmb := fun b hb => members_b b hb
 have hlen := hs.len
 have hba := belAt_len t n
 have hbz := belAt_zero t n
 have hbs := fun i hi => belAt_succ hs (i := i) hi
 have hbr := fun i x hx => belAt_row (t := t) (n := n) (i := i) (x := x) hx
 unfold relB rowB stO at *
 have hbn : belL n t = belAt t n n := rfl
 rw [hbn]
 refine Upd.of_body (rs := [.tmp 2]) Tryd.func90 rfl Tryd.ntmps90 rfl (by simp) ?_
 intro k0 k hk0 hk1
 generalize hQr : retQ _ _ _ = Qr
 -- block 1
 refine AW.so 100 (fun _ => none) [1] [101,116,122] (@hlt) ?_
 refine AW.sd mixed 100 (fun _ => none) [1,3] [101,116,120,122] (@hlt) ?_
 refine AW.nils_own (pid := 116) 1 (lisO (List.replicate n [])) (by simp only [go_sem, reduceIte, zE]; rfl) (show (1 : Nat) ≠ mapSz by decide) (by simp [lisO]) ?_ ?_
 ·intro i hi
  simp only [List.length_replicate] at hi
  have h1 : (List.replicate n [AV.nilsl]).getD i [] = [.nilsl] := by simp [List.getD_eq_getElem?_getD, hi]
  rw [h1, lisO_get (by simpa using hi)]
  refine ⟨rfl, fun j => ?_⟩
  cases j with
  | zero => exact .inr ⟨rfl, by simp [List.getD_eq_getElem?_getD, hi, ints]⟩
  | succ j => exact .inl rfl
 refine AW.adoptK 122 0 2 120 ?_
 simp only [go_sem, reduceIte, zE]
 refine ⟨by rw [show List.replicate n [AV.bool false] = bools (List.replicate n false) by simp [bools]]; exact noOsl_bools _, ?_⟩
 rw [show List.replicate n [AV.bool false] = bools (List.replicate n false) by simp [bools]]
 refine AW.keep [1, 3] [101, 116, 122] ?_
 simp only [go_sem, reduceIte, zE]
 refine AW.seq fun K1 hK1 => ?_
 refine AW.so 100 (fun _ => none) [3,24,25,26] [116,122] (@hlt) ?_
 refine AW.block ?_
 refine AW.loopE (fun mm ee ss kk => ∃ (i g16 v16 g22 v22 : Nat), n - i = mm ∧ ee = [(3, .ptr ⟨122, g22, none⟩ 0 0), (24, .rsl 2 (tabR t)), (25, .int .i64 n), (26, .int .i64 (i : Nat))] ∧ ss = [(116, some ⟨g16, v16, 1, lisO (belAt t n i)⟩), (122, some ⟨g22, v22, 3, [[.int .i64 n, .sl ⟨116, g16, none⟩ 0 n none, .osl 1 (bools (List.replicate n false))]]⟩)] ∧ (i ≤ n)) ?_ ?_
 -- init 1
 ·refine ⟨_, 0, ?_, ?_, ?_, ?_, rfl, ?henv, ?hstore, ?hst⟩
  case henv =>
   repeat' (first | rfl | refine env_cons ?_ ?_ | refine st_cons ?_ ?_ ?_ ?_ | refine int_eq ?_ | refine bool_eq ?_ | refine rsl_eq ?_ | refine osl_eq ?_ | refine sl_eq ?_ ?_ ?_ | refine ptr_eq ?_ ?_ ?_ | refine agg_eq ?_ | refine es_cons ?_ ?_ | refine row_cons ?_ ?_)
   all_goals (first | (simp; done) | omega | (simp; omega))
  case hstore =>
   repeat' (first | rfl | refine env_cons ?_ ?_ | refine st_cons ?_ ?_ ?_ ?_ | refine int_eq ?_ | refine bool_eq ?_ | refine rsl_eq ?_ | refine osl_eq ?_ | refine sl_eq ?_ ?_ ?_ | refine ptr_eq ?_ ?_ ?_ | refine agg_eq ?_ | refine es_cons ?_ ?_ | refine row_cons ?_ ?_)
   all_goals (rw [hbz])
  case hst =>
   first | trivial | omega | (simp; done) | (simp; omega)
 rintro mm ee ss kk ⟨i, g16, v16, g22, v22, rfl, rfl, rfl, hI⟩
 generalize hQl1 : thenQ _ _ = Ql1
 refine AW.so 100 (fun _ => none) [3,24,25,26,27] [116,120,122,156] (@hlt) ?_
 refine AW.seq fun K2 hK2 => ?_
 refine AW.cn ?_ ?_
 ·intro hb
  have hi : i < n := by omega
  have hgi := hgr i (by omega)
  have hri := hs.rowLen (i := i) (by omega)
  have hmi := hmb (rowT t i) (by omega)
  have hmm : ∀ j, j ∈ memB (rowT t i) → j < n := fun j hj => by have := (memB_mem.1 hj).1; omega
  have hml := memB_le (rowT t i)
  have hbsi := hbs i hi
  have hnd := memB_nd (rowT t i)
  have hbl := hba i
  have hbri := hbr i
  have hag := fun k x => addsB_get i ((memB (rowT t i)).take k) (belAt t n i) x (hnd.sublist (List.take_sublist _ _))
  have hal := fun k => addsB_len i ((memB (rowT t i)).take k) (belAt t n i)
  generalize hM : memB (rowT t i) = M at *
  generalize hB : belAt t n i = B at *
  refine AW.skip ?_
  refine hK2 _ _ _ ?_; clear hK2
  refine AW.seq fun K3 hK3 => ?_
  refine AW.block ?_
  refine AW.so 100 (fun _ => none) [3,4,5,24,25,26] [105,116,122] (e2 @hlt @hgi) ?_
  refine AW.so 100 (fun ii => if ii = 1 then some (.reads false (.tup [.rsl 1 (ints (nats M)), .int .i64 ((0 : Nat) : Int)])) else none) [3,4,6,24,25,26] [105,116,122] (@hlt) ?_
  repeat with_reducible refine cj ?_ ?_
  all_goals try first | (exact hmi) | omega | exact ent (by kernel_rfl)
  refine AW.so 100 (fun _ => none) [3,4,24,25,26,36,37,38] [116,122] (e3 @hlt @ints_len @nats_len) ?_
  refine AW.block ?_
  refine AW.loopE (fun mm ee ss kk => ∃ (k g16 v16 g22 v22 : Nat), M.length - k = mm ∧ ee = [(3, .ptr ⟨122, g22, none⟩ 0 0), (4, .int .i64 (i : Nat)), (24, .rsl 2 (tabR t)), (25, .int .i64 n), (26, .int .i64 (i : Nat)), (36, .rsl 1 (ints (nats M))), (37, .int .i64 M.length), (38, .int .i64 (k : Nat))] ∧ ss = [(116, some ⟨g16, v16, 1, lisO ((M.take k).foldl (addB i) B)⟩), (122, some ⟨g22, v22, 3, [[.int .i64 n, .sl ⟨116, g16, none⟩ 0 n none, .osl 1 (bools (List.replicate n false))]]⟩)] ∧ (k ≤ M.length)) ?_ ?_
  -- init 2
  ·exact ⟨_, 0, _, _, _, _, rfl, eD, eD, eT⟩
  rintro mm ee ss kk ⟨k, g16, v16, g22, v22, rfl, rfl, rfl, hI⟩
  generalize hQl2 : thenQ _ _ = Ql2
  refine AW.so 100 (fun _ => none) [3,4,24,25,26,36,37,38,39] [116,120,122,156] (@hlt) ?_
  refine AW.seq fun K4 hK4 => ?_
  refine AW.cn ?_ ?_
  ·intro hb
   obtain ⟨q, hq⟩ := getI (l := M) (j := k) (by omega)
   have hgq : (ints (nats M)).getD k [] = [.int .i64 (q : Nat)] := ints_get (by simp [nats, hq])
   have hqn := hmm q (List.mem_of_getElem? hq)
   have hsu : (M.take (k + 1)).foldl (addB i) B = addB i ((M.take k).foldl (addB i) B) q := by rw [List.take_add_one, hq]; simp
   have hal1 := hal k
   have hag1 := hag k q (by omega)
   have hrl : (((M.take k).foldl (addB i) B).getD q []).length ≤ 600 := by
    rw [hag1, List.length_append]
    have := hbri q hqn
    split <;> simp only [List.length_cons, List.length_nil] <;> omega
   generalize hC : (M.take k).foldl (addB i) B = C at *
   have hgn := lisO_get (cs := C) (i := q) (by omega)
   have hs1 : ∀ v, ((lisO C).set q v).getD q [] = v := fun v => getD_set_eq (by rw [lisO_len]; omega) _ _
   refine AW.skip ?_
   refine hK4 _ _ _ ?_; clear hK4
   refine AW.seq fun K5 hK5 => ?_
   refine AW.block ?_
   refine AW.so 100 (fun _ => none) [3,4,9,24,25,26,36,37,38] [116,122] (e2 @hlt @hgq) ?_
   repeat with_reducible refine cj ?_ ?_
   all_goals try first | ((rw [nats_len]; omega)) | omega
   refine AW.regionD mixed 100 (fun _ => none) [3, 4, 24, 25, 26, 36, 37, 38] [116, 120, 122, 156] ?_
   simp only [go_sem, reduceIte, reduceCtorEq, zA, zM, zE, zL, zD, zS, zP, zB, zI, zR, hlt, lisO_len, hal1, hbl, hgn, hs1, ints_len, List.set_set, List.take_length, ints_app, Int.toNat_natCast]
   repeat with_reducible refine cj ?_ ?_
   all_goals try first | omega | exact chk (by kernel_rfl) | (simp [scP, scalar]; done) | exact scP_words _ | exact scP_ints _ | exact scP_bools _
   refine hK5 _ _ _ ?_; clear hK5
   refine AW.adoptK 116 q 0 156 ?_
   simp only [go_sem, reduceIte, zE, hs1, List.set_set, lisO_set, lisO_len]
   repeat refine cj ?_ ?_
   any_goals first | exact noOsl_ints _ | (simp only [List.length_append, List.length_cons, List.length_nil]; done) | omega | decide
   refine AW.keep [3, 4, 24, 25, 26, 36, 37, 38] [116, 122] ?_
   simp only [go_sem, reduceIte, zE]
   refine AW.ro 100 (fun _ => none) [3,4,24,25,26,36,37,38] [116,122] (@hlt) ?_
   -- again 2
   rw [← hQl2]; change Exists _
   refine ⟨_, ?hm, k + 1, ?_, ?_, ?_, ?_, rfl, ?henv, ?hstore, ?hst⟩
   case henv =>
    repeat' (first | rfl | refine env_cons ?_ ?_ | refine st_cons ?_ ?_ ?_ ?_ | refine int_eq ?_ | refine bool_eq ?_ | refine rsl_eq ?_ | refine osl_eq ?_ | refine sl_eq ?_ ?_ ?_ | refine ptr_eq ?_ ?_ ?_ | refine agg_eq ?_ | refine es_cons ?_ ?_ | refine row_cons ?_ ?_)
    all_goals (first | (simp; done) | omega | (simp; omega))
   case hstore =>
    repeat' (first | rfl | refine env_cons ?_ ?_ | refine st_cons ?_ ?_ ?_ ?_ | refine int_eq ?_ | refine bool_eq ?_ | refine rsl_eq ?_ | refine osl_eq ?_ | refine sl_eq ?_ ?_ ?_ | refine ptr_eq ?_ ?_ ?_ | refine agg_eq ?_ | refine es_cons ?_ ?_ | refine row_cons ?_ ?_)
    all_goals (rw [hsu]; rfl)
   case hst =>
    omega
   case hm => omega
  ·intro hb
   have hk : k = M.length := by omega
   subst hk
   rw [List.take_length, hbsi]
   -- exit 2
   refine AW.kx [3,24,25,26] [116,120,122,156] ?_
   rw [← hQl2]
   refine hK3 _ _ _ ?_; clear hK3
   refine AW.ro 100 (fun _ => none) [3,24,25,26] [116,122] (@hlt) ?_
   -- again 1
   rw [← hQl1]; change Exists _
   exact ⟨_, eO, i + 1, _, _, _, _, rfl, eD, eD, eT⟩
 ·intro hb
  have hi : n = i := by omega
  subst hi
  have htl : (lisO (belAt t n n)).take n = lisO (belAt t n n) := List.take_of_length_le (by rw [lisO_len, hba]; omega)
  -- exit 0
  refine AW.kx [3] [116,120,122,156] ?_
  rw [← hQl1]
  refine hK1 _ _ _ ?_; clear hK1
  refine AW.so 100 (fun _ => none) [2] [116,120,122,156] (@hlt) ?_
  refine AW.frzCellK [116] 5 122 0 1 ?_
  simp only [go_sem, reduceIte, zE, htl]
  refine ⟨rfl, by decide, by decide, by decide, ?_⟩
  refine AW.keep [2] [122] ?_
  simp only [go_sem, reduceIte, zE]
  -- ret 1
  rw [← hQr]
  refine AW.rt (@hlt) ?_
  refine ⟨[(122, 0, true)], ?_⟩
  simp only [go_sem, reduceIte, zE, renC_ints]
end Go.Proofs.D

namespace Go.Proofs.D
open Go.AM Go
set_option maxRecDepth 100000
set_option maxHeartbeats 2000000
theorem extends_g (n : Nat) (t : List (List Bool)) (hs : Sq n t) (hn : n ≤ 512) (l : List Int) (hl : l.length ≤ 9223372036854775807) : Reads Tryd.prog 73 false [relB t, .rsl 1 (ints l)] (.bool (extB n (belL n t) l)) := by
 have ho := open_u n t hs hn
 have hok := belL_ok t hn
 have hfr := fun d hd i hi => free_r hok d hd i hi
 unfold stO stV relB at *
 generalize belL n t = bel at *
 have hex : extB n bel l = (decide (l.length = n) && extGo n bel (List.replicate n false) l) := rfl
 refine Reads.body (rs := [.tmp 4]) Tryd.func73 rfl Tryd.ntmps73 rfl (by simp) ?_
 generalize hQr : retQ _ _ _ = Qr
 -- block 1
 refine AW.sg [1,2] [2,9] (e2 @ints_len @bools_len) ?_
 refine AW.so 0 (fun ii => if ii = 1 then some (.upd [] (fun k => [(0, some ⟨k, k, 3, [[.int .i64 n, .rsl 1 (lisR bel), .osl 1 (bools (List.replicate n false))]]⟩)]) (fun k => .ptr ⟨0, k, none⟩ 0 0)) else none) [1,5] [9] (e2 @ints_len @bools_len) ?_
 repeat with_reducible refine cj ?_ ?_
 all_goals try first | (exact ho) | omega | exact ent (by kernel_rfl)
 refine AW.seq fun K1 hK1 => ?_
 refine AW.sg [1,5,16] [9] (e2 @ints_len @bools_len) ?_
 refine AW.cn ?_ ?_
 ·intro hb
  have hne : l.length ≠ n := by
   revert hb; simp; omega
  refine AW.sg [4] [9] (e2 @ints_len @bools_len) ?_
  -- ret 1
  rw [← hQr]
  refine AW.rt (e2 @ints_len @bools_len) ?_
  exact Wk.of_eq (by rw [hex]; simp [hne])
 ·intro hb
  have hln : l.length = n := by omega
  refine AW.skip ?_
  refine hK1 _ _ _ ?_; clear hK1
  refine AW.seq fun K2 hK2 => ?_
  refine AW.sg [5,17,18,19] [9] (e2 @ints_len @bools_len) ?_
  refine AW.block ?_
  refine AW.loopE (fun mm ee ss kk => ∃ (k g v : Nat), l.length - k = mm ∧ ee = [(5, .ptr ⟨9, g, none⟩ 0 0), (17, .rsl 1 (ints l)), (18, .int .i64 l.length), (19, .int .i64 (k : Nat))] ∧ ss = [(9, some ⟨g, v, 3, [[.int .i64 n, .rsl 1 (lisR bel), .osl 1 (bools (exD (List.replicate n false) (l.take k)))]]⟩)] ∧ (k ≤ l.length ∧ extGo n bel (List.replicate n false) (l.take k) = true)) ?_ ?_
  -- init 1
  ·exact ⟨_, 0, _, _, rfl, eD, eD, (⟨Nat.zero_le _, rfl⟩)⟩
  rintro mm ee ss kk ⟨k, g, v, rfl, rfl, rfl, hI⟩
  generalize hQl1 : thenQ _ _ = Ql1
  obtain ⟨hk, hall⟩ := hI
  have hdl := exD_len (l.take k) (List.replicate n false)
  rw [List.length_replicate] at hdl
  refine AW.sg [5,17,18,19,20] [9] (e2 @ints_len @bools_len) ?_
  refine AW.seq fun K3 hK3 => ?_
  refine AW.cn ?_ ?_
  ·intro hb
   obtain ⟨x, hx⟩ := getI (l := l) (j := k) (by omega)
   have hgx := ints_get hx
   have htk : l.take (k + 1) = l.take k ++ [x] := by rw [List.take_add_one, hx]; rfl
   have hfx := hfr _ hdl x.toNat
   have hsn := exD_snoc (List.replicate n false) (l.take k) x
   rw [← htk] at hsn
   have hap := extGo_app n bel (l.take k) [x] (List.replicate n false)
   rw [← htk, hall, Bool.true_and] at hap
   have hap2 := extGo_app n bel (l.take k) (l.drop k) (List.replicate n false)
   rw [List.take_append_drop, hall, Bool.true_and] at hap2
   have hdr : l.drop k = x :: l.drop (k + 1) := by
    have h0 := (List.getElem?_eq_some_iff.1 hx)
    obtain ⟨h1, h2⟩ := h0
    rw [← h2]; exact List.drop_eq_getElem_cons h1
   rw [hdr] at hap2
   generalize exD (List.replicate n false) (l.take k) = d at *
   have hfx2 : (decide (x < 0) || decide ((n : Int) ≤ x)) = false → Reads Tryd.prog 91 true [.rptr [.int .i64 n, .rsl 1 (lisR bel), .rsl 1 (bools d)], .int .i64 x] (.bool (freeL bel d x.toNat)) := fun hh => by
    simp only [Bool.or_eq_false_iff, decide_eq_false_iff_not] at hh
    have h4 := Reads.flat (hfx (by omega)) rfl
    rw [show ((x.toNat : Nat) : Int) = x by omega] at h4
    exact h4
   refine AW.skip ?_
   refine hK3 _ _ _ ?_; clear hK3
   refine AW.seq fun K4 hK4 => ?_
   refine AW.block ?_
   refine AW.sg [5,7,17,18,19] [9] (e3 @ints_len @bools_len @hgx) ?_
   refine AW.seq fun K5 hK5 => ?_
   refine AW.so 0 (fun ii => if ii = 13 then some (.reads true (.bool (freeL bel d x.toNat))) else none) [5,7,17,18,19,38] [9] (e3 @ints_len @bools_len @hdl) ?_
   repeat with_reducible refine cj ?_ ?_
   all_goals try first | (exact fun hh => ⟨hh, hfx2 hh⟩) | (intros; (repeat' apply And.intro) <;> first | assumption | (exact fun hh => ⟨hh, hfx2 hh⟩)) | omega | exact ent (by kernel_rfl) | (intro hgd; exact absurd hgd (by decide)) | rfl | (simp only [go_sem, reduceIte, reduceCtorEq, zA, zM, zE, zL, zD, zS, zP, zB, zI, zR, ints_len, bools_len, hdl]; done) | (intro _hgd; simp_all [go_sem]; done)
   have hcc : (decide (x < 0) || decide ((n : Int) ≤ x) || !freeL bel d x.toNat) = !exOk n bel d x := by
    unfold exOk
    by_cases e1 : x < 0
    ·simp [e1, show ¬ 0 ≤ x by omega]
    ·by_cases e2 : (n : Int) ≤ x
     ·simp [e2, show ¬ x < (n : Int) by omega]
     ·simp [e1, e2, show 0 ≤ x by omega, show x < (n : Int) by omega]
   rw [hcc]
   refine AW.cn ?_ ?_
   ·intro hb
    have hf : exOk n bel d x = false := by revert hb; simp
    have hfin : extB n bel l = false := by rw [hex, hap2]; simp [extGo, hf]
    refine AW.sg [4] [9] (e2 @ints_len @bools_len) ?_
    -- ret 2
    rw [← hQl1, ← hQr]
    refine AW.rt (e2 @ints_len @bools_len) ?_
    exact Wk.of_eq (by rw [hfin])
   ·intro hb
    have hf : exOk n bel d x = true := by revert hb; simp
    have hx3 : 0 ≤ x ∧ x < (n : Int) := by
     unfold exOk at hf
     revert hf; simp; intro a b _; exact ⟨a, b⟩
    refine AW.skip ?_
    refine hK5 _ _ _ ?_; clear hK5
    refine AW.rg [5,17,18,19] [9] (e2 @ints_len @bools_len) ?_
    refine hK4 _ _ _ ?_; clear hK4
    refine AW.rg [5,17,18,19] [9] (e2 @ints_len @bools_len) ?_
    -- again 1
    rw [← hQl1]; change Exists _
    refine ⟨_, ?hm, k + 1, ?_, ?_, rfl, ?henv, ?hstore, ?hst⟩
    case henv =>
     repeat' (first | rfl | refine env_cons ?_ ?_ | refine st_cons ?_ ?_ ?_ ?_ | refine int_eq ?_ | refine bool_eq ?_ | refine rsl_eq ?_ | refine osl_eq ?_ | refine sl_eq ?_ ?_ ?_ | refine ptr_eq ?_ ?_ ?_ | refine agg_eq ?_ | refine es_cons ?_ ?_ | refine row_cons ?_ ?_)
     all_goals (first | (simp; done) | omega | (simp; omega))
    case hstore =>
     repeat' (first | rfl | refine env_cons ?_ ?_ | refine st_cons ?_ ?_ ?_ ?_ | refine int_eq ?_ | refine bool_eq ?_ | refine rsl_eq ?_ | refine osl_eq ?_ | refine sl_eq ?_ ?_ ?_ | refine ptr_eq ?_ ?_ ?_ | refine agg_eq ?_ | refine es_cons ?_ ?_ | refine row_cons ?_ ?_)
     all_goals (rw [hsn])
    case hst =>
     exact ⟨by omega, by rw [hap]; simp [extGo, hf]⟩
    case hm => omega
  ·intro hb
   have hk2 : k = l.length := by omega
   subst hk2
   rw [List.take_length] at hall
   -- exit 0
   refine AW.kx [] [9] ?_
   rw [← hQl1]
   refine hK2 _ _ _ ?_; clear hK2
   refine AW.sg [4] [9] (e2 @ints_len @bools_len) ?_
   -- ret 3
   rw [← hQr]
   refine AW.rt (e2 @ints_len @bools_len) ?_
   exact Wk.of_eq (by rw [hex, hall]; simp [hln])
end Go.Proofs.D

/- Linear extensions of orders: something can always be placed. -/
namespace Go.AM
theorem freeL_iff {n : Nat} {t : List (List Bool)} {d : List Bool} {i : Nat} (hi : i < n) : freeL (belL n t) d i = true ↔ d.getD i false = false ∧ ∀ j, j < n → atT t j i = true → d.getD j false = true := by
  unfold freeL belL
  rw [belAt_get hi]
  simp only [Bool.and_eq_true, Bool.not_eq_true', List.any_eq_false, List.mem_map, List.mem_filter, List.mem_range, openB]
  constructor
  · rintro ⟨h1, h2⟩
    refine ⟨h1, fun j hj ha => ?_⟩
    have := h2 (j : Int) ⟨j, ⟨hj, ha⟩, rfl⟩
    simpa using this
  · rintro ⟨h1, h2⟩
    refine ⟨h1, ?_⟩
    rintro x ⟨j, ⟨hj, ha⟩, rfl⟩
    simpa using h2 j hj ha
/-- How many are placed. -/
def cntT (d : List Bool) : Nat := d.countP id
theorem cntT_set {d : List Bool} {i : Nat} (hi : i < d.length) (h : d.getD i false = false) : cntT (d.set i true) = cntT d + 1 := by
  unfold cntT
  rw [List.countP_set hi]
  have : d[i] = false := by simpa [List.getD_eq_getElem?_getD, List.getElem?_eq_getElem hi] using h
  simp [this]
theorem cntT_rep (n : Nat) : cntT (List.replicate n false) = 0 := by simp [cntT, List.countP_replicate]
end Go.AM

namespace Go.Proofs.D
open Go.AM Go
set_option maxRecDepth 100000
set_option maxHeartbeats 2000000
theorem is_g (n : Nat) (t : List (List Bool)) (hs : Sq n t) (hn : n ≤ 512) (l : List Int) (hl : l.length ≤ 9223372036854775807) : Reads Tryd.prog 42 false [relB t, .rsl 1 (ints l)] (.bool (poB n t && extB n (belL n t) l)) := by
 have hv := pvalid_g n t hs hn
 have he := extends_g n t hs hn l hl
 unfold relB at *
 refine Reads.body (rs := [.tmp 4]) Tryd.func42 rfl Tryd.ntmps42 rfl (by simp) ?_
 generalize hQr : retQ _ _ _ = Qr
 -- block 1
 refine AW.sg [1,2] [2] trivial ?_
 refine AW.so 0 (fun ii => if ii = 1 then some (.reads false (.bool (poB n t))) else if ii = 5 then some (.reads false (.bool (extB n (belL n t) l))) else none) [4] [] trivial ?_
 repeat with_reducible refine cj ?_ ?_
 all_goals try first | (first | exact hv | exact fun hh => ⟨hh, he⟩) | (intros; (repeat' apply And.intro) <;> first | assumption | (first | exact hv | exact fun hh => ⟨hh, he⟩)) | omega | exact ent (by kernel_rfl) | (intro hgd; exact absurd hgd (by decide)) | rfl | exact gD | (intro _hgd; simp_all [go_sem]; done)
 -- ret 1
 rw [← hQr]
 refine AW.rt trivial ?_
 exact Wk.refl _
end Go.Proofs.D

/- The ideals of an order, level by level, and the ways to complete them, as the program goes. -/
namespace Go.AM
/-- A fold over the numbers below m that meet p. -/
def fr {α : Type} (p : Nat → Bool) (f : α → Nat → α) (m : Nat) (a : α) : α := ((List.range m).filter p).foldl f a
theorem fr_zero {α : Type} (p : Nat → Bool) (f : α → Nat → α) (a : α) : fr p f 0 a = a := rfl
theorem fr_succ {α : Type} {p : Nat → Bool} (f : α → Nat → α) {k : Nat} (h : p k = true) (a : α) : fr p f (k + 1) a = f (fr p f k a) k := by
  unfold fr; rw [List.range_succ, List.filter_append]; simp [h]
theorem fr_miss {α : Type} {p : Nat → Bool} (f : α → Nat → α) {k : Nat} (h : p k = false) (a : α) : fr p f (k + 1) a = fr p f k a := by
  unfold fr; rw [List.range_succ, List.filter_append]; simp [h]
def addS (lv : List (List Bool)) (x : List Bool) : List (List Bool) := if x ∈ lv then lv else lv ++ [x]
def accS (bel : List (List Int)) (S : List Bool) (m : Nat) (lv : List (List Bool)) : List (List Bool) := fr (freeL bel S) (fun lv x => addS lv (S.set x true)) m lv
def nextL (bel : List (List Int)) (n : Nat) (prev : List (List Bool)) : List (List Bool) := prev.foldl (fun lv S => accS bel S n lv) []
def lvAt (bel : List (List Int)) (n : Nat) : Nat → List (List Bool)
  | 0 => [List.replicate n false]
  | j + 1 => nextL bel n (lvAt bel n j)
theorem mem_addS {lv : List (List Bool)} {x y : List Bool} : y ∈ addS lv x ↔ y ∈ lv ∨ y = x := by
  unfold addS
  split
  · rename_i h
    exact ⟨.inl, fun h' => h'.elim id fun e => e ▸ h⟩
  · simp
theorem mem_accS {bel : List (List Int)} {S : List Bool} {lv : List (List Bool)} {y : List Bool} : ∀ {m : Nat}, y ∈ accS bel S m lv ↔ y ∈ lv ∨ ∃ x, x < m ∧ freeL bel S x = true ∧ y = S.set x true
  | 0 => by simp [accS, fr_zero]
  | m + 1 => by
    unfold accS
    have ih := mem_accS (bel := bel) (S := S) (lv := lv) (y := y) (m := m)
    unfold accS at ih
    cases h : freeL bel S m with
    | true =>
      rw [fr_succ _ h, mem_addS, ih]
      constructor
      · rintro ((h1 | ⟨x, h1, h2⟩) | h1)
        · exact .inl h1
        · exact .inr ⟨x, by omega, h2⟩
        · exact .inr ⟨m, by omega, h, h1⟩
      · rintro (h1 | ⟨x, h1, h2, h3⟩)
        · exact .inl (.inl h1)
        · rcases Nat.lt_succ_iff_lt_or_eq.1 h1 with e | e
          · exact .inl (.inr ⟨x, e, h2, h3⟩)
          · exact .inr (e ▸ h3)
    | false =>
      rw [fr_miss _ h, ih]
      constructor
      · rintro (h1 | ⟨x, h1, h2⟩)
        · exact .inl h1
        · exact .inr ⟨x, by omega, h2⟩
      · rintro (h1 | ⟨x, h1, h2, h3⟩)
        · exact .inl h1
        · rcases Nat.lt_succ_iff_lt_or_eq.1 h1 with e | e
          · exact .inr ⟨x, e, h2, h3⟩
          · rw [e, h] at h2; cases h2
theorem mem_fold {bel : List (List Int)} {n : Nat} {y : List Bool} : ∀ {prev lv : List (List Bool)}, y ∈ prev.foldl (fun lv S => accS bel S n lv) lv ↔ y ∈ lv ∨ ∃ S ∈ prev, ∃ x, x < n ∧ freeL bel S x = true ∧ y = S.set x true
  | [], _ => by simp
  | S :: prev, lv => by
    rw [List.foldl_cons, mem_fold, mem_accS]
    simp only [List.mem_cons, exists_eq_or_imp, or_assoc]
theorem mem_nextL {bel : List (List Int)} {n : Nat} {prev : List (List Bool)} {y : List Bool} : y ∈ nextL bel n prev ↔ ∃ S ∈ prev, ∃ x, x < n ∧ freeL bel S x = true ∧ y = S.set x true := by
  unfold nextL; rw [mem_fold]; simp
theorem lvAt_len {bel : List (List Int)} {n : Nat} : ∀ {j : Nat} {S : List Bool}, S ∈ lvAt bel n j → S.length = n
  | 0, S, h => by rw [List.mem_singleton.1 h]; simp
  | j + 1, S, h => by
    obtain ⟨S', h1, x, _, _, rfl⟩ := mem_nextL.1 h
    rw [List.length_set]; exact lvAt_len h1
/-! ### Maps of keys. -/
theorem ba_beq (a b : ByteArray) : (a == b) = (a.data == b.data) := by
  cases a; cases b; rfl
theorem keyEq_str (S T : List Bool) : keyEq (.str (keyS S)) (.str (keyS T)) = decide (S = T) := by
  show (keyS S == keyS T) = _
  rw [ba_beq]
  by_cases h : S = T
  · subst h; simp
  · rw [decide_eq_false h]
    cases e : ((keyS S).data == (keyS T).data) with
    | false => rfl
    | true => exact absurd (keyS_inj (by rw [eq_of_beq e])) h
def keysR (lv : List (List Bool)) : List (List AV) := lv.map fun S => [.str (keyS S)]
@[go_sem] theorem vwc_keysR (s : Store) (d : Nat) (lv : List (List Bool)) : (keysR lv).map (fun cs => cs.map (vwc s d)) = keysR lv := by
  simp [keysR, vwc_str]
@[go_sem] theorem vw_keysR (s : Store) (d : Nat) (lv : List (List Bool)) : (keysR lv).map (fun cs => cs.map (vw s d)) = keysR lv := by
  simp [keysR, vw_str]
/-! ### The ways. -/
def sumW (bel : List (List Int)) (es : List (List AV)) (S : List Bool) (m : Nat) : Int := fr (freeL bel S) (fun s x => min (s + mapI es (.str (keyS (S.set x true)))) 1125899906842625) m 0
def wayS (bel : List (List Int)) (n : Nat) (es : List (List AV)) (S : List Bool) (a : Nat) : Int := if a = n then 1 else sumW bel es S n
def stepW (bel : List (List Int)) (n a : Nat) (es : List (List AV)) (S : List Bool) : List (List AV) := mapPut es (.str (keyS S)) (.int .i64 (wayS bel n es S a))
def levelW (bel : List (List Int)) (n : Nat) (es : List (List AV)) (a : Nat) : List (List AV) := (lvAt bel n a).foldl (stepW bel n a) es
def downW (bel : List (List Int)) (n : Nat) : Nat → List (List AV)
  | 0 => []
  | m + 1 => levelW bel n (downW bel n m) (n - m)
def waysE (bel : List (List Int)) (n : Nat) : List (List AV) := downW bel n (n + 1)
def WOk (es : List (List AV)) : Prop := ∀ row ∈ es, ∃ b v, row = [.str b, .int .i64 v] ∧ 0 ≤ v ∧ v ≤ 1125899906842625
theorem WOk.mapWf {es : List (List AV)} (h : WOk es) {P : Program} {kt : TypeId} (hk : ∀ b, keyOk P kt (.str b) = true) : mapWf P kt (some .i64) es := fun row hr => by
  obtain ⟨b, v, rfl, _⟩ := h row hr
  exact ⟨_, _, rfl, hk _, rfl⟩
theorem WOk.keysWf {es : List (List AV)} (h : WOk es) {P : Program} {kt : TypeId} (hk : ∀ b, keyOk P kt (.str b) = true) : keysWf P kt es := fun row hr => by
  obtain ⟨b, v, rfl, _⟩ := h row hr
  exact ⟨_, _, rfl, hk _⟩
theorem WOk.flt {es : List (List AV)} (h : WOk es) : es.map (fun row => row.map Go.AM.flt) = es := by
  conv => rhs; rw [← List.map_id es]
  refine List.map_congr_left fun row hr => ?_
  obtain ⟨b, v, rfl, _⟩ := h row hr
  rfl
theorem WOk.rng {es : List (List AV)} (h : WOk es) (k : AV) : 0 ≤ mapI es k ∧ mapI es k ≤ 1125899906842625 := by
  unfold mapI mapAt
  cases e : mapFind es k 0 with
  | none => exact ⟨by decide, by decide⟩
  | some p =>
    obtain ⟨row, h1, h2, _⟩ := mapFind_some e
    obtain ⟨b, v, rfl, h3, h4⟩ := h row (List.mem_of_getElem? h1)
    have h5 : AV.int .i64 v = p.2 := h2
    simp only [Option.map_some, ← h5]
    exact ⟨h3, h4⟩
theorem mem_mapPut : ∀ {es : List (List AV)} {k v : AV} {row : List AV}, row ∈ mapPut es k v → row = [k, v] ∨ row ∈ es
  | [], k, v, row, h => .inl (List.mem_singleton.1 h)
  | r :: es, k, v, row, h => by
    unfold mapPut at h
    split at h
    · rcases List.mem_cons.1 h with e | e
      · exact .inl e
      · exact .inr (List.mem_cons_of_mem _ e)
    · rcases List.mem_cons.1 h with e | e
      · exact .inr (e ▸ List.mem_cons_self)
      · exact (mem_mapPut e).imp id (List.mem_cons_of_mem _)
theorem WOk.put {es : List (List AV)} (h : WOk es) (b : ByteArray) {v : Int} (h0 : 0 ≤ v) (h1 : v ≤ 1125899906842625) : WOk (mapPut es (.str b) (.int .i64 v)) := fun row hr => by
  rcases mem_mapPut hr with rfl | e
  · exact ⟨b, v, rfl, h0, h1⟩
  · exact h row e
theorem sumW_rng {bel : List (List Int)} {es : List (List AV)} (h : WOk es) (S : List Bool) : ∀ m, 0 ≤ sumW bel es S m ∧ sumW bel es S m ≤ 1125899906842625
  | 0 => ⟨by simp [sumW, fr_zero], by simp [sumW, fr_zero]⟩
  | m + 1 => by
    have ih := sumW_rng (bel := bel) h S m
    unfold sumW at *
    cases hf : freeL bel S m with
    | true =>
      rw [fr_succ _ hf]
      have := h.rng (.str (keyS (S.set m true)))
      omega
    | false => rw [fr_miss _ hf]; exact ih
theorem wayS_rng {bel : List (List Int)} {n : Nat} {es : List (List AV)} (h : WOk es) (S : List Bool) (a : Nat) : 0 ≤ wayS bel n es S a ∧ wayS bel n es S a ≤ 1125899906842625 := by
  unfold wayS
  split
  · exact ⟨by decide, by decide⟩
  · exact sumW_rng h S n
theorem WOk.steps {bel : List (List Int)} {n a : Nat} : ∀ {l : List (List Bool)} {es : List (List AV)}, WOk es → WOk (l.foldl (stepW bel n a) es)
  | [], _, h => h
  | S :: l, es, h => by
    rw [List.foldl_cons]
    exact WOk.steps (h.put _ (wayS_rng h S a).1 (wayS_rng h S a).2)
end Go.AM

/- The next extension, as the program seeks it. -/
namespace Go.AM
def dAt (n : Nat) (l : List Int) (m : Nat) : List Bool := exD (List.replicate n false) (l.take m)
theorem dAt_len (n : Nat) (l : List Int) (m : Nat) : (dAt n l m).length = n := by unfold dAt; rw [exD_len]; simp
theorem dAt_succ {n : Nat} {l : List Int} {m : Nat} (h : m < l.length) : dAt n l (m + 1) = (dAt n l m).set (l.getD m 0).toNat true := by
  unfold dAt
  rw [List.take_add_one, List.getElem?_eq_getElem h, Option.toList_some, exD_snoc]
  simp [List.getD_eq_getElem?_getD, List.getElem?_eq_getElem h]
theorem extGo_at {n : Nat} {bel : List (List Int)} {d : List Bool} {l : List Int} (h : extGo n bel d l = true) {m : Nat} (hm : m < l.length) : exOk n bel (exD d (l.take m)) (l.getD m 0) = true := by
  have h1 := extGo_app n bel (l.take m) (l.drop m) d
  rw [List.take_append_drop, h] at h1
  have h2 : extGo n bel (exD d (l.take m)) (l.drop m) = true := by
    cases e : extGo n bel (exD d (l.take m)) (l.drop m) with
    | true => rfl
    | false => rw [e] at h1; simp at h1
  rw [List.drop_eq_getElem_cons hm] at h2
  unfold extGo at h2
  simp only [Bool.and_eq_true] at h2
  have : l.getD m 0 = l[m] := by simp [List.getD_eq_getElem?_getD, List.getElem?_eq_getElem hm]
  rw [this]; exact h2.1
structure IsExt (n : Nat) (bel : List (List Int)) (l : List Int) : Prop where
  len : l.length = n
  rng : ∀ m, m < n → 0 ≤ l.getD m 0 ∧ l.getD m 0 < (n : Int)
  free : ∀ m, m < n → freeL bel (dAt n l m) (l.getD m 0).toNat = true
theorem extB_iff {n : Nat} {bel : List (List Int)} {l : List Int} : extB n bel l = true ↔ IsExt n bel l := by
  constructor
  · intro h
    unfold extB at h
    simp only [Bool.and_eq_true, decide_eq_true_eq] at h
    have key := fun m (hm : m < n) => extGo_at h.2 (m := m) (by omega)
    unfold exOk at key
    simp only [Bool.and_eq_true, decide_eq_true_eq] at key
    exact ⟨h.1, fun m hm => (key m hm).1, fun m hm => (key m hm).2⟩
  · intro h
    unfold extB
    simp only [Bool.and_eq_true, decide_eq_true_eq]
    refine ⟨h.len, ?_⟩
    have : ∀ m, m ≤ n → extGo n bel (List.replicate n false) (l.take m) = true := by
      intro m
      induction m with
      | zero => intro _; simp [extGo]
      | succ m ih =>
        intro hm
        rw [List.take_add_one, List.getElem?_eq_getElem (by rw [h.len]; omega), Option.toList_some, extGo_app, ih (by omega), Bool.true_and]
        have h1 := h.rng m (by omega)
        have h2 := h.free m (by omega)
        have e : l[m]'(by rw [h.len]; omega) = l.getD m 0 := by simp [List.getD_eq_getElem?_getD, List.getElem?_eq_getElem (show m < l.length by rw [h.len]; omega)]
        rw [e]
        unfold dAt at h2
        simp only [extGo, exOk, h1.1, h1.2, h2, decide_true, Bool.and_self]
    have := this n (Nat.le_refl _)
    rwa [List.take_of_length_le (by rw [h.len]; exact Nat.le_refl _)] at this
theorem freeL_not {bel : List (List Int)} {d : List Bool} {i : Nat} (h : freeL bel d i = true) : d.getD i false = false := by
  unfold freeL at h
  cases e : d.getD i false with
  | false => rfl
  | true => rw [e] at h; simp at h
theorem IsExt.cnt {n : Nat} {bel : List (List Int)} {l : List Int} (h : IsExt n bel l) : ∀ m, m ≤ n → cntT (dAt n l m) = m
  | 0, _ => by simp [dAt, exD, cntT_rep]
  | m + 1, hm => by
    have h1 := h.rng m (by omega)
    rw [dAt_succ (by rw [h.len]; omega), cntT_set (by rw [dAt_len]; omega) (freeL_not (h.free m (by omega))), h.cnt m (by omega)]
theorem IsExt.back {n : Nat} {bel : List (List Int)} {l : List Int} (h : IsExt n bel l) {m : Nat} (hm : m < n) : (dAt n l (m + 1)).set (l.getD m 0).toNat false = dAt n l m := by
  have h1 := h.rng m hm
  rw [dAt_succ (by rw [h.len]; omega), List.set_set]
  have h2 := freeL_not (h.free m hm)
  apply List.ext_getElem?
  intro x
  rw [List.getElem?_set]
  split
  · rename_i e
    subst e
    rw [if_pos (by rw [dAt_len]; omega), List.getElem?_eq_getElem (by rw [dAt_len]; omega)]
    rw [List.getD_eq_getElem?_getD, List.getElem?_eq_getElem (by rw [dAt_len]; omega)] at h2
    simpa using h2.symm
  · rfl
theorem all_true {d : List Bool} (h : cntT d = d.length) : d = List.replicate d.length true := by
  unfold cntT at h
  rw [List.countP_eq_length] at h
  exact List.eq_replicate_iff.2 ⟨rfl, fun b hb => h b hb⟩
end Go.AM

namespace Go.Proofs.D
open Go.AM Go
set_option maxRecDepth 100000
set_option maxHeartbeats 4000000
end Go.Proofs.D

/- Classes of at most 8 elements as bytes, and the search that deals pairs to them. -/
namespace Go.AM

theorem shr8 {x a : Nat} (ha : a < 8) : bShr .u8 (x : Int) (a : Int) = ((x >>> a : Nat) : Int) := by
  unfold bShr
  have : min (a : Int).toNat IntKind.u8.bits = a := by simp [IntKind.bits]; omega
  rw [this, Nat.shiftRight_eq_div_pow, Int.fdiv_eq_ediv_of_nonneg _ (by exact_mod_cast Nat.zero_le _)]
  norm_cast
theorem and8 {a b : Nat} (ha : a < 256) (hb : b < 256) : bAnd .u8 (a : Int) (b : Int) = ((a &&& b : Nat) : Int) := by
  unfold bAnd
  have e : (BitVec.ofInt IntKind.u8.bits (a : Int) &&& BitVec.ofInt IntKind.u8.bits (b : Int)).toNat = a &&& b := by
    show (BitVec.ofInt 8 (a : Int) &&& BitVec.ofInt 8 (b : Int) : BitVec 8).toNat = _
    rw [BitVec.toNat_and, BitVec.ofInt_natCast, BitVec.ofInt_natCast, BitVec.toNat_ofNat, BitVec.toNat_ofNat, Nat.mod_eq_of_lt (by omega), Nat.mod_eq_of_lt (by omega)]
  rw [e]
  have : a &&& b < 2 ^ 8 := Nat.and_lt_two_pow _ (by omega)
  simp [IntKind.wrap, IntKind.signed, IntKind.bits]
  omega
theorem or8 {a b : Nat} (ha : a < 256) (hb : b < 256) : bOr .u8 (a : Int) (b : Int) = ((a ||| b : Nat) : Int) := by
  unfold bOr
  have e : (BitVec.ofInt IntKind.u8.bits (a : Int) ||| BitVec.ofInt IntKind.u8.bits (b : Int)).toNat = a ||| b := by
    show (BitVec.ofInt 8 (a : Int) ||| BitVec.ofInt 8 (b : Int) : BitVec 8).toNat = _
    rw [BitVec.toNat_or, BitVec.ofInt_natCast, BitVec.ofInt_natCast, BitVec.toNat_ofNat, BitVec.toNat_ofNat, Nat.mod_eq_of_lt (by omega), Nat.mod_eq_of_lt (by omega)]
  rw [e]
  have : a ||| b < 2 ^ 8 := Nat.or_lt_two_pow (by omega) (by omega)
  simp [IntKind.wrap, IntKind.signed, IntKind.bits]
  omega
theorem shl8 {k : Nat} (hk : k < 8) : bShl .u8 1 (k : Int) = ((2 ^ k : Nat) : Int) := by
  unfold bShl
  have : min (k : Int).toNat IntKind.u8.bits = k := by simp [IntKind.bits]; omega
  rw [this]
  have h : (2 : Nat) ^ k < 2 ^ 8 := Nat.pow_lt_pow_right (by decide) hk
  have h2 : (1 : Int) * 2 ^ k = ((2 ^ k : Nat) : Int) := by rw [Int.one_mul]; norm_cast
  rw [h2]
  generalize 2 ^ k = p at h ⊢
  have h3 : p < 256 := by simpa using h
  simp [IntKind.wrap, IntKind.signed, IntKind.bits]
  omega
theorem bit8 {x a : Nat} (hx : x < 256) (ha : a < 8) : decide (bAnd .u8 (bShr .u8 (x : Int) (a : Int)) 1 = 1) = x.testBit a := by
  have h1 : x >>> a < 256 := by rw [Nat.shiftRight_eq_div_pow]; exact Nat.lt_of_le_of_lt (Nat.div_le_self _ _) hx
  rw [shr8 ha, show (1 : Int) = ((1 : Nat) : Int) from rfl, and8 h1 (by decide)]
  rw [Nat.testBit, Nat.and_comm, Nat.one_and_eq_mod_two]
  rcases Nat.mod_two_eq_zero_or_one (x >>> a) with e | e <;> simp [e]

/-- A class: for each element the byte of what comes after it. -/
def clsV (c : List Nat) : List AV := c.map fun (x : Nat) => .int .u8 (x : Int)
def clsT (L : List (List Nat)) : List (List AV) := L.map clsV
def Cls (c : List Nat) : Prop := c.length = 8 ∧ ∀ i, c.getD i 0 < 256
theorem clsV_len (c : List Nat) : (clsV c).length = c.length := by simp [clsV]
theorem clsV_get {c : List Nat} {i : Nat} (h : i < c.length) : (clsV c).getD i .any = .int .u8 ((c.getD i 0 : Nat) : Int) := by simp [clsV, List.getD_eq_getElem?_getD, h]
theorem clsT_len (L : List (List Nat)) : (clsT L).length = L.length := by simp [clsT]
theorem clsT_get {L : List (List Nat)} {i : Nat} (h : i < L.length) : (clsT L).getD i [] = clsV (L.getD i []) := by simp [clsT, List.getD_eq_getElem?_getD, h]
theorem clsT_set (L : List (List Nat)) (i : Nat) (c : List Nat) : (clsT L).set i (clsV c) = clsT (L.set i c) := by simp [clsT, List.map_set]
theorem clsV_set (c : List Nat) (i x : Nat) : (clsV c).set i (.int .u8 (x : Int)) = clsV (c.set i x) := by simp [clsV, List.map_set]

def cputR (a v i x : Nat) : Nat := if (decide (i = a) || x.testBit a) = true then x ||| v else x
def cputL (c : List Nat) (a v : Nat) : Nat → List Nat
  | 0 => c
  | k + 1 => (cputL c a v k).set k (cputR a v k ((cputL c a v k).getD k 0))
def afterC (c : List Nat) (b : Nat) : Nat := c.getD b 0 ||| 2 ^ b
def badC (c : List Nat) (a b : Nat) : Bool := decide (a = b) || (c.getD b 0).testBit a
def cputC (c : List Nat) (a b : Nat) : List Nat := cputL c a (afterC c b) 8
theorem cputL_len (c : List Nat) (a v : Nat) : ∀ k, (cputL c a v k).length = c.length
  | 0 => rfl
  | k + 1 => by simp [cputL, cputL_len c a v k]
theorem cputR_lt {a v i x : Nat} (hv : v < 256) (hx : x < 256) : cputR a v i x < 256 := by
  unfold cputR; split
  · exact Nat.or_lt_two_pow (n := 8) hx hv
  · exact hx
theorem cputL_cls {c : List Nat} (hc : Cls c) {a v : Nat} (hv : v < 256) : ∀ k, k ≤ 8 → Cls (cputL c a v k)
  | 0, _ => hc
  | k + 1, hk => by
    have h := cputL_cls hc (a := a) hv k (by omega)
    refine ⟨by rw [cputL_len]; exact hc.1, fun i => ?_⟩
    unfold cputL
    by_cases hi : k = i
    · subst hi
      rw [getD_set_eq (by rw [h.1]; omega)]
      exact cputR_lt hv (h.2 k)
    · rw [getD_set_ne hi]; exact h.2 i
theorem after_lt {c : List Nat} (hc : Cls c) {b : Nat} (hb : b < 8) : afterC c b < 256 := Nat.or_lt_two_pow (n := 8) (hc.2 b) (Nat.pow_lt_pow_right (by decide) hb)
theorem cputC_cls {c : List Nat} (hc : Cls c) {a b : Nat} (hb : b < 8) : Cls (cputC c a b) := cputL_cls hc (after_lt hc hb) 8 (Nat.le_refl _)

theorem clsV_sc (c : List Nat) : (clsV c).all scalar = true := by simp [clsV, scalar]
theorem splice_all : ∀ (pre cs zs : List AV), cs.length = zs.length → splice (pre ++ cs) pre.length zs = pre ++ zs
  | pre, [], [], _ => rfl
  | pre, c :: cs, a :: zs, h => by
    have e : (pre ++ c :: cs).set pre.length a = (pre ++ [a]) ++ cs := by simp
    rw [splice, e]
    have := splice_all (pre ++ [a]) cs zs (by simpa using h)
    rw [List.length_append, List.length_singleton] at this
    rw [this]; simp
theorem splice_cls {c : List Nat} (cs : List AV) (h : cs.length = c.length) : splice cs 0 (clsV c) = clsV c := splice_all [] cs (clsV c) (by rw [clsV_len, h])
/-- A search's cells. -/
def stR (st : List Nat) (p c d m : AV) : List AV := clsV st ++ [p, c, d, m]
section
variable {st : List Nat} (hs : st.length = 8) (p c d m x : AV)
include hs
theorem stR_at8 : (stR st p c d m).getD 8 .any = p := by
  unfold stR; rw [List.getD_eq_getElem?_getD, List.getElem?_append_right (by rw [clsV_len, hs]; omega), clsV_len, hs]; rfl
theorem stR_at9 : (stR st p c d m).getD 9 .any = c := by
  unfold stR; rw [List.getD_eq_getElem?_getD, List.getElem?_append_right (by rw [clsV_len, hs]; omega), clsV_len, hs]; rfl
theorem stR_at10 : (stR st p c d m).getD 10 .any = d := by
  unfold stR; rw [List.getD_eq_getElem?_getD, List.getElem?_append_right (by rw [clsV_len, hs]; omega), clsV_len, hs]; rfl
theorem stR_at11 : (stR st p c d m).getD 11 .any = m := by
  unfold stR; rw [List.getD_eq_getElem?_getD, List.getElem?_append_right (by rw [clsV_len, hs]; omega), clsV_len, hs]; rfl
theorem stR_set9 : (stR st p c d m).set 9 x = stR st p x d m := by
  unfold stR; rw [List.set_append_right _ _ (by rw [clsV_len, hs]; omega), clsV_len, hs]; rfl
theorem stR_set10 : (stR st p c d m).set 10 x = stR st p c x m := by
  unfold stR; rw [List.set_append_right _ _ (by rw [clsV_len, hs]; omega), clsV_len, hs]; rfl
theorem stR_set11 : (stR st p c d m).set 11 x = stR st p c d x := by
  unfold stR; rw [List.set_append_right _ _ (by rw [clsV_len, hs]; omega), clsV_len, hs]; rfl
theorem stR_len : (stR st p c d m).length = 12 := by unfold stR; simp [clsV_len, hs]
end
/-- Pairs, as cells. -/
def natP (p : Nat × Nat) : Int × Int := ((p.1 : Int), (p.2 : Int))
def prs (l : List (Nat × Nat)) : List (List AV) := (l.map natP).map pairV
theorem prs_len (l : List (Nat × Nat)) : (prs l).length = l.length := by simp [prs]
theorem prs_get {l : List (Nat × Nat)} {i : Nat} {x : Nat × Nat} (h : l[i]? = some x) : (prs l).getD i [] = [.int .i64 (x.1 : Nat), .int .i64 (x.2 : Nat)] := by
  simp [prs, List.getD_eq_getElem?_getD, h, natP, pairV]
theorem prs_app (l : List (Nat × Nat)) (x : Nat × Nat) : prs l ++ [[.int .i64 (x.1 : Nat), .int .i64 (x.2 : Nat)]] = prs (l ++ [x]) := by simp [prs, natP, pairV]
theorem noOsl_prs (l : List (Nat × Nat)) : noOsl (prs l) := by
  refine noOslP_spec fun cs h1 a h2 => ?_
  simp only [prs, List.mem_map] at h1
  obtain ⟨q, ⟨p, _, rfl⟩, rfl⟩ := h1
  simp only [pairV, List.mem_cons, List.not_mem_nil, or_false] at h2
  rcases h2 with rfl | rfl <;> trivial
def dlT (de : List (List (Nat × Nat))) : List (List AV) := de.map fun q => [.osl 2 (prs q)]
theorem dlT_len (de : List (List (Nat × Nat))) : (dlT de).length = de.length := by simp [dlT]
theorem dlT_get {de : List (List (Nat × Nat))} {i : Nat} (h : i < de.length) : (dlT de).getD i [] = [.osl 2 (prs (de.getD i []))] := by simp [dlT, List.getD_eq_getElem?_getD, h]
theorem dlT_set (de : List (List (Nat × Nat))) (i : Nat) (q : List (Nat × Nat)) : (dlT de).set i [.osl 2 (prs q)] = dlT (de.set i q) := by simp [dlT, List.map_set]
theorem ren_prs (m : Ref → Option Ref) (d : Nat) (l : List (Nat × Nat)) : (prs l).map (fun row => row.map (ren m d)) = prs l := by simp [prs, pairV, ren_int]
theorem renC_prs (m : Ref → Option Ref) (d : Nat) (l : List (Nat × Nat)) : (prs l).map (fun row => row.map (renC m d)) = prs l := by simp [prs, pairV, renC, ren_int]
theorem renC_dlT (m : Ref → Option Ref) (d : Nat) (de : List (List (Nat × Nat))) : (dlT de).map (fun row => row.map (renC m d)) = dlT de := by
  simp [dlT, renC, ren_prs]
theorem ren_cls (m : Ref → Option Ref) (d : Nat) (L : List (List Nat)) : (clsT L).map (fun row => row.map (renC m d)) = clsT L := by
  simp [clsT, clsV, renC, ren_int]
theorem ren_clsV (m : Ref → Option Ref) (d : Nat) (c : List Nat) : (clsV c).map (renC m d) = clsV c := by
  simp [clsV, renC, ren_int]
/-! ### The search. -/
def newC (st : List Nat) (x : Nat × Nat) : List Nat := if badC st x.2 x.1 = true then st else cputC st x.2 x.1
def addP (de : List (List (Nat × Nat))) (k : Nat) (x : Nat × Nat) : List (List (Nat × Nat)) := de.set k (de.getD k [] ++ [x])
abbrev Dl := List (List Nat) × List (List (Nat × Nat))
def dealK (rec : List (List Nat) → List (List (Nat × Nat)) → Option Dl) (x : Nat × Nat) (cl : List (List Nat)) (de : List (List (Nat × Nat))) : Nat → Nat → Option Dl
  | 0, _ => none
  | m + 1, k => if badC (cl.getD k []) x.2 x.1 = true then dealK rec x cl de m (k + 1) else
      match rec (cl.set k (cputC (cl.getD k []) x.2 x.1)) (addP de k x) with
      | some r => some r
      | none => dealK rec x cl de m (k + 1)
def dealP (most : Nat) (st : List Nat) : List (Nat × Nat) → List (List Nat) → List (List (Nat × Nat)) → Option Dl
  | [], cl, de => some (cl, de)
  | x :: ps, cl, de => match dealK (dealP most st ps) x cl de cl.length 0 with
    | some r => some r
    | none => if cl.length = most then none else dealP most st ps (cl ++ [newC st x]) (de ++ [[x]])
/-- What the search's state is. -/
structure DOk (i : Nat) (cl : List (List Nat)) (de : List (List (Nat × Nat))) : Prop where
  len : cl.length = de.length
  le : cl.length ≤ i
  cls : ∀ k, k < cl.length → Cls (cl.getD k [])
  rows : ∀ k, (de.getD k []).length ≤ i
theorem DOk.step {i : Nat} {cl : List (List Nat)} {de : List (List (Nat × Nat))} (h : DOk i cl de) {x : Nat × Nat} (hx : x.1 < 8) {k : Nat} (hk : k < cl.length) :
    DOk (i + 1) (cl.set k (cputC (cl.getD k []) x.2 x.1)) (addP de k x) := by
  refine ⟨by simp [addP, h.len], by have := h.le; simp; omega, fun j hj => ?_, fun j => ?_⟩
  · by_cases e : k = j
    · subst e; rw [getD_set_eq hk]; exact cputC_cls (h.cls k hk) hx
    · rw [getD_set_ne e]; exact h.cls j (by simpa using hj)
  · unfold addP
    by_cases e : k = j
    · subst e; rw [getD_set_eq (by rw [← h.len]; exact hk)]; have := h.rows k; simp only [List.length_append, List.length_singleton]; omega
    · rw [getD_set_ne e]; have := h.rows j; omega
theorem newC_cls {st : List Nat} (hs : Cls st) {x : Nat × Nat} (hx : x.1 < 8) : Cls (newC st x) := by
  unfold newC; split
  · exact hs
  · exact cputC_cls hs hx
theorem DOk.grow {i : Nat} {cl : List (List Nat)} {de : List (List (Nat × Nat))} (h : DOk i cl de) {st : List Nat} (hs : Cls st) {x : Nat × Nat} (hx : x.1 < 8) :
    DOk (i + 1) (cl ++ [newC st x]) (de ++ [[x]]) := by
  refine ⟨by simp [h.len], by have := h.le; simp; omega, fun j hj => ?_, fun j => ?_⟩
  · rw [getD_append]
    split
    · rename_i hj'; exact h.cls j hj'
    · simp only [List.length_append, List.length_singleton] at hj
      rw [show j - cl.length = 0 by omega]; exact newC_cls hs hx
  · rw [getD_append]
    split
    · have := h.rows j; omega
    · rcases Nat.eq_zero_or_pos (j - de.length) with e | e
      · rw [e]; simp
      · rw [getD_out (by simp; omega)]; simp
def dealF (rec : List (List Nat) → List (List (Nat × Nat)) → Option Dl) (m : Nat) (st : List Nat) (x : Nat × Nat) (cl : List (List Nat)) (de : List (List (Nat × Nat))) (k : Nat) : Option Dl :=
  match dealK rec x cl de (cl.length - k) k with
  | some r => some r
  | none => if cl.length = m then none else rec (cl ++ [newC st x]) (de ++ [[x]])
section
variable {rec : List (List Nat) → List (List (Nat × Nat)) → Option Dl} {m : Nat} {st : List Nat} {x : Nat × Nat} {cl : List (List Nat)} {de : List (List (Nat × Nat))} {k : Nat}
theorem dealP_cons (ps : List (Nat × Nat)) : dealP m st (x :: ps) cl de = dealF (dealP m st ps) m st x cl de 0 := rfl
theorem dealF_bad (hk : k < cl.length) (hb : badC (cl.getD k []) x.2 x.1 = true) : dealF rec m st x cl de k = dealF rec m st x cl de (k + 1) := by
  unfold dealF
  obtain ⟨j, hj⟩ : ∃ j, cl.length - k = j + 1 := ⟨cl.length - k - 1, by omega⟩
  rw [hj, show cl.length - (k + 1) = j by omega, dealK, if_pos hb]
theorem dealF_none (hk : k < cl.length) (hb : badC (cl.getD k []) x.2 x.1 = false) (hr : rec (cl.set k (cputC (cl.getD k []) x.2 x.1)) (addP de k x) = none) : dealF rec m st x cl de k = dealF rec m st x cl de (k + 1) := by
  unfold dealF
  obtain ⟨j, hj⟩ : ∃ j, cl.length - k = j + 1 := ⟨cl.length - k - 1, by omega⟩
  rw [hj, show cl.length - (k + 1) = j by omega, dealK, if_neg (by rw [hb]; decide), hr]
theorem dealF_some (hk : k < cl.length) (hb : badC (cl.getD k []) x.2 x.1 = false) {y : Dl} (hr : rec (cl.set k (cputC (cl.getD k []) x.2 x.1)) (addP de k x) = some y) : dealF rec m st x cl de k = some y := by
  unfold dealF
  obtain ⟨j, hj⟩ : ∃ j, cl.length - k = j + 1 := ⟨cl.length - k - 1, by omega⟩
  rw [hj, dealK, if_neg (by rw [hb]; decide), hr]
theorem dealF_end : dealF rec m st x cl de cl.length = if cl.length = m then none else rec (cl ++ [newC st x]) (de ++ [[x]]) := by
  unfold dealF
  rw [Nat.sub_self, dealK]
theorem addP_at (hk : k < de.length) : (addP de k x).getD k [] = de.getD k [] ++ [x] := getD_set_eq hk _ _
theorem addP_back (hk : k < de.length) : (addP de k x).set k (de.getD k []) = de := by
  unfold addP; rw [List.set_set]; exact Go.AM.set_getD_self hk []
theorem addP_len : (addP de k x).length = de.length := by simp [addP]
end
theorem prs_take (q : List (Nat × Nat)) (x : Nat × Nat) : (prs (q ++ [x])).take q.length = prs q := by simp [prs, List.take_of_length_le]
theorem list8 {α : Type} {c : List α} (h : c.length = 8) : ∃ a0 a1 a2 a3 a4 a5 a6 a7, c = [a0, a1, a2, a3, a4, a5, a6, a7] := by
  match c, h with
  | [a0, a1, a2, a3, a4, a5, a6, a7], _ => exact ⟨_, _, _, _, _, _, _, _, rfl⟩
theorem fold8 {c : List Nat} (h : c.length = 8) : [AV.int .u8 ((c.getD 0 0 : Nat) : Int), AV.int .u8 ((c.getD 1 0 : Nat) : Int), AV.int .u8 ((c.getD 2 0 : Nat) : Int), AV.int .u8 ((c.getD 3 0 : Nat) : Int),
    AV.int .u8 ((c.getD 4 0 : Nat) : Int), AV.int .u8 ((c.getD 5 0 : Nat) : Int), AV.int .u8 ((c.getD 6 0 : Nat) : Int), AV.int .u8 ((c.getD 7 0 : Nat) : Int)] = clsV c := by
  obtain ⟨_, _, _, _, _, _, _, _, rfl⟩ := list8 h; rfl
theorem clsV_at {c : List Nat} (h : c.length = 8) (j : Nat) (hj : j < 8) : (clsV c).getD j .any = .int .u8 ((c.getD j 0 : Nat) : Int) := clsV_get (by omega)
theorem stR_at {st : List Nat} (hs : st.length = 8) (p c d m : AV) (j : Nat) (hj : j < 8) : (stR st p c d m).getD j .any = .int .u8 ((st.getD j 0 : Nat) : Int) := by
  unfold stR
  rw [List.getD_eq_getElem?_getD, List.getElem?_append_left (by rw [clsV_len]; omega), ← List.getD_eq_getElem?_getD]
  exact clsV_at hs j hj
theorem ren_stR (f : Ref → Option Ref) (k : Nat) (st : List Nat) (p c d m : AV) : (stR st p c d m).map (renC f k) = stR st (renC f k p) (renC f k c) (renC f k d) (renC f k m) := by
  simp [stR, ren_clsV]
def dlR (de : List (List (Nat × Nat))) : List (List AV) := de.map fun q => [.rsl 2 (prs q)]
theorem vwc_prs (s : Store) (d : Nat) (l : List (Nat × Nat)) : (prs l).map (fun cs => cs.map (vwc s d)) = prs l := vwc_pairs s d _
theorem vwcF_prs (s : Store) (d : Nat) (l : List (Nat × Nat)) : (prs l).map (fun cs => cs.map (vwcF s d)) = prs l := vwcF_pairs s d _
attribute [go_sem] ren_cls renC_dlT renC_prs ren_prs ren_clsV ren_stR vwc_prs vwcF_prs
theorem scP_cls (c : List Nat) : scP [clsV c] := fun cs h a ha => by
  simp only [List.mem_singleton] at h
  subst h
  simp only [clsV, List.mem_map] at ha
  obtain ⟨x, _, rfl⟩ := ha
  rfl
theorem clsV_take {c : List Nat} (h : c.length = 8) : (clsV c).take 8 = clsV c := List.take_of_length_le (by rw [clsV_len, h]; omega)
theorem clsT_app (L : List (List Nat)) (c : List Nat) : clsT L ++ [clsV c] = clsT (L ++ [c]) := by simp [clsT]
theorem dlT_app (de : List (List (Nat × Nat))) (q : List (Nat × Nat)) : dlT de ++ [[.osl 2 (prs q)]] = dlT (de ++ [q]) := by simp [dlT]
theorem rows_get {l : List (List AV)} {n : Nat} (h : l.length = n) (v : List AV) : (l ++ [v]).getD n [] = v := by subst h; simp [List.getD_eq_getElem?_getD]
theorem rows_set {l : List (List AV)} {n : Nat} (h : l.length = n) (v u : List AV) : (l ++ [v]).set n u = l ++ [u] := by subst h; simp
theorem prs_one (x : Nat × Nat) : prs [x] = [[.int .i64 (x.1 : Nat), .int .i64 (x.2 : Nat)]] := rfl
end Go.AM

namespace Go.Proofs.D
open Go.AM Go
set_option maxRecDepth 100000
set_option maxHeartbeats 2000000
theorem or_iff {a b : Nat} {c : Bool} (h : (a : Int) = (b : Int) ∨ c = true) : (decide (a = b) || c) = true := by
 rcases h with h | h
 ·rw [decide_eq_true (by omega)]; rfl
 ·rw [h, Bool.or_true]
theorem nor_iff {a b : Nat} {c : Bool} (h : ¬ (a : Int) = (b : Int) ∧ c = false) : (decide (a = b) || c) = false := by
 rw [decide_eq_false (by omega), h.2]; rfl
theorem put_u (L : List (List Nat)) (m : Nat) (hm : m < L.length) (hc : Cls (L.getD m [])) (a b : Nat) (ha : a < 8) (hb : b < 8) (g v : Nat) :
  Upd Tryd.prog 82 [(0, some ⟨g, v, 8, clsT L⟩)] [.ptr ⟨0, g, none⟩ m 0, .int .i64 a, .int .i64 b] (fun _ => .bool (!badC (L.getD m []) a b))
   (fun k => [(0, some ⟨g, k, 8, clsT (if badC (L.getD m []) a b then L else L.set m (cputC (L.getD m []) a b))⟩)]) := by
 have hg := clsT_get hm
 have hl := clsT_len L
 have hcl := hc.1
 have hbl := hc.2 b
 have hgb := clsV_get (c := L.getD m []) (i := b) (by omega)
 have hbit := bit8 hbl ha
 have hbad : badC (L.getD m []) a b = (decide (a = b) || ((L.getD m []).getD b 0).testBit a) := rfl
 have h2b : (2 : Nat) ^ b < 256 := Nat.lt_of_lt_of_le (Nat.pow_lt_pow_right (by decide : 1 < 2) hb) (by decide)
 have haf : bOr .u8 (((L.getD m []).getD b 0 : Nat) : Int) (bShl .u8 1 (b : Int)) = ((afterC (L.getD m []) b : Nat) : Int) := by rw [shl8 hb, or8 hbl h2b]; rfl
 have hall := after_lt hc hb
 have hset0 : L.set m (L.getD m []) = L := Go.AM.set_getD_self hm []
 generalize hC : L.getD m [] = C at *
 generalize hV : afterC C b = V at *
 refine Upd.of_body (rs := [.tmp 6]) Tryd.func82 rfl Tryd.ntmps82 rfl (by simp) ?_
 intro k0 k hk0 hk1
 generalize hQr : retQ _ _ _ = Qr
 -- block 1
 refine AW.so 100 (fun _ => none) [0,1,2] [0] (@Nat.mul_one) ?_
 refine AW.seq fun K1 hK1 => ?_
 refine AW.so 100 (fun _ => none) [0,1,2,22] [0] (e4 @Nat.mul_one @hg @hgb @hbit) ?_
 repeat with_reducible refine cj ?_ ?_
 all_goals try first | omega | (intros; (repeat' apply And.intro) <;> first | assumption | omega | decide) | (intro hgd; exact absurd hgd (by decide)) | rfl | (simp only [go_sem, reduceIte, reduceCtorEq, zA, zM, zE, zL, zD, zS, zP, zB, zI, zR, Nat.mul_one, hg, hgb, hbit]; done) | (intro _hgd; simp_all [go_sem]; done)
 refine AW.cn ?_ ?_
 ·intro hb
  refine AW.so 100 (fun _ => none) [6] [0] (@Nat.mul_one) ?_
  -- ret 1
  rw [← hQr]
  refine AW.rt (@Nat.mul_one) ?_
  refine ⟨[(0, 0, false)], ?_⟩
  have hx : badC C a b = true := by rw [hbad, or_iff hb]
  simp only [hx, go_sem, reduceIte, zE, ren_cls]
 ·intro hb
  have hnb : badC C a b = false := by rw [hbad]; exact nor_iff hb
  have hcp : cputC C a b = cputL C a V 8 := by unfold cputC; rw [hV]
  refine AW.skip ?_
  refine hK1 _ _ _ ?_; clear hK1
  refine AW.sd mixed 100 (fun _ => none) [0,1,7] [0] (e4 @Nat.mul_one @hg @hgb @haf) ?_
  refine AW.seq fun K2 hK2 => ?_
  refine AW.so 100 (fun _ => none) [0,1,7,31] [0] (@Nat.mul_one) ?_
  refine AW.block ?_
  refine AW.loopE (fun mm ee ss kk => ∃ (k v2 : Nat), 8 - k = mm ∧ ee = [(0, .ptr ⟨0, g, none⟩ m 0), (1, .int .i64 a), (7, .int .u8 V), (31, .int .i64 k)] ∧ ss = [(0, some ⟨g, v2, 8, clsT (L.set m (cputL C a V k))⟩)] ∧ (k ≤ 8)) ?_ ?_
  -- init 1
  ·refine ⟨_, 0, ?_, rfl, ?henv, ?hstore, ?hst⟩
   case henv =>
    repeat' (first | rfl | refine env_cons ?_ ?_ | refine st_cons ?_ ?_ ?_ ?_ | refine int_eq ?_ | refine bool_eq ?_ | refine rsl_eq ?_ | refine osl_eq ?_ | refine sl_eq ?_ ?_ ?_ | refine ptr_eq ?_ ?_ ?_ | refine agg_eq ?_ | refine es_cons ?_ ?_ | refine row_cons ?_ ?_)
    all_goals (first | (simp; done) | omega | (simp; omega))
   case hstore =>
    repeat' (first | rfl | refine env_cons ?_ ?_ | refine st_cons ?_ ?_ ?_ ?_ | refine int_eq ?_ | refine bool_eq ?_ | refine rsl_eq ?_ | refine osl_eq ?_ | refine sl_eq ?_ ?_ ?_ | refine ptr_eq ?_ ?_ ?_ | refine agg_eq ?_ | refine es_cons ?_ ?_ | refine row_cons ?_ ?_)
    all_goals (rw [show cputL C a V 0 = C from rfl, hset0])
   case hst =>
    first | trivial | omega | (simp; done) | (simp; omega)
  rintro mm ee ss kk ⟨k, v2, rfl, rfl, rfl, hI⟩
  generalize hQl1 : thenQ _ _ = Ql1
  have hcK := cputL_cls hc (a := a) hall k hI
  have hKl := hcK.1
  have hKb := hcK.2 k
  have hxl : (clsT (L.set m (cputL C a V k))).getD m [] = clsV (cputL C a V k) := by rw [clsT_get (by simpa using hm), Go.AM.getD_set_eq hm]
  have hll : (clsT (L.set m (cputL C a V k))).length = L.length := by simp [clsT]
  have hnx : cputL C a V (k + 1) = (cputL C a V k).set k (cputR a V k ((cputL C a V k).getD k 0)) := rfl
  refine AW.so 100 (fun _ => none) [0,1,7,31,32] [0] (@Nat.mul_one) ?_
  refine AW.seq fun K3 hK3 => ?_
  refine AW.cn ?_ ?_
  ·intro hb
   have hgk := clsV_get (c := cputL C a V k) (i := k) (by omega)
   have hbk := bit8 hKb ha
   generalize hK : cputL C a V k = K at *
   refine AW.skip ?_
   refine hK3 _ _ _ ?_; clear hK3
   refine AW.seq fun K4 hK4 => ?_
   refine AW.block ?_
   refine AW.so 100 (fun _ => none) [0,1,7,8,31] [0] (@Nat.mul_one) ?_
   refine AW.so 100 (fun _ => none) [0,1,7,8,31,47] [0] (e4 @Nat.mul_one @hxl @hgk @hbk) ?_
   repeat with_reducible refine cj ?_ ?_
   all_goals try first | omega | (intros; (repeat' apply And.intro) <;> first | assumption | omega | decide) | (intro hgd; exact absurd hgd (by decide)) | rfl | (simp only [go_sem, reduceIte, reduceCtorEq, zA, zM, zE, zL, zD, zS, zP, zB, zI, zR, Nat.mul_one, hxl, hgk, hbk]; done) | (intro _hgd; simp_all [go_sem]; done)
   refine AW.cn ?_ ?_
   ·intro hb
    have hor := or8 hKb hall
    have hr : cputR a V k (K.getD k 0) = K.getD k 0 ||| V := by unfold cputR; rw [if_pos (or_iff hb)]
    refine AW.rd mixed 100 (fun _ => none) [0,1,7,31] [0] (e4 @Nat.mul_one @hxl @hgk @hor) ?_
    refine hK4 _ _ _ ?_; clear hK4
    refine AW.ro 100 (fun _ => none) [0,1,7,31] [0] (@Nat.mul_one) ?_
    -- again 1
    rw [← hQl1]; change Exists _
    refine ⟨_, ?hm, k + 1, ?_, rfl, ?henv, ?hstore, ?hst⟩
    case henv =>
     repeat' (first | rfl | refine env_cons ?_ ?_ | refine st_cons ?_ ?_ ?_ ?_ | refine int_eq ?_ | refine bool_eq ?_ | refine rsl_eq ?_ | refine osl_eq ?_ | refine sl_eq ?_ ?_ ?_ | refine ptr_eq ?_ ?_ ?_ | refine agg_eq ?_ | refine es_cons ?_ ?_ | refine row_cons ?_ ?_)
     all_goals (first | (simp; done) | omega | (simp; omega))
    case hstore =>
     repeat' (first | rfl | refine env_cons ?_ ?_ | refine st_cons ?_ ?_ ?_ ?_ | refine int_eq ?_ | refine bool_eq ?_ | refine rsl_eq ?_ | refine osl_eq ?_ | refine sl_eq ?_ ?_ ?_ | refine ptr_eq ?_ ?_ ?_ | refine agg_eq ?_ | refine es_cons ?_ ?_ | refine row_cons ?_ ?_)
     all_goals (first | rw [clsV_set, clsT_set, List.set_set, hnx, hr] | rw [hnx])
    case hst =>
     first | trivial | omega | (simp; done) | (simp; omega)
    case hm => omega
   ·intro hb
    have hr : cputR a V k (K.getD k 0) = K.getD k 0 := by unfold cputR; rw [if_neg (by rw [nor_iff hb]; decide)]
    rw [hr, Go.AM.set_getD_self (by omega)] at hnx
    refine AW.skip ?_
    refine hK4 _ _ _ ?_; clear hK4
    refine AW.ro 100 (fun _ => none) [0,1,7,31] [0] (@Nat.mul_one) ?_
    -- again 1
    rw [← hQl1]; change Exists _
    refine ⟨_, ?hm, k + 1, ?_, rfl, ?henv, ?hstore, ?hst⟩
    case henv =>
     repeat' (first | rfl | refine env_cons ?_ ?_ | refine st_cons ?_ ?_ ?_ ?_ | refine int_eq ?_ | refine bool_eq ?_ | refine rsl_eq ?_ | refine osl_eq ?_ | refine sl_eq ?_ ?_ ?_ | refine ptr_eq ?_ ?_ ?_ | refine agg_eq ?_ | refine es_cons ?_ ?_ | refine row_cons ?_ ?_)
     all_goals (first | (simp; done) | omega | (simp; omega))
    case hstore =>
     repeat' (first | rfl | refine env_cons ?_ ?_ | refine st_cons ?_ ?_ ?_ ?_ | refine int_eq ?_ | refine bool_eq ?_ | refine rsl_eq ?_ | refine osl_eq ?_ | refine sl_eq ?_ ?_ ?_ | refine ptr_eq ?_ ?_ ?_ | refine agg_eq ?_ | refine es_cons ?_ ?_ | refine row_cons ?_ ?_)
     all_goals (first | rw [clsV_set, clsT_set, List.set_set, hnx, hr] | rw [hnx])
    case hst =>
     first | trivial | omega | (simp; done) | (simp; omega)
    case hm => omega
  ·intro hb
   -- exit 0
   refine AW.kx [] [0] ?_
   rw [← hQl1]
   refine hK2 _ _ _ ?_; clear hK2
   refine AW.so 100 (fun _ => none) [6] [0] (@Nat.mul_one) ?_
   -- ret 2
   rw [← hQr]
   refine AW.rt (@Nat.mul_one) ?_
   refine ⟨[(0, 0, false)], ?_⟩
   obtain rfl : k = 8 := by omega
   simp only [hnb, hcp, Bool.false_eq_true, go_sem, reduceIte, zE, ren_cls]
end Go.Proofs.D

/- A root that a cell names is cut to what the cell sees; an owned inner slice becomes a root that the cell names. -/
namespace Go.AM

theorem set_cell_facts {es : List (List AV)} {i o : Nat} (hi : i < es.length) (ho : o < (es.getD i []).length) (a : AV) {Φ : Nat → Nat → AV → AV → Prop} (hΦ : Φ i o ((es.getD i []).getD o .any) a) :
    ∀ i', i' < es.length → ((es.set i ((es.getD i []).set o a)).getD i' []).length = (es.getD i' []).length ∧ ∀ j, ((es.set i ((es.getD i []).set o a)).getD i' []).getD j .any = (es.getD i' []).getD j .any ∨ Φ i' j ((es.getD i' []).getD j .any) (((es.set i ((es.getD i []).set o a)).getD i' []).getD j .any) := by
  intro i' hi'
  by_cases hii : i = i'
  · subst hii
    rw [Go.AM.getD_set_eq hi]
    refine ⟨by simp, fun j => ?_⟩
    by_cases hj : o = j
    · subst hj; rw [Go.AM.getD_set_eq ho]; exact .inr hΦ
    · rw [Go.AM.getD_set_ne hj]; exact .inl rfl
  · rw [Go.AM.getD_set_ne hii]; exact ⟨rfl, fun j => .inl rfl⟩

def trimP (s : Store) (pid i o k : Nat) (K : Store → Prop) : Prop :=
  match sget s pid with
  | some R => match (R.es.getD i []).getD o .any with
    | .sl ⟨d, gd, none⟩ 0 len _ => match sget s d with
      | some D => D.gen = gd ∧ R.sz ≠ mapSz ∧ D.sz ≠ mapSz ∧ d ≠ pid ∧ len ≤ D.es.length ∧ i < R.es.length ∧ o < (R.es.getD i []).length ∧ o < R.sz ∧
          K ((pid, some ⟨R.gen, R.ver, R.sz, R.es.set i ((R.es.getD i []).set o (.sl ⟨d, k, none⟩ 0 len none))⟩) :: (d, some ⟨k, k, D.sz, D.es.take len⟩) :: s)
      | none => False
    | _ => False
  | none => False

theorem AW.trimK {P : Program} {n : Nat} {c : Code} {Q : AX → Post} {e : Env} {s : Store} {k : Nat} (pid i o : Nat) (h : trimP s pid i o k fun s' => AW P n c Q e s' (k + 1)) : AW P n c Q e s k := by
  unfold trimP at h
  split at h
  case h_2 => exact h.elim
  rename_i R hR
  split at h
  case h_2 => exact h.elim
  rename_i d gd len kc hcell
  split at h
  case h_2 => exact h.elim
  rename_i D hD
  obtain ⟨hgd, hRz, hDz, hne, hlen, hi, ho, hos, hK⟩ := h
  intro x0 ρ a w hg hst
  have hpD : pcontent s (d, none) = some (D.sz, D.es) := by rw [pcontent_of_root hD]
  have hget : ∀ i', i' < (D.es.take len).length → (D.es.take len).getD i' [] = D.es.getD i' [] := fun i' h => by
    have h' : i' < len := by simp at h; omega
    simp [List.getD_eq_getElem?_getD, h']
  have h1 := hst.ok.reroot k clk_fresh.1 d D.sz hDz (D.es.take len) (ρ (d, none)) w
    (fun i' o' sz' q e => by
      have hin := (osl_in e).1
      rw [hget i' hin] at e
      rw [show (⟨ρ, s, clk k, w, x0.F⟩ : Cx).s = s from rfl, pcontent_of_root hD]
      exact inner_of e)
    (fun e he => hst.ok.lens _ _ _ hpD hDz e (List.mem_of_mem_take he)) (Nat.le_refl _) (fun _ _ _ => rfl) (fun _ _ => rfl)
    (by
      cases hρ : ρ (d, none) with
      | none =>
        have : D.es = [] := hst.ok.nils _ _ _ hpD hρ
        simp [this]
      | some bb =>
        obtain ⟨b, base⟩ := bb
        refine ⟨.inr ⟨_, base, hpD, hρ⟩, ?_⟩
        obtain ⟨cs, T, g1, g2, g3⟩ := (hst.ok.rows _ _ _ _ _ hpD hρ).cells hDz
        refine ⟨cs, T, g1, ?_, fun i' j hi' hj => ?_⟩
        · have : (D.es.take len).length * D.sz ≤ D.es.length * D.sz := Nat.mul_le_mul_right _ (by simp; omega)
          omega
        · rw [hget i' hi']
          exact g3 i' j (by simp at hi'; omega) hj) rfl rfl rfl
  have hR' : sget ((d, some ⟨k, k, D.sz, D.es.take len⟩) :: s) pid = some R := by rw [sget_cons, if_neg hne]; exact hR
  have h2 := h1.ok.recellG (pid := pid) (R := R) (es' := R.es.set i ((R.es.getD i []).set o (.sl ⟨d, k, none⟩ 0 len none))) hR' hRz (by simp) (by
    refine set_cell_facts hi ho _ (Φ := fun i' j a a' => notOsl a ∧ notOsl a' ∧ ∀ u, cellAt _ pid R.sz i' j u → Rel _ a' u) ?_
    refine ⟨by rw [hcell]; trivial, trivial, fun u hu => ?_⟩
    have hu' : cellAt ⟨ρ, s, clk k, w, x0.F⟩ pid R.sz i o u := by
      obtain ⟨b, base, cs, T, a1, a2, a3⟩ := hu
      exact ⟨b, base, cs, T, by rw [← a1]; exact (upd_ne _ _ (fun e => hne (by have := congrArg Prod.fst e; exact this.symm))).symm, a2, a3⟩
    have hr := hst.ok.cellAt_rel hR hRz hu' hi hos (by rw [hcell]; trivial)
    rw [hcell] at hr
    obtain ⟨a1, cap, rfl, _, _, hh⟩ := hr.sl_inv
    have hcD : content s ⟨d, gd, none⟩ = some (D.sz, D.es) := content_iff.2 ⟨by unfold rcontent; simp [hD, hgd], hDz⟩
    obtain ⟨_, hH⟩ := hh _ _ hcD
    refine .sl _ _ _ _ _ _ (by simp) ⟨.inr rfl, by simp⟩ fun sz' es hc => ?_
    have hc := (content_iff.1 hc).1
    simp only [rcontent, sget_cons, if_true] at hc
    simp only [Option.some.injEq, Prod.mk.injEq] at hc
    obtain ⟨rfl, rfl⟩ := hc
    refine ⟨by simp; omega, ?_⟩
    simp only [Ref.pl, Option.map_none, upd_self]
    simpa [Ref.pl] using hH)
  have h3 := h2.ok.goes_grow (s' := (pid, some ⟨R.gen, R.ver, R.sz, R.es.set i ((R.es.getD i []).set o (.sl ⟨d, k, none⟩ 0 len none))⟩) :: (d, some ⟨k, k, D.sz, D.es.take len⟩) :: s) (c' := clk (k + 1)) (w' := w) (fun _ _ h => h) clk_succ (.refl _ _)
  exact hK x0 _ a w (hg.trans (h1.trans (h2.trans h3))) ⟨h3.ok, hst.size, hst.defers, fun t' => (hst.env t').mono (h1.trans (h2.trans h3)).le⟩

def promoteP (s : Store) (pid i o id k : Nat) (K : Store → Prop) : Prop :=
  match sget s pid with
  | some R => match (R.es.getD i []).getD o .any with
    | .osl sz q => R.sz ≠ mapSz ∧ sz ≠ mapSz ∧ id ≠ pid ∧ o < R.sz ∧
        K ((pid, some ⟨R.gen, k, R.sz, R.es.set i ((R.es.getD i []).set o (.sl ⟨id, k, none⟩ 0 q.length none))⟩) :: (id, some ⟨k, k, sz, q⟩) :: s)
    | _ => False
  | none => False

theorem AW.promoteK {P : Program} {n : Nat} {c : Code} {Q : AX → Post} {e : Env} {s : Store} {k : Nat} (pid i o id : Nat) (h : promoteP s pid i o id k fun s' => AW P n c Q e s' (k + 1)) : AW P n c Q e s k := by
  unfold promoteP at h
  split at h
  case h_2 => exact h.elim
  rename_i R hR
  split at h
  case h_2 => exact h.elim
  rename_i sz q hcell
  obtain ⟨hRz, hz0, hne, hos, hK⟩ := h
  intro x0 ρ a w hg hst
  have hin := osl_in hcell
  have h1 := hst.ok.promote k clk_fresh.1 (id := id) hR hcell hRz hz0 hne
  have hpR : pcontent s (pid, none) = some (R.sz, R.es) := by rw [pcontent_of_root hR]
  have hpq : pcontent s (pid, some (i, o)) = some (sz, q) := by rw [pcontent_of_root hR]; exact inner_of hcell
  have h2 := h1.ok.recellG (pid := pid) (R := ⟨R.gen, k, R.sz, R.es.set i ((R.es.getD i []).set o .any)⟩) (es' := R.es.set i ((R.es.getD i []).set o (.sl ⟨id, k, none⟩ 0 q.length none)))
    (by rw [sget_cons, if_neg hne, sget_cons, if_pos rfl]) hRz (by simp) (by
    intro i' hi'
    simp only [List.length_set] at hi'
    simp only
    by_cases hii : i = i'
    · subst hii
      rw [Go.AM.getD_set_eq hin.1, Go.AM.getD_set_eq hin.1]
      refine ⟨by simp, fun j => ?_⟩
      by_cases hj : o = j
      · subst hj
        rw [Go.AM.getD_set_eq hin.2, Go.AM.getD_set_eq hin.2]
        refine .inr ⟨trivial, trivial, fun u hu => ?_⟩
        obtain ⟨b, base, cs, T, a1, a2, a3⟩ := hu
        have a1' : ρ (pid, none) = some (b, base) := by
          rw [← a1]; exact (upd_ne _ _ (fun e => hne (by have := congrArg Prod.fst e; exact this.symm))).symm
        obtain ⟨cs', T', g1, _, g3⟩ := (hst.ok.rows _ _ _ _ _ hpR a1').cells hRz
        rw [show (⟨ρ, s, clk k, w, x0.F⟩ : Cx).w = w from rfl] at g1
        simp only at a2
        rw [a2] at g1
        simp only [Option.some.injEq, Obj.cells.injEq] at g1
        obtain ⟨rfl, rfl, _⟩ := g1
        obtain ⟨u', e1, e2⟩ := g3 i o hin.1 hos
        rw [a3] at e1
        obtain rfl := Option.some.inj e1
        rw [hcell] at e2
        obtain ⟨_, hH⟩ := e2
        have hsl : ∃ ad cap, u = .slice ad q.length cap := by
          unfold Hdr at hH
          split at hH
          · obtain ⟨_, h0, ad, rfl⟩ := hH
            exact ⟨ad, 0, by rw [h0]⟩
          · obtain ⟨ad, cap, rfl, _⟩ := hH; exact ⟨ad, cap, rfl⟩
        obtain ⟨ad, cap, rfl⟩ := hsl
        refine .sl _ _ _ _ _ _ (by simp) ⟨.inr rfl, by simp⟩ fun sz' es hc => ?_
        have hc := (content_iff.1 hc).1
        simp only [rcontent, sget_cons, if_true] at hc
        simp only [Option.some.injEq, Prod.mk.injEq] at hc
        obtain ⟨rfl, rfl⟩ := hc
        refine ⟨by simp, ?_⟩
        simp only [Ref.pl, Option.map_none, upd_self]
        exact hH
      · rw [Go.AM.getD_set_ne hj, Go.AM.getD_set_ne hj]; exact .inl rfl
    · rw [Go.AM.getD_set_ne hii, Go.AM.getD_set_ne hii]; exact ⟨rfl, fun j => .inl rfl⟩)
  have h3 := h2.ok.goes_grow (s' := (pid, some ⟨R.gen, k, R.sz, R.es.set i ((R.es.getD i []).set o (.sl ⟨id, k, none⟩ 0 q.length none))⟩) :: (id, some ⟨k, k, sz, q⟩) :: s) (c' := clk (k + 1)) (w' := w) (fun id' R' h => by
    simp only [sget_cons] at h ⊢
    split
    · rename_i hh; rw [if_pos hh] at h; exact h
    · rename_i hh
      rw [if_neg hh] at h
      exact h) clk_succ (.refl _ _)
  exact hK x0 _ a w (hg.trans (h1.trans (h2.trans h3))) ⟨h3.ok, hst.size, hst.defers, fun t' => (hst.env t').mono (h1.trans (h2.trans h3)).le⟩

end Go.AM

namespace Go.Proofs.D
open Go.AM Go
set_option maxRecDepth 100000
set_option maxHeartbeats 2000000
def dS (st : List Nat) (P : List (Nat × Nat)) (m : Nat) (cl : List (List Nat)) (de : List (List (Nat × Nat))) (g0 v0 g1 v1 g2 v2 : Nat) : Store :=
 [(0, some ⟨g0, v0, 12, [stR st (.rsl 2 (prs P)) (.sl ⟨1, g1, none⟩ 0 cl.length none) (.sl ⟨2, g2, none⟩ 0 cl.length none) (.int .i64 m)]⟩), (1, some ⟨g1, v1, 8, clsT cl⟩), (2, some ⟨g2, v2, 1, dlT de⟩)]
theorem deal_u (st : List Nat) (hst : Cls st) (P : List (Nat × Nat)) (hP : ∀ x ∈ P, x.1 < 8 ∧ x.2 < 8) (hPl : P.length ≤ 100) (m : Nat) (hm : m ≤ 1000) : ∀ (f i : Nat), P.length - i < f → i ≤ P.length → ∀ (cl : List (List Nat)) (de : List (List (Nat × Nat))), DOk i cl de →
  ∀ (r : Option Dl), dealP m st (P.drop i) cl de = r → ∀ (g0 v0 g1 v1 g2 v2 : Nat),
  Upd Tryd.prog 55 (dS st P m cl de g0 v0 g1 v1 g2 v2) [.ptr ⟨0, g0, none⟩ 0 0, .int .i64 i] (fun _ => .bool r.isSome)
   (fun k => dS st P m (r.getD (cl, de)).1 (r.getD (cl, de)).2 g0 k k k k k) := by
 intro f
 induction f with
 | zero => intro i h; omega
 | succ f ih =>
 intro i hf hi cl de hok r hr g0 v0 g1 v1 g2 v2
 have hsl := hst.1
 have hpl := prs_len P
 have h8 := stR_at8 hsl
 have h9 := stR_at9 hsl
 have h10 := stR_at10 hsl
 have h11 := stR_at11 hsl
 have hs9 := stR_set9 hsl
 have hs10 := stR_set10 hsl
 have hde := hok.len
 have hle := hok.le
 have hclT := clsT_len cl
 have hdlT := dlT_len de
 unfold dS at *
 refine Upd.of_body (rs := [.tmp 4]) Tryd.func55 rfl Tryd.ntmps55 rfl (by simp) ?_
 intro k0 k hk0 hk1
 generalize hQr : retQ _ _ _ = Qr
 -- block 1
 refine AW.so 100 (fun _ => none) [0,1] [0,1,2] (e5 @h8 @h9 @h10 @h11 @hpl) ?_
 refine AW.seq fun K1 hK1 => ?_
 refine AW.so 100 (fun _ => none) [0,1,16] [0,1,2] (e5 @h8 @h9 @h10 @h11 @hpl) ?_
 refine AW.cn ?_ ?_
 ·intro hb
  rw [List.drop_of_length_le (by omega), dealP] at hr
  subst hr
  refine AW.so 100 (fun _ => none) [4] [0,1,2] (e5 @h8 @h9 @h10 @h11 @hpl) ?_
  -- ret 1
  rw [← hQr]
  refine AW.rt (e5 @h8 @h9 @h10 @h11 @hpl) ?_
  refine ⟨[(0, 0, false), (1, 1, true), (2, 2, true)], ?_⟩
  simp only [go_sem, reduceIte, zE, Option.getD_some, Option.isSome_some]
  decide
 ·intro hb
  obtain ⟨x, hx⟩ := getI (l := P) (j := i) (by omega)
  have hgx := prs_get hx
  have hxb := hP x (List.mem_of_getElem? hx)
  have hdr : P.drop i = x :: P.drop (i + 1) := by rw [List.drop_eq_getElem_cons (by omega)]; congr 1; exact (List.getElem?_eq_some_iff.1 hx).2
  rw [hdr, dealP_cons] at hr
  have hrec : ∀ (cl2 : List (List Nat)) (de2 : List (List (Nat × Nat))), DOk (i + 1) cl2 de2 → ∀ (rr : Option Dl), dealP m st (P.drop (i + 1)) cl2 de2 = rr → _ := fun cl2 de2 h2 rr hrr => ih (i + 1) (by omega) (by omega) cl2 de2 h2 rr hrr g0
  generalize hrc : dealP m st (P.drop (i + 1)) = rec at *
  refine AW.skip ?_
  refine hK1 _ _ _ ?_; clear hK1
  refine AW.so 100 (fun _ => none) [0,1,5] [0,1,2,105] (e2 @h8 (e5 @h9 @h10 @h11 @hpl @hgx)) ?_
  refine AW.seq fun K2 hK2 => ?_
  refine AW.so 100 (fun _ => none) [0,1,5,28,29] [0,1,2,105] (e5 @h8 @h9 @h10 @h11 @hpl) ?_
  refine AW.block ?_
  refine AW.loopE (fun mm ee ss kk => ∃ (k v0 g1 v1 g2 v2 g5 v5 : Nat), cl.length - k = mm ∧ ee = [(0, .ptr ⟨0, g0, none⟩ 0 0), (1, .int .i64 i), (5, .ptr ⟨105, g5, none⟩ 0 0), (28, .int .i64 cl.length), (29, .int .i64 k)] ∧ ss = [(0, some ⟨g0, v0, 12, [stR st (.rsl 2 (prs P)) (.sl ⟨1, g1, none⟩ 0 cl.length none) (.sl ⟨2, g2, none⟩ 0 cl.length none) (.int .i64 m)]⟩), (1, some ⟨g1, v1, 8, clsT cl⟩), (2, some ⟨g2, v2, 1, dlT de⟩), (105, some ⟨g5, v5, 2, [[.int .i64 x.1, .int .i64 x.2]]⟩)] ∧ (k ≤ cl.length ∧ dealF rec m st x cl de k = r)) ?_ ?_
  -- init 1
  ·exact ⟨_, 0, _, _, _, _, _, _, _, rfl, eD, eD, (⟨by omega, hr⟩)⟩
  rintro mm ee ss kk ⟨k, v0, g1, v1, g2, v2, g5, v5, rfl, rfl, rfl, hI⟩
  generalize hQl1 : thenQ _ _ = Ql1
  obtain ⟨hkl, hgo⟩ := hI
  refine AW.so 100 (fun _ => none) [0,1,5,28,29,30] [0,1,2,105] (e5 @h8 @h9 @h10 @h11 @hpl) ?_
  refine AW.seq fun K3 hK3 => ?_
  refine AW.cn ?_ ?_
  ·intro hb
   have hk : k < cl.length := by omega
   have hcl := hok.cls k hk
   have hgc := clsT_get hk
   have hat := clsV_at hcl.1
   have hf8 := fold8 hcl.1
   have hsp : ∀ cs : List AV, cs.length = (cl.getD k []).length → splice cs 0 (clsV (cl.getD k [])) = clsV (cl.getD k []) := fun cs h => splice_cls cs h
   have hclv := clsV_len (cl.getD k [])
   have hcle := hcl.1
   have hsc := clsV_sc (cl.getD k [])
   have hput := put_u cl k hk hcl x.2 x.1 hxb.2 hxb.1
   have hgd := dlT_get (de := de) (i := k) (by omega)
   have hs1 : ∀ v, ((dlT de).set k v).getD k [] = v := fun v => getD_set_eq (by rw [dlT_len]; omega) _ _
   have hrow := hok.rows k
   have hpq := prs_len (de.getD k [])
   have htk : (prs (de.getD k [])).take (de.getD k []).length = prs (de.getD k []) := List.take_of_length_le (by rw [hpq]; exact Nat.le_refl _)
   have happ := prs_app (de.getD k []) x
   have hpq2 : (prs (de.getD k [] ++ [x])).length = (de.getD k []).length + 1 := by rw [prs_len]; simp
   have htk2 := prs_take (de.getD k []) x
   have hadd : (dlT de).set k [.osl 2 (prs (de.getD k [] ++ [x]))] = dlT (addP de k x) := dlT_set _ _ _
   have hback : (dlT (addP de k x)).set k [.osl 2 (prs (de.getD k []))] = dlT de := by rw [dlT_set, addP_back (by omega)]
   have hst1 := hok.step hxb.1 hk
   have hgd2 : (dlT (addP de k x)).getD k [] = [.osl 2 (prs (de.getD k [] ++ [x]))] := by rw [dlT_get (by rw [addP_len]; omega), addP_at (by omega)]
   have hdl2 : (dlT (addP de k x)).length = de.length := by rw [dlT_len, addP_len]
   have hs2 : ∀ v, ((dlT (addP de k x)).set k v).getD k [] = v := fun v => getD_set_eq (by rw [hdl2]; omega) _ _
   have hC2 := cputC_cls hcl (a := x.2) hxb.1
   have hC2l := hC2.1
   have hc2 : (clsT (cl.set k (cputC (cl.getD k []) x.2 x.1))).getD k [] = clsV (cputC (cl.getD k []) x.2 x.1) := by rw [clsT_get (by simpa using hk), Go.AM.getD_set_eq hk]
   have hback1 : (clsT (cl.set k (cputC (cl.getD k []) x.2 x.1))).set k (clsV (cl.getD k [])) = clsT cl := by rw [clsT_set, List.set_set, Go.AM.set_getD_self hk]
   have hback0 : (clsT cl).set k (clsV (cl.getD k [])) = clsT cl := by rw [clsT_set, Go.AM.set_getD_self hk]
   have hcl2 : (cl.set k (cputC (cl.getD k []) x.2 x.1)).length = cl.length := by simp
   have hclv2 := clsV_len (cputC (cl.getD k []) x.2 x.1)
   have hrr := hrec _ _ hst1 _ rfl
   rw [hcl2, show ((i + 1 : Nat) : Int) = (i : Int) + 1 by omega] at hrr
   refine AW.skip ?_
   refine hK3 _ _ _ ?_; clear hK3
   refine AW.seq fun K4 hK4 => ?_
   refine AW.block ?_
   refine AW.so 100 (fun _ => none) [0,1,5,6,28,29] [0,1,2,105] (e5 @h8 @h9 @h10 @h11 @hpl) ?_
   refine AW.so 100 (fun _ => none) [0,1,5,6,7,28,29] [0,1,2,105,107] (e4 @h8 @h9 @h10 (e5 @h11 @hpl @hgc @hat (e5 @hf8 @hsc @hclv @hcle @hsp))) ?_
   refine AW.seq fun K5 hK5 => ?_
   refine AW.sd mixed 100 (fun ii => if ii = 10 then some (.upd [1] (fun kk => [(0, some ⟨g1, kk, 8, clsT (if badC (cl.getD k []) x.2 x.1 = true then cl else cl.set k (cputC (cl.getD k []) x.2 x.1))⟩)]) (fun _ => .bool (!badC (cl.getD k []) x.2 x.1))) else none) [0,1,5,6,7,28,29,49] [0,1,2,105,107] (e5 @h8 @h9 @h10 @h11 @hpl) ?_
   repeat with_reducible refine cj ?_ ?_
   all_goals try first | (exact hput _ _) | omega | exact chk (by kernel_rfl) | exact ent (by kernel_rfl)
   refine AW.cn ?_ ?_
   ·intro hb
    have hnb : badC (cl.getD k []) x.2 x.1 = false := by simpa using hb
    generalize hRR : rec (cl.set k (cputC (cl.getD k []) x.2 x.1)) (addP de k x) = rr at *
    refine AW.seq fun K6 hK6 => ?_
    refine AW.promoteK 2 k 0 300 ?_
    simp only [go_sem, promoteP, reduceIte, zE, hgd, hnb, Bool.false_eq_true, hpq]
    refine ⟨by decide, ?_⟩
    refine AW.regionD mixed 100 (fun _ => none) [0, 1, 5, 6, 7, 28, 29] [0, 1, 2, 105, 107, 300] ?_
    simp only [go_sem, reduceIte, reduceCtorEq, zA, zM, zE, zL, zD, zS, zP, zB, zI, zR, h8, h9, h10, h11, hpl, hdlT, hs1, hgd, hpq, htk, happ, List.set_set]
    repeat with_reducible refine cj ?_ ?_
    all_goals try first | omega | exact chk (by kernel_rfl) | (simp [scP, scalar]; done) | exact scP_words _ | exact scP_ints _ | exact scP_bools _
    refine hK6 _ _ _ ?_; clear hK6
    refine AW.adoptK 2 k 0 300 ?_
    simp only [go_sem, reduceIte, zE, hs1, hdlT, List.set_set, hadd, hpq2]
    refine ⟨noOsl_prs _, ?_⟩
    refine AW.keep [0, 1, 5, 6, 7, 28, 29] [0, 1, 2, 105, 107] ?_
    simp only [go_sem, reduceIte, zE]
    refine AW.seq fun K7 hK7 => ?_
    refine AW.so 100 (fun ii => if ii = 3 then some (.upd [0, 1, 2] (fun kk => [(0, some ⟨g0, kk, 12, [stR st (.rsl 2 (prs P)) (.sl ⟨1, kk, none⟩ 0 (rr.getD (cl.set k (cputC (cl.getD k []) x.2 x.1), addP de k x)).1.length none) (.sl ⟨2, kk, none⟩ 0 (rr.getD (cl.set k (cputC (cl.getD k []) x.2 x.1), addP de k x)).1.length none) (.int .i64 m)]⟩), (1, some ⟨kk, kk, 8, clsT (rr.getD (cl.set k (cputC (cl.getD k []) x.2 x.1), addP de k x)).1⟩), (2, some ⟨kk, kk, 1, dlT (rr.getD (cl.set k (cputC (cl.getD k []) x.2 x.1), addP de k x)).2⟩)]) (fun _ => .bool rr.isSome)) else none) [0,1,5,6,7,28,29,69] [0,1,2,105,107] (e5 @h8 @h9 @h10 @h11 @hpl) ?_
    repeat with_reducible refine cj ?_ ?_
    all_goals try first | (exact hrr _ _ _ _ _) | omega | exact ent (by kernel_rfl)
    refine AW.cn ?_ ?_
    ·intro hb
     obtain ⟨y, rfl⟩ := Option.isSome_iff_exists.1 hb
     have hG := dealF_some (m := m) (st := st) hk hnb hRR
     rw [hgo] at hG
     subst hG
     refine AW.so 100 (fun _ => none) [4] [0,1,2] (e5 @h8 @h9 @h10 @h11 @hpl) ?_
     -- ret 2
     rw [← hQl1, ← hQr]
     refine AW.rt (e5 @h8 @h9 @h10 @h11 @hpl) ?_
     refine ⟨[(0, 0, false), (1, 1, true), (2, 2, true)], ?_⟩
     simp only [go_sem, reduceIte, zE, Option.getD_some, Option.isSome_some]
     decide
    ·intro hb
     obtain rfl : rr = none := by simpa using hb
     have hG := dealF_none (m := m) (st := st) hk hnb hRR
     rw [hgo] at hG
     refine AW.skip ?_
     refine hK7 _ _ _ ?_; clear hK7
     simp only [Option.getD_none, hcl2]
     refine AW.promoteK 2 k 0 300 ?_
     simp only [go_sem, promoteP, reduceIte, zE, hgd2, hpq2]
     refine ⟨by decide, ?_⟩
     refine AW.rd mixed 100 (fun _ => none) [0,1,5,6,7,28,29] [0,1,2,105,107,300] (e2 @h8 (e5 @h9 @h10 @h11 @hpl (e5 @hdl2 @hs2 @hgd2 @hpq2 @List.set_set.{0}))) ?_
     refine hK5 _ _ _ ?_; clear hK5
     rw [show ((((de.getD k []).length + 1 : Nat) : Int) - 1).toNat = (de.getD k []).length by omega]
     refine AW.trimK 2 k 0 ?_
     simp only [go_sem, trimP, reduceIte, zE, hs2, hpq2, hdl2, List.set_set, htk2]
     repeat with_reducible refine cj ?_ ?_
     any_goals first | omega | decide | (rw [List.length_set]; omega)
     refine AW.adoptK 2 k 0 300 ?_
     simp only [go_sem, reduceIte, zE, hs2, hpq, hdl2, List.set_set, hback]
     refine ⟨noOsl_prs _, ?_⟩
     refine AW.keep [0, 1, 5, 6, 7, 28, 29] [0, 1, 2, 105, 107] ?_
     simp only [go_sem, reduceIte, zE]
     refine AW.rd mixed 100 (fun _ => none) [0,1,5,28,29] [0,1,2,105] (e5 @h8 @h9 @h10 @h11 (e5 @hpl @hgc @hat @hf8 (e5 @hsc @hclv @hcle @hsp (e5 @hc2 @hback1 @hback0 @hclv2 @hC2l)))) ?_
     refine hK4 _ _ _ ?_; clear hK4
     refine AW.ro 100 (fun _ => none) [0,1,5,28,29] [0,1,2,105] (e5 @h8 @h9 @h10 @h11 @hpl) ?_
     -- again 1
     rw [← hQl1]; change Exists _
     exact ⟨_, eO, k + 1, _, _, _, _, _, _, _, rfl, eD, eD, (⟨by omega, hG.symm⟩)⟩
   ·intro hb
    have hbd : badC (cl.getD k []) x.2 x.1 = true := by simpa using hb
    have hG := dealF_bad (rec := rec) (m := m) (st := st) (x := x) (de := de) hk hbd
    rw [hgo] at hG
    simp only [hbd, if_true]
    refine AW.skip ?_
    refine hK5 _ _ _ ?_; clear hK5
    refine AW.rd mixed 100 (fun _ => none) [0,1,5,28,29] [0,1,2,105] (e5 @h8 @h9 @h10 @h11 (e5 @hpl @hgc @hat @hf8 (e5 @hsc @hclv @hcle @hsp (e5 @hc2 @hback1 @hback0 @hclv2 @hC2l)))) ?_
    refine hK4 _ _ _ ?_; clear hK4
    refine AW.ro 100 (fun _ => none) [0,1,5,28,29] [0,1,2,105] (e5 @h8 @h9 @h10 @h11 @hpl) ?_
    -- again 1
    rw [← hQl1]; change Exists _
    exact ⟨_, eO, k + 1, _, _, _, _, _, _, _, rfl, eD, eD, (⟨by omega, hG.symm⟩)⟩
  ·intro hb
   obtain rfl : k = cl.length := by omega
   rw [dealF_end] at hgo
   -- exit 0
   refine AW.kx [0,1,5] [0,1,2,105] ?_
   rw [← hQl1]
   refine hK2 _ _ _ ?_; clear hK2
   refine AW.seq fun K8 hK8 => ?_
   refine AW.sd mixed 100 (fun _ => none) [0,1,5,110] [0,1,2,105] (e5 @h8 @h9 @h10 @h11 @hpl) ?_
   refine AW.cn ?_ ?_
   ·intro hb
    rw [if_pos (by omega)] at hgo
    subst hgo
    refine AW.so 100 (fun _ => none) [4] [0,1,2] (e5 @h8 @h9 @h10 @h11 @hpl) ?_
    -- ret 3
    rw [← hQr]
    refine AW.rt (e5 @h8 @h9 @h10 @h11 @hpl) ?_
    refine ⟨[(0, 0, false), (1, 1, true), (2, 2, true)], ?_⟩
    simp only [go_sem, reduceIte, zE, Option.getD_none, Option.isSome_none]
    decide
   ·intro hb
    rw [if_neg (by omega)] at hgo
    have hnc := newC_cls (x := x) hst hxb.1
    have hncl := hnc.1
    have hnw : (if badC st x.2 x.1 = true then [st] else [st].set 0 (cputC st x.2 x.1)) = [newC st x] := by unfold newC; split <;> rfl
    have hput := fun g v => put_u [st] 0 (by simp) hst x.2 x.1 hxb.2 hxb.1 g v
    simp only [List.getD_cons_zero, hnw] at hput
    have hg1 := hok.grow hst hxb.1
    have hrr := hrec _ _ hg1 _ rfl
    have hl2 : (cl ++ [newC st x]).length = cl.length + 1 := by simp
    rw [hl2, show ((i + 1 : Nat) : Int) = (i : Int) + 1 by omega] at hrr
    generalize hRR : rec (cl ++ [newC st x]) (de ++ [[x]]) = rr at *
    have hsta := stR_at hsl
    have hf8 := fold8 hsl
    have hsc := clsV_sc st
    have hclv := clsV_len st
    have hsp : ∀ cs : List AV, cs.length = st.length → splice cs 0 (clsV st) = clsV st := fun cs h => splice_cls cs h
    have hnat := clsV_at hncl
    have hnf8 := fold8 hncl
    have hnsc := clsV_sc (newC st x)
    have hnlv := clsV_len (newC st x)
    have hn8 := clsV_take hncl
    have hap := clsT_app cl (newC st x)
    have hctk : (clsT cl).take cl.length = clsT cl := List.take_of_length_le (by rw [clsT_len]; exact Nat.le_refl _)
    have hdtk : (dlT de).take cl.length = dlT de := List.take_of_length_le (by rw [dlT_len]; omega)
    have hct2 : (clsT (cl ++ [newC st x])).take cl.length = clsT cl := by rw [← hap, List.take_append_of_le_length (by rw [clsT_len]; exact Nat.le_refl _), hctk]
    have hdt2 : (dlT (de ++ [[x]])).take cl.length = dlT de := by rw [← dlT_app, List.take_append_of_le_length (by rw [dlT_len]; omega), hdtk]
    have hsl12 := stR_len hsl
    have hdn : (dlT de).length = cl.length := by omega
    have hag := rows_get hdn
    have has := rows_set hdn
    have hdap := dlT_app de [x]
    have hp1 := prs_one x
    have hnsp : ∀ cs : List AV, cs.length = (newC st x).length → splice cs 0 (clsV (newC st x)) = clsV (newC st x) := fun cs h => splice_cls cs h
    refine AW.skip ?_
    refine hK8 _ _ _ ?_; clear hK8
    refine AW.so 100 (fun _ => none) [0,1,5,8] [0,1,2,105,108] (e3 @h8 @h9 (e5 @h10 @h11 @hpl @hsta (e5 @hf8 @hsc @hclv @hsl @hsp))) ?_
    refine AW.so 100 (fun ii => if ii = 4 then some (.upd [108] (fun k9 => [(0, some ⟨kk + 30, k9, 8, [clsV (newC st x)]⟩)]) (fun _ => .bool (!badC st x.2 x.1))) else none) [0,1,5,8] [0,1,2,105,108] (e5 @h8 @h9 @h10 @h11 @hpl) ?_
    repeat with_reducible refine cj ?_ ?_
    all_goals try first | (exact hput _ _) | omega | exact ent (by kernel_rfl)
    refine AW.sd mixed 100 (fun _ => none) [0,1] [0,1,2,234] (e5 @h8 @h9 @h10 @h11 (e5 @hpl @hnat @hnf8 @hnsc (e5 @hnlv @hncl @hnsp @hn8 (e5 @hap @hctk @hdtk @hs9 @hs10)))) ?_
    repeat with_reducible refine cj ?_ ?_
    all_goals try first | (exact scP_cls _) | omega | exact chk (by kernel_rfl) | (simp [scP, scalar]; done) | exact scP_words _ | exact scP_ints _ | exact scP_bools _
    refine AW.adoptK 2 cl.length 0 234 ?_
    simp only [go_sem, reduceIte, zE, hag, has, ← hp1, hdap]
    refine ⟨rfl, noOsl_prs _, ?_⟩
    refine AW.keep [0, 1] [0, 1, 2] ?_
    simp only [go_sem, reduceIte, zE]
    refine AW.seq fun K9 hK9 => ?_
    refine AW.so 100 (fun ii => if ii = 3 then some (.upd [0, 1, 2] (fun kk => [(0, some ⟨g0, kk, 12, [stR st (.rsl 2 (prs P)) (.sl ⟨1, kk, none⟩ 0 (rr.getD (cl ++ [newC st x], de ++ [[x]])).1.length none) (.sl ⟨2, kk, none⟩ 0 (rr.getD (cl ++ [newC st x], de ++ [[x]])).1.length none) (.int .i64 m)]⟩), (1, some ⟨kk, kk, 8, clsT (rr.getD (cl ++ [newC st x], de ++ [[x]])).1⟩), (2, some ⟨kk, kk, 1, dlT (rr.getD (cl ++ [newC st x], de ++ [[x]])).2⟩)]) (fun _ => .bool rr.isSome)) else none) [0,144] [0,1,2] (e5 @h8 @h9 @h10 @h11 @hpl) ?_
    repeat with_reducible refine cj ?_ ?_
    all_goals try first | (exact hrr _ _ _ _ _) | omega | exact ent (by kernel_rfl)
    refine AW.cn ?_ ?_
    ·intro hb
     obtain ⟨y, rfl⟩ := Option.isSome_iff_exists.1 hb
     subst hgo
     refine AW.so 100 (fun _ => none) [4] [0,1,2] (e5 @h8 @h9 @h10 @h11 @hpl) ?_
     -- ret 4
     rw [← hQr]
     refine AW.rt (e5 @h8 @h9 @h10 @h11 @hpl) ?_
     refine ⟨[(0, 0, false), (1, 1, true), (2, 2, true)], ?_⟩
     simp only [go_sem, reduceIte, zE, Option.getD_some, Option.isSome_some]
     decide
    ·intro hb
     obtain rfl : rr = none := by simpa using hb
     subst hgo
     refine AW.skip ?_
     refine hK9 _ _ _ ?_; clear hK9
     simp only [Option.getD_none, hl2]
     refine AW.so 100 (fun _ => none) [0,9] [0,1,2] (e5 @h8 @h9 @h10 @h11 @hpl) ?_
     refine AW.sd mixed 100 (fun _ => none) [] [0,1,2] (e3 @h8 @h9 (e5 @h10 @h11 @hpl @hs9 @hs10)) ?_
     rw [show (((cl.length + 1 : Nat) : Int) - 1).toNat = cl.length by omega]
     refine AW.trimK 0 0 9 ?_
     simp only [go_sem, trimP, reduceIte, zE, h9, hs9, hct2, hsl12, clsT_len]
     repeat with_reducible refine cj ?_ ?_
     any_goals first | omega | decide
     refine AW.trimK 0 0 10 ?_
     simp only [go_sem, trimP, reduceIte, zE, h10, hs10, hdt2, hsl12, dlT_len]
     repeat with_reducible refine cj ?_ ?_
     any_goals first | omega | decide | (rw [List.length_append]; omega)
     refine AW.keep [] [0, 1, 2] ?_
     simp only [go_sem, reduceIte, zE]
     refine AW.so 100 (fun _ => none) [4] [0,1,2] (e5 @h8 @h9 @h10 @h11 @hpl) ?_
     -- ret 5
     rw [← hQr]
     refine AW.rt (e5 @h8 @h9 @h10 @h11 @hpl) ?_
     refine ⟨[(0, 0, false), (1, 1, true), (2, 2, true)], ?_⟩
     simp only [go_sem, reduceIte, zE, Option.getD_none, Option.isSome_none]
     decide
end Go.Proofs.D

namespace Go.Proofs.D.R
open Go.AM Go
set_option maxRecDepth 100000
set_option maxHeartbeats 1000000
theorem rwords_r (n : Int) (h0 : 0 ≤ n) (h1 : n ≤ 1000000) : Reads Tryd.prog 101 false [.int .i64 n] (.int .i64 (wordsN n)) := by
 have hw := wordsN_ref n
 have hd : 0 ≤ (n + 63).tdiv 64 ∧ (n + 63).tdiv 64 ≤ 1000064 := by rw [Int.tdiv_eq_ediv_of_nonneg (by omega)]; omega
 refine Reads.body (rs := [.tmp 2]) Tryd.func101 rfl Tryd.ntmps101 rfl (by simp) ?_
 generalize hQr : retQ _ _ _ = Qr
 -- block 1
 refine AW.sg [0] [] trivial ?_
 refine AW.sg [2] [] trivial ?_
 -- ret 1
 rw [← hQr]
 refine AW.rt trivial ?_
 exact Wk.of_eq (by rw [hw])
theorem rhas_r (n : Nat) (t : List (List Bool)) (hs : Sq n t) (hn : n ≤ 512) (i j : Nat) (hi : i < n) (hj : j < n) : Reads Tryd.prog 81 false [relB t, .int .i64 i, .int .i64 j] (.bool (atT t i j)) := by
 have hrl := hs.rowLen hi
 have hgt := tabR_get (t := t) (i := i) (by rw [hs.len]; exact hi)
 have htl := tabR_len t
 have hlen := hs.len
 have hat : atT t i j = (rowT t i).getD j false := rfl
 generalize hb : rowT t i = b at *
 have hwl := setW_len' b
 have hd := div64_rng (i := (j : Int)) (n := b.length) (by omega) (by omega)
 have hwn := wordsN_rng (n := (b.length : Int)) (by omega)
 have hgw := words_getD (l := setW b b.length) (i := ((j : Int).tdiv 64).toNat) (by omega)
 have hbt := bit_hasW (setW_ok b) (i := (j : Int)) (by omega)
 rw [hasW_row (by omega), ← hat] at hbt
 unfold relB
 refine Reads.body (rs := [.tmp 6]) Tryd.func81 rfl Tryd.ntmps81 rfl (by simp) ?_
 generalize hQr : retQ _ _ _ = Qr
 -- block 2
 refine AW.sg [1,2,3] [3] trivial ?_
 refine AW.sg [6] [] (e3 @hgt @rowB.eq_1 @hgw) ?_
 -- ret 1
 rw [← hQr]
 refine AW.rt trivial ?_
 exact Wk.of_eq (by rw [hbt])
theorem set_getD_self {α : Type} (l : List α) (i : Nat) (d : α) : l.set i (l.getD i d) = l := by
 refine List.ext_getElem? fun k => ?_
 rw [List.getElem?_set]
 split
 ·rename_i h; subst h
  split
  ·rename_i h2; simp [List.getD_eq_getElem?_getD, h2]
  ·rename_i h2; rw [List.getElem?_eq_none (by omega)]
 ·rfl
/-- A row takes the members of another one up to a word. -/
def orUpto (A B : List Int) (j : Nat) : List Int := List.zipWith (bOr .u64) (A.take j) (B.take j) ++ A.drop j
theorem orUpto_zero (A B : List Int) : orUpto A B 0 = A := by simp [orUpto]
theorem orUpto_len {A B : List Int} (h : A.length = B.length) (j : Nat) : (orUpto A B j).length = A.length := by simp [orUpto]; omega
theorem orUpto_all {A B : List Int} (h : A.length = B.length) {j : Nat} (hj : A.length ≤ j) : orUpto A B j = List.zipWith (bOr .u64) A B := by
 unfold orUpto; rw [List.take_of_length_le hj, List.take_of_length_le (by omega), List.drop_of_length_le hj]; simp
theorem orUpto_get {A B : List Int} (h : A.length = B.length) {j k : Nat} (hk : j ≤ k) : (orUpto A B j).getD k 0 = A.getD k 0 := by
 unfold orUpto
 by_cases hj : j ≤ A.length
 ·have hl : (List.zipWith (bOr .u64) (A.take j) (B.take j)).length = j := by simp; omega
  rw [List.getD_eq_getElem?_getD, List.getElem?_append_right (by omega), hl, List.getElem?_drop, List.getD_eq_getElem?_getD]
  congr 2; omega
 ·have hl : (List.zipWith (bOr .u64) (A.take j) (B.take j)).length = A.length := by simp; omega
  rw [List.drop_of_length_le (by omega), List.append_nil, Go.AM.getD_out (by omega), Go.AM.getD_out (by omega)]
theorem orUpto_succ {A B : List Int} (h : A.length = B.length) {j : Nat} (hj : j < A.length) : orUpto A B (j + 1) = (orUpto A B j).set j (bOr .u64 (A.getD j 0) (B.getD j 0)) := by
 unfold orUpto
 have hl : (List.zipWith (bOr .u64) (A.take j) (B.take j)).length = j := by simp; omega
 rw [List.set_append_right _ _ (by omega), hl, Nat.sub_self, List.drop_eq_getElem_cons hj, List.set_cons_zero, List.take_succ_eq_append_getElem hj, List.take_succ_eq_append_getElem (by omega), List.zipWith_append (by simp; omega)]
 simp [List.getD_eq_getElem?_getD, hj, show j < B.length by omega]
theorem merge_s (n : Nat) (t : List (List Bool)) (hs : Sq n t) (hn : n ≤ 512) (i q : Nat) (hi : i < n) (hq : q < n) (g v : Nat) (kc kd : Option Nat) :
  Upd Tryd.prog 99 [(0, some ⟨g, v, 2, tabO t⟩)] [.agg [.int .i64 n, .sl ⟨0, g, some (i, 1, v)⟩ 0 (wordsN n).toNat kc], .agg [.int .i64 n, .sl ⟨0, g, some (q, 1, v)⟩ 0 (wordsN n).toNat kd]] (fun _ => .tup []) (fun k => [(0, some ⟨g, k, 2, tabO (t.set i (List.zipWith (· || ·) (rowT t i) (rowT t q)))⟩)]) := by
 have hrl := hs.rowLen hi
 have hrq := hs.rowLen hq
 have hlen := hs.len
 have hts := tabO_set t i
 have htl := tabO_len t
 have hz := zipW_setW bitOp_or (a := rowT t i) (b := rowT t q) (by omega)
 generalize ha : rowT t i = a at *
 generalize hb' : rowT t q = b at *
 have hla := setW_len' a
 have hlb := setW_len' b
 have hwn := wordsN_rng (n := (n : Int)) (by omega)
 have hro : ∀ W, rowO (List.zipWith (· || ·) a b) = [.int .i64 n, .osl 1 (words W)] ↔ words (setW (List.zipWith (· || ·) a b) a.length) = words W := fun W => by
  have e : (List.zipWith (· || ·) a b).length = a.length := by simp; omega
  unfold rowO; rw [e, hrl]; simp
 have hiq : i = q → a = b := fun e => by rw [← ha, ← hb', e]
 rw [show (a.length : Int) = n by omega] at hla
 rw [show (b.length : Int) = n by omega] at hlb
 have hAB' : a = b → setW a a.length = setW b b.length := fun e => by rw [e]
 have hgq0 : (tabO t).getD q [] = [.int .i64 n, .osl 1 (words (setW b b.length))] := by rw [tabO_get (by omega), hb', rowO, hrq]
 have hg0 : (tabO t).getD i [] = [.int .i64 n, .osl 1 (words (setW a a.length))] := by rw [tabO_get (by omega), ha, rowO, hrl]
 generalize hA : setW a a.length = A at *
 generalize hB : setW b b.length = B at *
 have hAB : A.length = B.length := by omega
 have hset : ∀ W, ((tabO t).set i [.int .i64 n, .osl 1 (words W)]).getD i [] = [.int .i64 n, .osl 1 (words W)] := fun W => Go.AM.getD_set_eq (by omega) _ _
 have hfix : (tabO t).set i [.int .i64 n, .osl 1 (words A)] = tabO t := by
  rw [← hg0]; exact set_getD_self _ _ _
 have hC : ∀ j, j < B.length → ∃ C : List Int, ((tabO t).set i [.int .i64 n, .osl 1 (words (orUpto A B j))]).getD q [] = [.int .i64 n, .osl 1 (words C)] ∧ C.length = B.length ∧ C.getD j 0 = B.getD j 0 := fun j hj => by
  by_cases e : i = q
  ·refine ⟨orUpto A B j, by rw [← e]; exact hset _, by rw [orUpto_len hAB]; exact hAB, ?_⟩
   rw [orUpto_get hAB (Nat.le_refl _), hAB' (hiq e)]
  ·exact ⟨B, by rw [Go.AM.getD_set_ne e, hgq0], rfl, rfl⟩
 have hgq1 : ((tabO t).set i [.int .i64 n, .osl 1 (words (orUpto A B 0))]).getD q [] = [.int .i64 n, .osl 1 (words B)] := by rw [orUpto_zero, hfix, hgq0]
 refine Upd.of_body (rs := []) Tryd.func99 rfl Tryd.ntmps99 rfl (by simp) ?_
 intro k0 k hk0 hk1
 generalize hQr : retQ _ _ _ = Qr
 -- block 4
 refine AW.so 100 (fun _ => none) [2,3] [0,102,103] trivial ?_
 refine AW.so 100 (fun _ => none) [2,7,8,9] [0,102] (@hgq0) ?_
 refine AW.block ?_
 refine AW.loopE (fun mm ee ss kk => ∃ (j g2 v2 : Nat), B.length - j = mm ∧ ee = [(2, .ptr ⟨102, g2, none⟩ 0 0), (7, .sl ⟨0, g, some (q, 1, v)⟩ 0 (wordsN n).toNat kd), (8, .int .i64 (wordsN n).toNat), (9, .int .i64 (j : Nat))] ∧ ss = [(0, some ⟨g, v, 2, (tabO t).set i [.int .i64 n, .osl 1 (words (orUpto A B j))]⟩), (102, some ⟨g2, v2, 2, [[.int .i64 n, .sl ⟨0, g, some (i, 1, v)⟩ 0 (wordsN n).toNat kc]]⟩)] ∧ (j ≤ B.length)) ?_ ?_
 -- init 1
 ·refine ⟨_, 0, ?_, ?_, rfl, ?henv, ?hstore, ?hst⟩
  case henv =>
   repeat' (first | rfl | refine env_cons ?_ ?_ | refine st_cons ?_ ?_ ?_ ?_ | refine int_eq ?_ | refine bool_eq ?_ | refine rsl_eq ?_ | refine osl_eq ?_ | refine sl_eq ?_ ?_ ?_ | refine ptr_eq ?_ ?_ ?_ | refine agg_eq ?_ | refine es_cons ?_ ?_ | refine row_cons ?_ ?_)
   all_goals (first | (simp; done) | omega | (simp; omega))
  case hstore =>
   repeat' (first | rfl | refine env_cons ?_ ?_ | refine st_cons ?_ ?_ ?_ ?_ | refine int_eq ?_ | refine bool_eq ?_ | refine rsl_eq ?_ | refine osl_eq ?_ | refine sl_eq ?_ ?_ ?_ | refine ptr_eq ?_ ?_ ?_ | refine agg_eq ?_ | refine es_cons ?_ ?_ | refine row_cons ?_ ?_)
   all_goals (first | (rw [orUpto_zero, hfix]; done) | (simp; done))
  case hst =>
   first | trivial | omega | (simp; done) | (simp; omega)
 rintro mm ee ss kk ⟨j, g2, v2, rfl, rfl, rfl, hI⟩
 generalize hQl1 : thenQ _ _ = Ql1
 refine AW.so 100 (fun _ => none) [2,7,8,9,10] [0,102] trivial ?_
 refine AW.seq fun K1 hK1 => ?_
 refine AW.cn ?_ ?_
 ·intro hb
  obtain ⟨C, hC1, hC2, hC3⟩ := hC j (by omega)
  have hgb := words_getD (l := C) (i := j) (by omega)
  rw [hC3] at hgb
  have hol := orUpto_len hAB j
  have hgo := words_getD (l := orUpto A B j) (i := j) (by omega)
  rw [orUpto_get hAB (Nat.le_refl _)] at hgo
  have hos := orUpto_succ hAB (j := j) (by omega)
  refine AW.skip ?_
  refine hK1 _ _ _ ?_; clear hK1
  refine AW.seq fun K2 hK2 => ?_
  refine AW.block ?_
  refine AW.so 100 (fun _ => none) [2,4,5,7,8,9] [0,102] (e2 @hC1 @hgb) ?_
  refine AW.ro 100 (fun _ => none) [2,7,8,9] [0,102] (e3 @hset @hgo @List.set_set.{0}) ?_
  refine hK2 _ _ _ ?_; clear hK2
  refine AW.ro 100 (fun _ => none) [2,7,8,9] [0,102] trivial ?_
  -- again 1
  rw [← hQl1]; change Exists _
  refine ⟨_, ?hm, j + 1, ?_, ?_, rfl, ?henv, ?hstore, ?hst⟩
  case henv =>
   repeat' (first | rfl | refine env_cons ?_ ?_ | refine st_cons ?_ ?_ ?_ ?_ | refine int_eq ?_ | refine bool_eq ?_ | refine rsl_eq ?_ | refine osl_eq ?_ | refine sl_eq ?_ ?_ ?_ | refine ptr_eq ?_ ?_ ?_ | refine agg_eq ?_ | refine es_cons ?_ ?_ | refine row_cons ?_ ?_)
   all_goals (first | (simp; done) | omega | (simp; omega))
  case hstore =>
   repeat' (first | rfl | refine env_cons ?_ ?_ | refine st_cons ?_ ?_ ?_ ?_ | refine int_eq ?_ | refine bool_eq ?_ | refine rsl_eq ?_ | refine osl_eq ?_ | refine sl_eq ?_ ?_ ?_ | refine ptr_eq ?_ ?_ ?_ | refine agg_eq ?_ | refine es_cons ?_ ?_ | refine row_cons ?_ ?_)
   all_goals (rw [hos])
  case hst =>
   first | trivial | omega | (simp; done) | (simp; omega)
  case hm => omega
 ·intro hb
  have hj : j = B.length := by omega
  subst hj
  have hoa := orUpto_all hAB (j := B.length) (by omega)
  rw [hoa]
  have hfin : (tabO t).set i [.int .i64 n, .osl 1 (words (List.zipWith (bOr .u64) A B))] = tabO (t.set i (List.zipWith (· || ·) a b)) := by
   rw [← hts, (hro (List.zipWith (bOr .u64) A B)).2 (by rw [hz])]
  rw [hfin]
  -- exit 0
  refine AW.kx [] [0] ?_
  rw [← hQl1]
  -- ret 0
  rw [← hQr]
  simp only [go_sem, reduceIte, reduceCtorEq, zA, zM, zE, zL, zD, zS, zP, zB, zI, zR]
  refine ⟨[(0, 0, false)], ?_⟩
  simp only [go_sem, reduceIte, zE, renC_tabO]
theorem rep_succ (n j : Nat) (b : List Bool) : List.replicate (j + 1) b = List.replicate j b ++ [b] := List.replicate_succ'
theorem empty_u (n : Nat) (hn : n ≤ 512) : Upd Tryd.prog 98 [] [.int .i64 n] (fun k => .agg [.sl ⟨0, k, none⟩ 0 n none]) (fun k => [(0, some ⟨k, k, 2, tabO (List.replicate n (List.replicate n false))⟩)]) := by
 have hwn := wordsN_rng (n := (n : Int)) (by omega)
 have hrw := rwords_r n (by omega) (by omega)
 have hro : rowO (List.replicate n false) = [.int .i64 n, .osl 1 (words (List.replicate (wordsN n).toNat 0))] := by unfold rowO; simp only [List.length_replicate]; rw [setW_zero]
 have hwz : words (List.replicate (wordsN n).toNat 0) = List.replicate (wordsN n).toNat [.int .u64 0] := by simp [words]
 refine Upd.of_body (rs := [.cell 2 24]) Tryd.func98 rfl Tryd.ntmps98 rfl (by simp) ?_
 intro k0 k hk0 hk1
 generalize hQr : retQ _ _ _ = Qr
 -- block 5
 refine AW.so 100 (fun _ => none) [0,2] [102] trivial ?_
 refine AW.so 100 (fun _ => none) [0,2,3] [102,103] trivial ?_
 refine AW.seq fun K1 hK1 => ?_
 refine AW.so 100 (fun _ => none) [0,2,3,4,5] [102,103] trivial ?_
 refine AW.block ?_
 refine AW.nilCellK 103 0 0 200 2 ?_
 simp only [go_sem, reduceIte, zE]
 repeat refine cj ?_ ?_
 any_goals first | decide | omega
 refine AW.keep [0, 2, 3, 4, 5] [102, 103, 200] ?_
 simp only [go_sem, reduceIte, zE]
 refine AW.loopE (fun mm ee ss kk => ∃ (j g2 v2 g3 v3 g v : Nat), n - j = mm ∧ ee = [(0, .int .i64 n), (2, .ptr ⟨102, g2, none⟩ 0 0), (3, .ptr ⟨103, g3, none⟩ 0 0), (4, .int .i64 n), (5, .int .i64 (j : Nat))] ∧ ss = [(102, some ⟨g2, v2, 1, [[.nilsl]]⟩), (103, some ⟨g3, v3, 1, [[.sl ⟨200, g, none⟩ 0 j none]]⟩), (200, some ⟨g, v, 2, tabO (List.replicate j (List.replicate n false))⟩)] ∧ (j ≤ n)) ?_ ?_
 -- init 1
 ·exact ⟨_, 0, _, _, _, _, _, _, rfl, eD, eD, eT⟩
 rintro mm ee ss kk ⟨j, g2, v2, g3, v3, g, v, rfl, rfl, rfl, hI⟩
 generalize hQl1 : thenQ _ _ = Ql1
 refine AW.so 100 (fun _ => none) [0,2,3,4,5,6] [102,103,200] trivial ?_
 refine AW.seq fun K2 hK2 => ?_
 refine AW.cn ?_ ?_
 ·intro hb
  have htl : (List.replicate j (List.replicate n false)).length = j := by simp
  have htk : (tabO (List.replicate j (List.replicate n false))).take j = tabO (List.replicate j (List.replicate n false)) := List.take_of_length_le (by rw [tabO_len, htl]; exact Nat.le_refl _)
  have hgl : ∀ x : List AV, (tabO (List.replicate j (List.replicate n false)) ++ [x]).getD j [] = x := fun x => by rw [List.getD_eq_getElem?_getD, List.getElem?_append_right (by rw [tabO_len, htl]; exact Nat.le_refl _), tabO_len, htl]; simp
  have hsl : ∀ x y : List AV, (tabO (List.replicate j (List.replicate n false)) ++ [x]).set j y = tabO (List.replicate j (List.replicate n false)) ++ [y] := fun x y => by rw [List.set_append_right _ _ (by rw [tabO_len, htl]; exact Nat.le_refl _), tabO_len, htl]; simp
  have hll : ∀ x : List AV, (tabO (List.replicate j (List.replicate n false)) ++ [x]).length = j + 1 := fun x => by simp [tabO_len]
  have hrs := rep_succ n j (List.replicate n false)
  have hta := tabO_app (List.replicate j (List.replicate n false)) (List.replicate n false)
  rw [hro, ← hrs] at hta
  refine AW.skip ?_
  refine hK2 _ _ _ ?_; clear hK2
  refine AW.seq fun K3 hK3 => ?_
  refine AW.block ?_
  refine AW.rd mixed 100 (fun ii => if ii = 4 then some (.reads false (.int .i64 (wordsN n))) else none) [0,2,3,4,5] [102,103,112,200] (e3 @htk @tabO_len @htl) ?_
  repeat with_reducible refine cj ?_ ?_
  all_goals try first | (exact hrw) | omega | exact chk (by kernel_rfl) | exact ent (by kernel_rfl) | (simp [scP, scalar]; done) | exact scP_words _ | exact scP_ints _ | exact scP_bools _
  refine hK3 _ _ _ ?_; clear hK3
  refine AW.adoptK 200 j 1 112 ?_
  simp only [go_sem, reduceIte, zE, hgl, hsl, hll]
  repeat refine cj ?_ ?_
  any_goals first | decide | (rw [← hwz]; exact noOsl_words _) | omega
  refine AW.keep [0, 2, 3, 4, 5] [102, 103, 200] ?_
  simp only [go_sem, reduceIte, zE]
  rw [← hwz, hta]
  refine AW.ro 100 (fun _ => none) [0,2,3,4,5] [102,103,200] trivial ?_
  -- again 1
  rw [← hQl1]; change Exists _
  exact ⟨_, eO, j + 1, _, _, _, _, _, _, rfl, eD, eD, eT⟩
 ·intro hb
  -- exit 0
  refine AW.kx [2,3] [102,103,112,115,200] ?_
  rw [← hQl1]
  refine hK1 _ _ _ ?_; clear hK1
  refine AW.so 100 (fun _ => none) [2] [102,200] trivial ?_
  -- ret 1
  rw [← hQr]
  refine AW.rt trivial ?_
  have hj : j = n := by omega
  subst hj
  refine ⟨[(200, 0, true)], ?_⟩
  simp only [go_sem, reduceIte, zE, renC_tabO]
end Go.Proofs.D.R

namespace Go.Proofs.D.R
open Go.AM Go
set_option maxRecDepth 100000
set_option maxHeartbeats 1000000
theorem all_r (n : Nat) (t : List (List Bool)) (hs : Sq n t) (hn : n ≤ 512) : Reads Tryd.prog 80 true [relB t] (.rsl 2 ((pairsT t n).map pairV)) := by
 have hlen := hs.len
 have htl := tabR_len t
 have hh := fun i j hi hj => rhas_r n t hs hn i j hi hj
 unfold relB at *
 refine Reads.bodyF (rs := [.tmp 2]) Tryd.func80 rfl Tryd.ntmps80 rfl (by simp) ?_
 generalize hQr : retQ _ _ _ = Qr
 -- block 1
 refine AW.sg [1] [1] (e2 @htl @hlen) ?_
 refine AW.sg [1,3] [1] (e2 @htl @hlen) ?_
 refine AW.seq fun K1 hK1 => ?_
 refine AW.sg [1,3,8,9] [1] (e2 @htl @hlen) ?_
 refine AW.block ?_
 refine AW.nilOwn 3 200 2 (by simp only [go_sem, reduceIte, zE]) ?_
 refine AW.keep [1, 3, 8, 9] [1, 200] ?_
 simp only [go_sem, reduceIte, zE]
 refine AW.loopE (fun mm ee ss kk => ∃ (i g1 v1 g v : Nat), n - i = mm ∧ ee = [(1, .ptr ⟨1, g1, none⟩ 0 0), (3, .sl ⟨200, g, none⟩ 0 (pairsAt t n i).length none), (8, .int .i64 n), (9, .int .i64 (i : Nat))] ∧ ss = [(1, some ⟨g1, v1, 1, [[.rsl 2 (tabR t)]]⟩), (200, some ⟨g, v, 2, (pairsAt t n i).map pairV⟩)] ∧ (i ≤ n)) ?_ ?_
 -- init 1
 ·exact ⟨_, 0, _, _, _, _, rfl, eD, eD, eT⟩
 rintro mm ee ss kk ⟨i, g1, v1, g, v, rfl, rfl, rfl, hI⟩
 generalize hQl1 : thenQ _ _ = Ql1
 refine AW.sg [1,3,8,9,10] [1,200] (e2 @htl @hlen) ?_
 refine AW.seq fun K2 hK2 => ?_
 refine AW.cn ?_ ?_
 ·intro hb
  refine AW.skip ?_
  refine hK2 _ _ _ ?_; clear hK2
  refine AW.seq fun K3 hK3 => ?_
  refine AW.block ?_
  refine AW.sg [1,3,4,8,9] [1,200] (e2 @htl @hlen) ?_
  refine AW.sg [1,3,4,8,9,14,15] [1,200] (e2 @htl @hlen) ?_
  refine AW.block ?_
  refine AW.loopE (fun mm ee ss kk => ∃ (j g1 v1 g v : Nat), n - j = mm ∧ ee = [(1, .ptr ⟨1, g1, none⟩ 0 0), (3, .sl ⟨200, g, none⟩ 0 (pairsAt t n i ++ rowPairs t i j).length none), (4, .int .i64 (i : Nat)), (8, .int .i64 n), (9, .int .i64 (i : Nat)), (14, .int .i64 n), (15, .int .i64 (j : Nat))] ∧ ss = [(1, some ⟨g1, v1, 1, [[.rsl 2 (tabR t)]]⟩), (200, some ⟨g, v, 2, (pairsAt t n i ++ rowPairs t i j).map pairV⟩)] ∧ (j ≤ n)) ?_ ?_
  -- init 2
  ·refine ⟨_, 0, ?_, ?_, ?_, ?_, rfl, ?henv, ?hstore, ?hst⟩
   case henv =>
    repeat' (first | rfl | refine env_cons ?_ ?_ | refine st_cons ?_ ?_ ?_ ?_ | refine int_eq ?_ | refine bool_eq ?_ | refine rsl_eq ?_ | refine osl_eq ?_ | refine sl_eq ?_ ?_ ?_ | refine ptr_eq ?_ ?_ ?_ | refine agg_eq ?_ | refine es_cons ?_ ?_ | refine row_cons ?_ ?_)
    all_goals (simp [rowPairs])
   case hstore =>
    repeat' (first | rfl | refine env_cons ?_ ?_ | refine st_cons ?_ ?_ ?_ ?_ | refine int_eq ?_ | refine bool_eq ?_ | refine rsl_eq ?_ | refine osl_eq ?_ | refine sl_eq ?_ ?_ ?_ | refine ptr_eq ?_ ?_ ?_ | refine agg_eq ?_ | refine es_cons ?_ ?_ | refine row_cons ?_ ?_)
    all_goals (simp [rowPairs])
   case hst =>
    first | trivial | omega | (simp; done) | (simp; omega)
  rintro mm ee ss kk ⟨j, g1, v1, g, v, rfl, rfl, rfl, hI⟩
  generalize hQl2 : thenQ _ _ = Ql2
  refine AW.sg [1,3,4,8,9,14,15,16] [1,200] (e2 @htl @hlen) ?_
  refine AW.seq fun K4 hK4 => ?_
  refine AW.cn ?_ ?_
  ·intro hb
   have hhr := Reads.flat (hh i j (by omega) (by omega)) rfl
   have hps := rowPairs_succ t i j
   have hpl := pairsAt_le t n i
   have hrl := rowPairs_le t i j
   have hmul : n * i ≤ 262144 := Nat.le_trans (Nat.mul_le_mul hn (by omega : i ≤ 512)) (by decide)
   have hll : (pairsAt t n i ++ rowPairs t i j).length ≤ 300000 := by rw [List.length_append]; omega
   have hml : ((pairsAt t n i ++ rowPairs t i j).map pairV).length = (pairsAt t n i ++ rowPairs t i j).length := by simp
   have htk : ((pairsAt t n i ++ rowPairs t i j).map pairV).take (pairsAt t n i ++ rowPairs t i j).length = (pairsAt t n i ++ rowPairs t i j).map pairV := List.take_of_length_le (by simp)
   generalize hL : pairsAt t n i ++ rowPairs t i j = L at *
   refine AW.skip ?_
   refine hK4 _ _ _ ?_; clear hK4
   refine AW.seq fun K5 hK5 => ?_
   refine AW.block ?_
   refine AW.sg [1,3,4,5,8,9,14,15] [1,200] (e2 @htl @hlen) ?_
   refine AW.so 0 (fun ii => if ii = 3 then some (.reads true (.bool (atT t i j))) else none) [1,3,4,5,8,9,14,15,21] [1,200] (e2 @htl @hlen) ?_
   repeat with_reducible refine cj ?_ ?_
   all_goals try first | (exact hhr) | omega | exact ent (by kernel_rfl)
   refine AW.cn ?_ ?_
   ·intro hb
    rw [if_pos hb] at hps
    have hLs : pairsAt t n i ++ rowPairs t i (j + 1) = L ++ [((i : Int), (j : Int))] := by rw [hps, ← List.append_assoc, hL]
    refine AW.regionK 0 (fun _ => none) [1, 3, 4, 8, 9, 14, 15] [1, 200] ?_
    simp only [go_sem, reduceIte, reduceCtorEq, zA, zM, zE, zL, zD, zS, zP, zB, zI, zR, htl, hlen, htk, hml, pairs_app]
    repeat with_reducible refine cj ?_ ?_
    all_goals try first | omega | (simp [scP, scalar]; done) | exact scP_words _ | exact scP_ints _ | exact scP_bools _
    refine hK5 _ _ _ ?_; clear hK5
    refine AW.rg [1,3,4,8,9,14,15] [1,200] (e2 @htl @hlen) ?_
    -- again 2
    rw [← hQl2]; change Exists _
    refine ⟨_, ?hm, j + 1, ?_, ?_, ?_, ?_, rfl, ?henv, ?hstore, ?hst⟩
    case henv =>
     repeat' (first | rfl | refine env_cons ?_ ?_ | refine st_cons ?_ ?_ ?_ ?_ | refine int_eq ?_ | refine bool_eq ?_ | refine rsl_eq ?_ | refine osl_eq ?_ | refine sl_eq ?_ ?_ ?_ | refine ptr_eq ?_ ?_ ?_ | refine agg_eq ?_ | refine es_cons ?_ ?_ | refine row_cons ?_ ?_)
     all_goals (rw [hLs]; try simp)
    case hstore =>
     repeat' (first | rfl | refine env_cons ?_ ?_ | refine st_cons ?_ ?_ ?_ ?_ | refine int_eq ?_ | refine bool_eq ?_ | refine rsl_eq ?_ | refine osl_eq ?_ | refine sl_eq ?_ ?_ ?_ | refine ptr_eq ?_ ?_ ?_ | refine agg_eq ?_ | refine es_cons ?_ ?_ | refine row_cons ?_ ?_)
     all_goals (rw [hLs])
    case hst =>
     first | trivial | omega | (simp; done) | (simp; omega)
    case hm => omega
   ·intro hb
    rw [if_neg (by rw [hb]; simp)] at hps
    have hLs : pairsAt t n i ++ rowPairs t i (j + 1) = L := by rw [hps, hL]
    refine AW.skip ?_
    refine hK5 _ _ _ ?_; clear hK5
    refine AW.rg [1,3,4,8,9,14,15] [1,200] (e2 @htl @hlen) ?_
    -- again 2
    rw [← hQl2]; change Exists _
    refine ⟨_, ?hm, j + 1, ?_, ?_, ?_, ?_, rfl, ?henv, ?hstore, ?hst⟩
    case henv =>
     repeat' (first | rfl | refine env_cons ?_ ?_ | refine st_cons ?_ ?_ ?_ ?_ | refine int_eq ?_ | refine bool_eq ?_ | refine rsl_eq ?_ | refine osl_eq ?_ | refine sl_eq ?_ ?_ ?_ | refine ptr_eq ?_ ?_ ?_ | refine agg_eq ?_ | refine es_cons ?_ ?_ | refine row_cons ?_ ?_)
     all_goals (rw [hLs]; try simp)
    case hstore =>
     repeat' (first | rfl | refine env_cons ?_ ?_ | refine st_cons ?_ ?_ ?_ ?_ | refine int_eq ?_ | refine bool_eq ?_ | refine rsl_eq ?_ | refine osl_eq ?_ | refine sl_eq ?_ ?_ ?_ | refine ptr_eq ?_ ?_ ?_ | refine agg_eq ?_ | refine es_cons ?_ ?_ | refine row_cons ?_ ?_)
     all_goals (rw [hLs])
    case hst =>
     first | trivial | omega | (simp; done) | (simp; omega)
    case hm => omega
  ·intro hb
   have hj : j = n := by omega
   subst hj
   have hps := pairsAt_succ t j i
   -- exit 2
   refine AW.exit ?_
   rw [← hQl2]
   refine hK3 _ _ _ ?_; clear hK3
   refine AW.rg [1,3,8,9] [1,200] (e2 @htl @hlen) ?_
   -- again 1
   rw [← hQl1]; change Exists _
   refine ⟨_, ?hm, i + 1, ?_, ?_, ?_, ?_, rfl, ?henv, ?hstore, ?hst⟩
   case henv =>
    repeat' (first | rfl | refine env_cons ?_ ?_ | refine st_cons ?_ ?_ ?_ ?_ | refine int_eq ?_ | refine bool_eq ?_ | refine rsl_eq ?_ | refine osl_eq ?_ | refine sl_eq ?_ ?_ ?_ | refine ptr_eq ?_ ?_ ?_ | refine agg_eq ?_ | refine es_cons ?_ ?_ | refine row_cons ?_ ?_)
    all_goals (rw [hps])
   case hstore =>
    repeat' (first | rfl | refine env_cons ?_ ?_ | refine st_cons ?_ ?_ ?_ ?_ | refine int_eq ?_ | refine bool_eq ?_ | refine rsl_eq ?_ | refine osl_eq ?_ | refine sl_eq ?_ ?_ ?_ | refine ptr_eq ?_ ?_ ?_ | refine agg_eq ?_ | refine es_cons ?_ ?_ | refine row_cons ?_ ?_)
    all_goals (rw [hps])
   case hst =>
    first | trivial | omega | (simp; done) | (simp; omega)
   case hm => omega
 ·intro hb
  -- exit 0
  refine AW.exit ?_
  rw [← hQl1]
  refine hK1 _ _ _ ?_; clear hK1
  refine AW.sg [2] [200] (e2 @htl @hlen) ?_
  -- ret 1
  rw [← hQr]
  refine AW.rt (e2 @htl @hlen) ?_
  have hi : i = n := by omega
  subst hi
  rw [List.take_of_length_le (by simp), vwcF_pairs]
  exact Wk.refl _
theorem closure_r (n : Nat) (t : List (List Bool)) (hs : Sq n t) (hn : n ≤ 512) : Reads Tryd.prog 93 true [relB t] (relB (warsh n t)) := by
 have hlen := hs.len
 have htl := tabR_len t
 have hemp := empty_u n hn
 have hwn := wordsN_rng (n := (n : Int)) (by omega)
 unfold relB at *
 refine Reads.bodyF (rs := [.cell 2 24]) Tryd.func93 rfl Tryd.ntmps93 rfl (by simp) ?_
 generalize hQr : retQ _ _ _ = Qr
 -- block 2
 refine AW.sg [1,2] [1,2] (e3 @htl @hlen @renC_tabO) ?_
 refine AW.so 0 (fun ii => if ii = 3 then some (.upd [] (fun k => [(0, some ⟨k, k, 2, tabO (List.replicate n (List.replicate n false))⟩)]) (fun k => .agg [.sl ⟨0, k, none⟩ 0 n none])) else none) [1,2,3] [1,2,3,11] (e3 @htl @hlen @renC_tabO) ?_
 repeat with_reducible refine cj ?_ ?_
 all_goals try first | (exact hemp) | omega | exact ent (by kernel_rfl)
 refine AW.seq fun K1 hK1 => ?_
 refine AW.sg [2,3,13,14,15] [2,3,11] (e3 @htl @hlen @renC_tabO) ?_
 refine AW.block ?_
 refine AW.loopE (fun mm ee ss kk => ∃ (i g2 v2 g3 v3 g v : Nat), n - i = mm ∧ ee = [(2, .ptr ⟨2, g2, none⟩ 0 0), (3, .ptr ⟨3, g3, none⟩ 0 0), (13, .rsl 2 (tabR t)), (14, .int .i64 n), (15, .int .i64 (i : Nat))] ∧ ss = [(2, some ⟨g2, v2, 1, [[.nilsl]]⟩), (3, some ⟨g3, v3, 1, [[.sl ⟨11, g, none⟩ 0 n none]]⟩), (11, some ⟨g, v, 2, tabO (fillT t n i)⟩)] ∧ (i ≤ n)) ?_ ?_
 -- init 1
 ·refine ⟨_, 0, ?_, ?_, ?_, ?_, ?_, ?_, rfl, ?henv, ?hstore, ?hst⟩
  case henv =>
   repeat' (first | rfl | refine env_cons ?_ ?_ | refine st_cons ?_ ?_ ?_ ?_ | refine int_eq ?_ | refine bool_eq ?_ | refine rsl_eq ?_ | refine osl_eq ?_ | refine sl_eq ?_ ?_ ?_ | refine ptr_eq ?_ ?_ ?_ | refine agg_eq ?_ | refine es_cons ?_ ?_ | refine row_cons ?_ ?_)
   all_goals (first | (simp; done) | omega | (simp; omega))
  case hstore =>
   repeat' (first | rfl | refine env_cons ?_ ?_ | refine st_cons ?_ ?_ ?_ ?_ | refine int_eq ?_ | refine bool_eq ?_ | refine rsl_eq ?_ | refine osl_eq ?_ | refine sl_eq ?_ ?_ ?_ | refine ptr_eq ?_ ?_ ?_ | refine agg_eq ?_ | refine es_cons ?_ ?_ | refine row_cons ?_ ?_)
   all_goals (rw [fillT_zero]; rfl)
  case hst =>
   first | trivial | omega | (simp; done) | (simp; omega)
 rintro mm ee ss kk ⟨i, g2, v2, g3, v3, g, v, rfl, rfl, rfl, hI⟩
 generalize hQl1 : thenQ _ _ = Ql1
 refine AW.sg [2,3,13,14,15,16] [2,3,11] (e3 @htl @hlen @renC_tabO) ?_
 refine AW.seq fun K2 hK2 => ?_
 refine AW.cn ?_ ?_
 ·intro hb
  have hsf := fillT_sq hs (i := i) (by omega)
  have hgr := tabR_get (t := t) (i := i) (by omega)
  have hgo := tabO_get (t := fillT t n i) (i := i) (by rw [hsf.len]; omega)
  rw [fillT_row hs (by omega)] at hgo
  have hto := tabO_len (fillT t n i)
  have hsl := hsf.len
  have hrl := hs.rowLen (i := i) (by omega)
  have hfs := fillT_succ hs (i := i) (by omega)
  have hts := tabO_set (fillT t n i) i (rowT t i)
  have hwl := setW_len' (rowT t i)
  have hwz := setW_len' (List.replicate n false)
  rw [hrl] at hwl
  rw [List.length_replicate] at hwz
  have hmin : min (setW (rowT t i) n).length (setW (List.replicate n false) n).length = (setW (rowT t i) n).length := by omega
  have hdr : (words (setW (List.replicate n false) n)).drop (setW (rowT t i) n).length = [] := List.drop_of_length_le (by rw [words_len]; omega)
  have hro : [AV.int .i64 n, .osl 1 (words (setW (rowT t i) n))] = rowO (rowT t i) := by rw [rowO, hrl]
  refine AW.skip ?_
  refine hK2 _ _ _ ?_; clear hK2
  refine AW.seq fun K3 hK3 => ?_
  refine AW.block ?_
  refine AW.sg [2,3,4,5,13,14,15] [2,3,5,11] (e2 @htl (e5 @hlen @renC_tabO @hgr @rowB.eq_1 @hrl)) ?_
  refine AW.rd mixed 0 (fun _ => none) [2,3,13,14,15] [2,3,11] (e5 @htl @hlen @renC_tabO @hgo (e5 @rowO.eq_1 @List.length_replicate.{0} @hmin @hdr @List.append_nil.{0})) ?_
  refine hK3 _ _ _ ?_; clear hK3
  refine AW.rg [2,3,13,14,15] [2,3,11] (e3 @htl @hlen @renC_tabO) ?_
  -- again 1
  rw [← hQl1]; change Exists _
  refine ⟨_, ?hm, i + 1, ?_, ?_, ?_, ?_, ?_, ?_, rfl, ?henv, ?hstore, ?hst⟩
  case henv =>
   repeat' (first | rfl | refine env_cons ?_ ?_ | refine st_cons ?_ ?_ ?_ ?_ | refine int_eq ?_ | refine bool_eq ?_ | refine rsl_eq ?_ | refine osl_eq ?_ | refine sl_eq ?_ ?_ ?_ | refine ptr_eq ?_ ?_ ?_ | refine agg_eq ?_ | refine es_cons ?_ ?_ | refine row_cons ?_ ?_)
   all_goals (first | (simp; done) | omega | (simp; omega))
  case hstore =>
   repeat' (first | rfl | refine env_cons ?_ ?_ | refine st_cons ?_ ?_ ?_ ?_ | refine int_eq ?_ | refine bool_eq ?_ | refine rsl_eq ?_ | refine osl_eq ?_ | refine sl_eq ?_ ?_ ?_ | refine ptr_eq ?_ ?_ ?_ | refine agg_eq ?_ | refine es_cons ?_ ?_ | refine row_cons ?_ ?_)
   all_goals (rw [← hfs, ← hts, ← hro])
  case hst =>
   first | trivial | omega | (simp; done) | (simp; omega)
  case hm => omega
 ·intro hb
  have hi : i = n := by omega
  subst hi
  rw [fillT_all hs]
  -- exit 0
  refine AW.kx [2,3] [2,3,11] ?_
  rw [← hQl1]
  refine hK1 _ _ _ ?_; clear hK1
  refine AW.seq fun K4 hK4 => ?_
  refine AW.sg [2,3,32,33] [2,3,11] (e3 @htl @hlen @renC_tabO) ?_
  refine AW.block ?_
  refine AW.loopE (fun mm ee ss kk => ∃ (k g2 v2 g3 v3 g v : Nat), i - k = mm ∧ ee = [(2, .ptr ⟨2, g2, none⟩ 0 0), (3, .ptr ⟨3, g3, none⟩ 0 0), (32, .int .i64 i), (33, .int .i64 (k : Nat))] ∧ ss = [(2, some ⟨g2, v2, 1, [[.nilsl]]⟩), (3, some ⟨g3, v3, 1, [[.sl ⟨11, g, none⟩ 0 i none]]⟩), (11, some ⟨g, v, 2, tabO (iter (warshK i) k t)⟩)] ∧ (k ≤ i)) ?_ ?_
  -- init 2
  ·exact ⟨_, 0, _, _, _, _, _, _, rfl, eD, eD, eT⟩
  rintro mm ee ss kk ⟨k, g2, v2, g3, v3, g, v, rfl, rfl, rfl, hI⟩
  generalize hQl2 : thenQ _ _ = Ql2
  refine AW.sg [2,3,32,33,34] [2,3,11] (e3 @htl @hlen @renC_tabO) ?_
  refine AW.seq fun K5 hK5 => ?_
  refine AW.cn ?_ ?_
  ·intro hb
   refine AW.skip ?_
   refine hK5 _ _ _ ?_; clear hK5
   refine AW.seq fun K6 hK6 => ?_
   refine AW.block ?_
   refine AW.sg [2,3,6,32,33] [2,3,11] (e3 @htl @hlen @renC_tabO) ?_
   refine AW.sg [2,3,6,32,33,38,39] [2,3,11] (e3 @htl @hlen @renC_tabO) ?_
   refine AW.block ?_
   refine AW.loopE (fun mm ee ss kk => ∃ (q g2 v2 g3 v3 g v : Nat), i - q = mm ∧ ee = [(2, .ptr ⟨2, g2, none⟩ 0 0), (3, .ptr ⟨3, g3, none⟩ 0 0), (6, .int .i64 (k : Nat)), (32, .int .i64 i), (33, .int .i64 (k : Nat)), (38, .int .i64 i), (39, .int .i64 (q : Nat))] ∧ ss = [(2, some ⟨g2, v2, 1, [[.nilsl]]⟩), (3, some ⟨g3, v3, 1, [[.sl ⟨11, g, none⟩ 0 i none]]⟩), (11, some ⟨g, v, 2, tabO (iter (warshI k) q (iter (warshK i) k t))⟩)] ∧ (q ≤ i)) ?_ ?_
   -- init 3
   ·exact ⟨_, 0, _, _, _, _, _, _, rfl, eD, eD, eT⟩
   rintro mm ee ss kk ⟨q, g2, v2, g3, v3, g, v, rfl, rfl, rfl, hI⟩
   generalize hQl3 : thenQ _ _ = Ql3
   refine AW.sg [2,3,6,32,33,38,39,40] [2,3,11] (e3 @htl @hlen @renC_tabO) ?_
   refine AW.seq fun K7 hK7 => ?_
   refine AW.cn ?_ ?_
   ·intro hb
    have hsu : Sq i (iter (warshI k) q (iter (warshK i) k t)) := (hs.warsh' (by omega)).warshK' (by omega) (by omega)
    have hus : iter (warshI k) (q + 1) (iter (warshK i) k t) = warshI k q (iter (warshI k) q (iter (warshK i) k t)) := rfl
    rw [warshI_eq] at hus
    generalize hU : iter (warshI k) q (iter (warshK i) k t) = U at *
    have hhr := Reads.flat (rhas_r i U hsu hn q k (by omega) (by omega)) rfl
    have hto := tabO_len U
    have hsl := hsu.len
    have htk : (tabO U).take i = tabO U := List.take_of_length_le (by omega)
    have hgq := tabO_get (t := U) (i := q) (by omega)
    have hgk := tabO_get (t := U) (i := k) (by omega)
    have hrq := hsu.rowLen (i := q) (by omega)
    have hrk := hsu.rowLen (i := k) (by omega)
    have hwq := setW_len' (rowT U q)
    have hwk := setW_len' (rowT U k)
    rw [hrq] at hwq
    rw [hrk] at hwk
    have hm := fun g v => merge_s i U hsu hn q k (by omega) (by omega) g v none none
    refine AW.skip ?_
    refine hK7 _ _ _ ?_; clear hK7
    refine AW.seq fun K8 hK8 => ?_
    refine AW.block ?_
    refine AW.sg [2,3,6,7,32,33,38,39] [2,3,11] (e3 @htl @hlen @renC_tabO) ?_
    refine AW.so 0 (fun ii => if ii = 3 then some (.reads true (.bool (atT U q k))) else none) [2,3,6,7,32,33,38,39,45] [2,3,11] (e5 @htl @hlen @renC_tabO @htk @vwc_tabO) ?_
    repeat with_reducible refine cj ?_ ?_
    all_goals try first | (exact hhr) | omega | exact ent (by kernel_rfl)
    refine AW.cn ?_ ?_
    ·intro hb
     rw [if_pos hb] at hus
     unfold orRow at hus
     refine AW.rd mixed 0 (fun ii => if ii = 10 then some (.upd [11] (fun kk => [(0, some ⟨g, kk, 2, tabO (U.set q (List.zipWith (· || ·) (rowT U q) (rowT U k)))⟩)]) (fun _ => .tup [])) else none) [2,3,6,32,33,38,39] [2,3,11] (e3 @htl @hlen (e5 @renC_tabO @hgq @hgk @rowO.eq_1 (e5 @hrq @hrk @hwq @hwk @renC_tabO))) ?_
     repeat with_reducible refine cj ?_ ?_
     all_goals try first | (exact hm _ _) | omega | exact chk (by kernel_rfl) | exact ent (by kernel_rfl)
     refine hK8 _ _ _ ?_; clear hK8
     refine AW.rg [2,3,6,32,33,38,39] [2,3,11] (e3 @htl @hlen @renC_tabO) ?_
     -- again 3
     rw [← hQl3]; change Exists _
     refine ⟨_, ?hm, q + 1, ?_, ?_, ?_, ?_, ?_, ?_, rfl, ?henv, ?hstore, ?hst⟩
     case henv =>
      repeat' (first | rfl | refine env_cons ?_ ?_ | refine st_cons ?_ ?_ ?_ ?_ | refine int_eq ?_ | refine bool_eq ?_ | refine rsl_eq ?_ | refine osl_eq ?_ | refine sl_eq ?_ ?_ ?_ | refine ptr_eq ?_ ?_ ?_ | refine agg_eq ?_ | refine es_cons ?_ ?_ | refine row_cons ?_ ?_)
      all_goals (first | (simp; done) | omega | (simp; omega))
     case hstore =>
      repeat' (first | rfl | refine env_cons ?_ ?_ | refine st_cons ?_ ?_ ?_ ?_ | refine int_eq ?_ | refine bool_eq ?_ | refine rsl_eq ?_ | refine osl_eq ?_ | refine sl_eq ?_ ?_ ?_ | refine ptr_eq ?_ ?_ ?_ | refine agg_eq ?_ | refine es_cons ?_ ?_ | refine row_cons ?_ ?_)
      all_goals (rw [hus])
     case hst =>
      first | trivial | omega | (simp; done) | (simp; omega)
     case hm => omega
    ·intro hb
     rw [if_neg (by rw [hb]; simp)] at hus
     refine AW.skip ?_
     refine hK8 _ _ _ ?_; clear hK8
     refine AW.rg [2,3,6,32,33,38,39] [2,3,11] (e3 @htl @hlen @renC_tabO) ?_
     -- again 3
     rw [← hQl3]; change Exists _
     refine ⟨_, ?hm, q + 1, ?_, ?_, ?_, ?_, ?_, ?_, rfl, ?henv, ?hstore, ?hst⟩
     case henv =>
      repeat' (first | rfl | refine env_cons ?_ ?_ | refine st_cons ?_ ?_ ?_ ?_ | refine int_eq ?_ | refine bool_eq ?_ | refine rsl_eq ?_ | refine osl_eq ?_ | refine sl_eq ?_ ?_ ?_ | refine ptr_eq ?_ ?_ ?_ | refine agg_eq ?_ | refine es_cons ?_ ?_ | refine row_cons ?_ ?_)
      all_goals (first | (simp; done) | omega | (simp; omega))
     case hstore =>
      repeat' (first | rfl | refine env_cons ?_ ?_ | refine st_cons ?_ ?_ ?_ ?_ | refine int_eq ?_ | refine bool_eq ?_ | refine rsl_eq ?_ | refine osl_eq ?_ | refine sl_eq ?_ ?_ ?_ | refine ptr_eq ?_ ?_ ?_ | refine agg_eq ?_ | refine es_cons ?_ ?_ | refine row_cons ?_ ?_)
      all_goals (rw [hus])
     case hst =>
      first | trivial | omega | (simp; done) | (simp; omega)
     case hm => omega
   ·intro hb
    have hq : q = i := by omega
    subst hq
    -- exit 4
    refine AW.kx [2,3,32,33] [2,3,11] ?_
    rw [← hQl3]
    refine hK6 _ _ _ ?_; clear hK6
    refine AW.rg [2,3,32,33] [2,3,11] (e3 @htl @hlen @renC_tabO) ?_
    -- again 2
    rw [← hQl2]; change Exists _
    refine ⟨_, ?hm, k + 1, ?_, ?_, ?_, ?_, ?_, ?_, rfl, ?henv, ?hstore, ?hst⟩
    case henv =>
     repeat' (first | rfl | refine env_cons ?_ ?_ | refine st_cons ?_ ?_ ?_ ?_ | refine int_eq ?_ | refine bool_eq ?_ | refine rsl_eq ?_ | refine osl_eq ?_ | refine sl_eq ?_ ?_ ?_ | refine ptr_eq ?_ ?_ ?_ | refine agg_eq ?_ | refine es_cons ?_ ?_ | refine row_cons ?_ ?_)
     all_goals (first | (simp; done) | omega | (simp; omega))
    case hstore =>
     repeat' (first | rfl | refine env_cons ?_ ?_ | refine st_cons ?_ ?_ ?_ ?_ | refine int_eq ?_ | refine bool_eq ?_ | refine rsl_eq ?_ | refine osl_eq ?_ | refine sl_eq ?_ ?_ ?_ | refine ptr_eq ?_ ?_ ?_ | refine agg_eq ?_ | refine es_cons ?_ ?_ | refine row_cons ?_ ?_)
     all_goals rfl
    case hst =>
     first | trivial | omega | (simp; done) | (simp; omega)
    case hm => omega
  ·intro hb
   -- exit 2
   refine AW.kx [2,3] [2,3,11] ?_
   rw [← hQl2]
   refine hK4 _ _ _ ?_; clear hK4
   refine AW.sg [2] [2,11] (e3 @htl @hlen @renC_tabO) ?_
   -- ret 1
   rw [← hQr]
   refine AW.rt (e3 @htl @hlen @renC_tabO) ?_
   have hk : k = i := by omega
   subst hk
   refine Wk.of_eq ?_
   rw [List.take_of_length_le (by rw [tabO_len, (hs.warsh' (Nat.le_refl _)).len]; exact Nat.le_refl _), vwcF_tabO]
   rfl
end Go.Proofs.D.R

namespace Go.Proofs.D.R
open Go.AM Go
set_option maxRecDepth 100000
set_option maxHeartbeats 1000000
theorem acyclic_g (n : Nat) (t : List (List Bool)) (hs : Sq n t) (hn : n ≤ 512) : Reads Tryd.prog 79 false [relB t] (.bool (acyc n t)) := by
 have h := valid_g n t hs hn
 have ha := closure_r n t hs hn
 have hsw := hs.warsh
 have hlw : (tabR (warsh n t)).length = n := by rw [tabR_len, hsw.len]
 have hh := fun j hj => rhas_r n (warsh n t) hsw hn j j hj hj
 have hac : acyc n t = (List.range n).all fun i => !atT (warsh n t) i i := rfl
 generalize warsh n t = c at *
 unfold relB at *
 refine Reads.body (rs := [.tmp 2]) Tryd.func79 rfl Tryd.ntmps79 rfl (by simp) ?_
 generalize hQr : retQ _ _ _ = Qr
 -- block 1
 refine AW.sg [1] [1] (@hlw) ?_
 refine AW.seq fun K1 hK1 => ?_
 refine AW.so 0 (fun ii => if ii = 1 then some (.reads false (.bool true)) else none) [1,7] [1] (@hlw) ?_
 repeat with_reducible refine cj ?_ ?_
 all_goals try first | (exact h) | omega | exact ent (by kernel_rfl)
 refine AW.cn ?_ ?_
 ·intro hb
  simp at hb
 ·intro hb
  refine AW.skip ?_
  refine hK1 _ _ _ ?_; clear hK1
  refine AW.so 0 (fun ii => if ii = 1 then some (.reads true (.agg [.rsl 2 (tabR c)])) else none) [3] [3] (@hlw) ?_
  repeat with_reducible refine cj ?_ ?_
  all_goals try first | (exact ha) | omega | exact ent (by kernel_rfl)
  refine AW.seq fun K2 hK2 => ?_
  refine AW.sg [3,12,13] [3] (@hlw) ?_
  refine AW.block ?_
  refine AW.loopE (fun mm ee ss kk => ∃ (j g3 v3 : Nat), n - j = mm ∧ ee = [(3, .ptr ⟨3, g3, none⟩ 0 0), (12, .int .i64 n), (13, .int .i64 (j : Nat))] ∧ ss = [(3, some ⟨g3, v3, 1, [[.rsl 2 (tabR c)]]⟩)] ∧ (j ≤ n ∧ ((List.range j).all fun i => !atT c i i) = true)) ?_ ?_
  -- init 1
  ·exact ⟨_, 0, _, _, rfl, eD, eD, (⟨Nat.zero_le _, rfl⟩)⟩
  rintro mm ee ss kk ⟨j, g3, v3, rfl, rfl, rfl, hI⟩
  generalize hQl1 : thenQ _ _ = Ql1
  obtain ⟨hj, hall⟩ := hI
  refine AW.sg [3,12,13,14] [3] (@hlw) ?_
  refine AW.seq fun K3 hK3 => ?_
  refine AW.cn ?_ ?_
  ·intro hb
   have hhj := hh j (by omega)
   have hrs := range_all_succ (p := fun i => !atT c i i) j
   rw [hall] at hrs
   refine AW.skip ?_
   refine hK3 _ _ _ ?_; clear hK3
   refine AW.seq fun K4 hK4 => ?_
   refine AW.block ?_
   refine AW.sg [3,4,12,13] [3] (@hlw) ?_
   refine AW.so 0 (fun ii => if ii = 3 then some (.reads false (.bool (atT c j j))) else none) [3,12,13,19] [3] (@hlw) ?_
   repeat with_reducible refine cj ?_ ?_
   all_goals try first | (exact hhj) | omega | exact ent (by kernel_rfl)
   refine AW.cn ?_ ?_
   ·intro hb
    refine AW.sg [2] [] (@hlw) ?_
    -- ret 2
    rw [← hQl1, ← hQr]
    refine AW.rt (@hlw) ?_
    exact Wk.of_eq (by rw [hac, range_all_false (j := j) (by omega) (by rw [hb]; rfl)])
   ·intro hb
    refine AW.skip ?_
    refine hK4 _ _ _ ?_; clear hK4
    refine AW.rg [3,12,13] [3] (@hlw) ?_
    -- again 1
    rw [← hQl1]; change Exists _
    exact ⟨_, eO, j + 1, _, _, rfl, eD, eD, (⟨by omega, by rw [hrs, hb]; rfl⟩)⟩
  ·intro hb
   -- exit 0
   refine AW.kx [] [] ?_
   rw [← hQl1]
   refine hK2 _ _ _ ?_; clear hK2
   refine AW.sg [2] [] (@hlw) ?_
   -- ret 3
   rw [← hQr]
   refine AW.rt (@hlw) ?_
   have hj2 : j = n := by omega
   subst hj2
   exact Wk.of_eq (by rw [hac, hall])
end Go.Proofs.D.R

namespace Go.Proofs.D.R
open Go.AM Go
set_option maxRecDepth 100000
set_option maxHeartbeats 2000000
theorem index_r (l : List Int) (x : Int) (hl : l.length ≤ 9223372036854775807) : Reads Tryd.prog 36 false [.rsl 1 (ints l), .int .i64 x] (.int .i64 (ixf (fun y => decide (x = y)) l)) := by
 refine Reads.body (rs := [.tmp 4]) Tryd.func36 rfl Tryd.ntmps36 rfl (by simp) ?_
 generalize hQr : retQ _ _ _ = Qr
 -- block 1
 refine AW.sg [0,1] [] trivial ?_
 refine AW.seq fun K1 hK1 => ?_
 refine AW.sg [0,1,7,8] [] trivial ?_
 refine AW.block ?_
 refine AW.loopE (fun mm ee ss kk => ∃ (j : Nat), l.length - j = mm ∧ ee = [(0, .rsl 1 (ints l)), (1, .int .i64 x), (7, .int .i64 l.length), (8, .int .i64 (j : Nat))] ∧ ss = [] ∧ (j ≤ l.length ∧ (l.take j).any (fun y => decide (x = y)) = false)) ?_ ?_
 -- init 1
 ·exact ⟨_, 0, rfl, eD, eD, eT⟩
 rintro mm ee ss kk ⟨j, rfl, rfl, rfl, hI⟩
 generalize hQl1 : thenQ _ _ = Ql1
 obtain ⟨hj, hall⟩ := hI
 refine AW.sg [0,1,7,8,9] [] trivial ?_
 refine AW.seq fun K2 hK2 => ?_
 refine AW.cn ?_ ?_
 ·intro hb
  obtain ⟨y, hy⟩ := getI (l := l) (j := j) (by omega)
  have hgy := ints_get hy
  have hats := any_take_succ (p := fun y => decide (x = y)) hy
  refine AW.skip ?_
  refine hK2 _ _ _ ?_; clear hK2
  refine AW.seq fun K3 hK3 => ?_
  refine AW.block ?_
  refine AW.sg [0,1,5,7,8] [] trivial ?_
  refine AW.sg [0,1,5,7,8,16] [] (@hgy) ?_
  refine AW.cn ?_ ?_
  ·intro hb
   refine AW.sg [4] [] trivial ?_
   -- ret 1
   rw [← hQl1, ← hQr]
   refine AW.rt trivial ?_
   exact Wk.of_eq (by rw [ixf_at hy (decide_eq_true hb) hall])
  ·intro hb
   refine AW.skip ?_
   refine hK3 _ _ _ ?_; clear hK3
   refine AW.rg [0,1,7,8] [] trivial ?_
   -- again 1
   rw [← hQl1]; change Exists _
   exact ⟨_, eO, j + 1, rfl, eD, eD, (⟨by omega, by rw [hats, hall, decide_eq_false hb]; rfl⟩)⟩
 ·intro hb
  -- exit 0
  refine AW.kx [] [] ?_
  rw [← hQl1]
  refine hK1 _ _ _ ?_; clear hK1
  refine AW.sg [4] [] trivial ?_
  -- ret 2
  rw [← hQr]
  refine AW.rt trivial ?_
  exact Wk.of_eq (by rw [List.take_of_length_le (by omega)] at hall; rw [ixf_none hall])
def nats (l : List Nat) : List Int := l.map fun (i : Nat) => (i : Int)
theorem nats_app (l : List Nat) (i : Nat) : nats l ++ [(i : Int)] = nats (l ++ [i]) := by simp [nats]
theorem nats_len (l : List Nat) : (nats l).length = l.length := by simp [nats]
theorem order_g (n : Nat) (t : List (List Bool)) (hs : Sq n t) (hn : n ≤ 512) (hac : acyc n t = true) : Reads Tryd.prog 52 false [relB t] (.tup [.rsl 1 (ints (nats (ordO n t n []))), .int .i64 ((0 : Nat) : Int)]) := by
 have h := valid_g n t hs hn
 have h2 := acyclic_g n t hs hn
 rw [hac] at h2
 have ha := all_r n t hs hn
 have hlt : (tabR t).length = n := by rw [tabR_len, hs.len]
 have hpl : (pairsT t n).length ≤ 262144 := Nat.le_trans (pairsAt_le t n n) (Nat.le_trans (Nat.mul_le_mul hn hn) (by decide))
 have hin := pairsT_in (t := t) (n := n)
 have hz : ∀ i, (List.replicate n (0 : Int)).getD i 0 = 0 := fun i => by rw [List.getD_eq_getElem?_getD, List.getElem?_replicate]; split <;> rfl
 have hbf := befO_nil n t
 have hib := fun L j => incPs_bnd L j _ hz
 have hil := fun L => incPs_len L (List.replicate n (0 : Int))
 have hh2 := fun i j hi hj => rhas_r n t hs hn i j hi hj
 unfold relB at *
 generalize hP : pairsT t n = P at *
 refine Reads.body (rs := [.tmp 2, .tmp 3]) Tryd.func52 rfl Tryd.ntmps52 rfl (by simp) ?_
 generalize hQr : retQ _ _ _ = Qr
 -- block 4
 refine AW.sg [1] [1] (@hlt) ?_
 refine AW.seq fun K1 hK1 => ?_
 refine AW.block ?_
 refine AW.so 0 (fun ii => if ii = 1 then some (.reads false (.bool true)) else none) [1,10] [1] (@hlt) ?_
 repeat with_reducible refine cj ?_ ?_
 all_goals try first | (exact h) | omega | exact ent (by kernel_rfl)
 refine AW.cn ?_ ?_
 ·intro hb
  simp at hb
 ·intro hb
  refine AW.so 0 (fun ii => if ii = 1 then some (.reads false (.bool true)) else none) [1,14] [1] (@hlt) ?_
  repeat with_reducible refine cj ?_ ?_
  all_goals try first | (exact h2) | omega | exact ent (by kernel_rfl)
  refine AW.cn ?_ ?_
  ·intro hb
   simp at hb
  ·intro hb
   refine AW.skip ?_
   refine hK1 _ _ _ ?_; clear hK1
   refine AW.sg [1,4] [1,21] (@hlt) ?_
   refine AW.seq fun K2 hK2 => ?_
   refine AW.so 0 (fun ii => if ii = 1 then some (.reads true (.rsl 2 (P.map pairV))) else none) [1,4,23,24,25] [1,21] (@hlt) ?_
   repeat with_reducible refine cj ?_ ?_
   all_goals try first | (exact ha) | omega | exact ent (by kernel_rfl)
   refine AW.block ?_
   refine AW.loopE (fun mm ee ss kk => ∃ (j g1 v1 g v : Nat), P.length - j = mm ∧ ee = [(1, .ptr ⟨1, g1, none⟩ 0 0), (4, .sl ⟨21, g, none⟩ 0 n none), (23, .rsl 2 (P.map pairV)), (24, .int .i64 P.length), (25, .int .i64 (j : Nat))] ∧ ss = [(1, some ⟨g1, v1, 1, [[.rsl 2 (tabR t)]]⟩), (21, some ⟨g, v, 1, ints (incPs (List.replicate n 0) (P.take j))⟩)] ∧ (j ≤ P.length)) ?_ ?_
   -- init 1
   ·refine ⟨_, 0, ?_, ?_, ?_, ?_, rfl, ?henv, ?hstore, ?hst⟩
    case henv =>
     repeat' (first | rfl | refine env_cons ?_ ?_ | refine st_cons ?_ ?_ ?_ ?_ | refine int_eq ?_ | refine bool_eq ?_ | refine rsl_eq ?_ | refine osl_eq ?_ | refine sl_eq ?_ ?_ ?_ | refine ptr_eq ?_ ?_ ?_ | refine agg_eq ?_ | refine es_cons ?_ ?_ | refine row_cons ?_ ?_)
     all_goals (first | (simp; done) | omega | (simp; omega))
    case hstore =>
     repeat' (first | rfl | refine env_cons ?_ ?_ | refine st_cons ?_ ?_ ?_ ?_ | refine int_eq ?_ | refine bool_eq ?_ | refine rsl_eq ?_ | refine osl_eq ?_ | refine sl_eq ?_ ?_ ?_ | refine ptr_eq ?_ ?_ ?_ | refine agg_eq ?_ | refine es_cons ?_ ?_ | refine row_cons ?_ ?_)
     all_goals (simp [ints, incPs])
    case hst =>
     first | trivial | omega | (simp; done) | (simp; omega)
   rintro mm ee ss kk ⟨j, g1, v1, g, v, rfl, rfl, rfl, hI⟩
   generalize hQl1 : thenQ _ _ = Ql1
   refine AW.sg [1,4,23,24,25,26] [1,21] (@hlt) ?_
   refine AW.seq fun K3 hK3 => ?_
   refine AW.cn ?_ ?_
   ·intro hb
    obtain ⟨p, hp⟩ := getI (l := P) (j := j) (by omega)
    have hgp := getV (f := pairV) hp
    have hip := hin p (List.mem_of_getElem? hp)
    have hpt := incPs_take (B := List.replicate n (0 : Int)) hp
    unfold inP at hip
    have hl2 := hil (P.take j)
    have hb2 := hib (P.take j) p.2.toNat
    rw [List.length_replicate] at hl2
    rw [List.length_take] at hb2
    generalize incPs (List.replicate n 0) (P.take j) = B at *
    have hgB := ints_getD (l := B) (i := p.2.toNat) (by omega)
    unfold incP at hpt
    refine AW.skip ?_
    refine hK3 _ _ _ ?_; clear hK3
    refine AW.seq fun K4 hK4 => ?_
    refine AW.block ?_
    refine AW.sg [1,4,6,23,24,25] [1,6,21] (e3 @hlt @hgp @pairV.eq_1) ?_
    refine AW.rg [1,4,23,24,25] [1,21] (e4 @hlt @pairV.eq_1 @hgB @hl2) ?_
    refine hK4 _ _ _ ?_; clear hK4
    refine AW.rg [1,4,23,24,25] [1,21] (@hlt) ?_
    -- again 1
    rw [← hQl1]; change Exists _
    refine ⟨_, ?hm, j + 1, ?_, ?_, ?_, ?_, rfl, ?henv, ?hstore, ?hst⟩
    case henv =>
     repeat' (first | rfl | refine env_cons ?_ ?_ | refine st_cons ?_ ?_ ?_ ?_ | refine int_eq ?_ | refine bool_eq ?_ | refine rsl_eq ?_ | refine osl_eq ?_ | refine sl_eq ?_ ?_ ?_ | refine ptr_eq ?_ ?_ ?_ | refine agg_eq ?_ | refine es_cons ?_ ?_ | refine row_cons ?_ ?_)
     all_goals (first | (simp; done) | omega | (simp; omega))
    case hstore =>
     repeat' (first | rfl | refine env_cons ?_ ?_ | refine st_cons ?_ ?_ ?_ ?_ | refine int_eq ?_ | refine bool_eq ?_ | refine rsl_eq ?_ | refine osl_eq ?_ | refine sl_eq ?_ ?_ ?_ | refine ptr_eq ?_ ?_ ?_ | refine agg_eq ?_ | refine es_cons ?_ ?_ | refine row_cons ?_ ?_)
     all_goals (rw [hpt])
    case hst =>
     first | trivial | omega | (simp; done) | (simp; omega)
    case hm => omega
   ·intro hb
    have hj : j = P.length := by omega
    subst hj
    rw [List.take_of_length_le (Nat.le_refl _), hbf]
    -- exit 1
    refine AW.exit ?_
    rw [← hQl1]
    refine hK2 _ _ _ ?_; clear hK2
    refine AW.sg [1,4,7] [1,21] (@hlt) ?_
    refine AW.seq fun K5 hK5 => ?_
    refine AW.sg [1,4,7,39,40] [1,21] (@hlt) ?_
    refine AW.block ?_
    refine AW.nilOwn 7 200 1 (by simp only [go_sem, reduceIte, zE]) ?_
    refine AW.keep [1, 4, 7, 39, 40] [1, 21, 200] ?_
    simp only [go_sem, reduceIte, zE]
    refine AW.loopE (fun mm ee ss kk => ∃ (m g1 v1 g v g7 v7 : Nat) (out : List Nat), m + 1 = mm ∧ ee = [(1, .ptr ⟨1, g1, none⟩ 0 0), (4, .sl ⟨21, g, none⟩ 0 n none), (7, .sl ⟨200, g7, none⟩ 0 out.length none), (39, .int .i64 n), (40, .int .i64 out.length)] ∧ ss = [(1, some ⟨g1, v1, 1, [[.rsl 2 (tabR t)]]⟩), (21, some ⟨g, v, 1, ints (befO n t out)⟩), (200, some ⟨g7, v7, 1, ints (nats out)⟩)] ∧ (OrdI n t out ∧ out.length + m = n ∧ ordO n t m out = ordO n t n [])) ?_ ?_
    -- init 2
    ·exact ⟨_, n, _, _, _, _, _, _, [], rfl, eD, eD, (⟨OrdI.nil n t, by simp, rfl⟩)⟩
    rintro mm ee ss kk ⟨m, g1, v1, g, v, g7, v7, out, rfl, rfl, rfl, hI⟩
    generalize hQl2 : thenQ _ _ = Ql2
    obtain ⟨hoi, hom, hoo⟩ := hI
    refine AW.sg [1,4,7,39,40,41] [1,21,200] (@hlt) ?_
    refine AW.seq fun K6 hK6 => ?_
    refine AW.cn ?_ ?_
    ·intro hb
     obtain ⟨m, rfl⟩ : ∃ m', m = m' + 1 := ⟨m - 1, by omega⟩
     obtain ⟨i, hi1, hi2, hi3⟩ := OrdI.next hs hac (out := out) (by omega)
     have hix := befO_ix hi1
     have hbl := befO_len n t out
     have hidx := index_r (befO n t out) 0 (by omega)
     rw [hix] at hidx
     have hst := befO_step hs hac hoi hi2 hi3
     have hsn := hoi.snoc hi2 hi3
     have hoo2 : ordO n t m (out ++ [i]) = ordO n t n [] := by rw [← hoo]; show _ = ordO n t (m + 1) out; unfold ordO; rw [hi1]; cases m <;> rfl
     have hbr : ∀ j, j < n → -1 ≤ (befO n t out).getD j 0 ∧ (befO n t out).getD j 0 ≤ n := fun j hj => by
      rw [befO_get hj]
      have : cntO n t out j ≤ n := by unfold cntO; have := List.length_filter_le (fun k => atT t k j && !out.contains k) (List.range n); simp at this ⊢; exact this
      split <;> omega
     generalize befO n t out = B at *
     have htb : (ints B).take n = ints B := List.take_of_length_le (by rw [ints_len]; omega)
     have hto : (ints (nats out)).take out.length = ints (nats out) := List.take_of_length_le (by rw [ints_len, nats_len]; exact Nat.le_refl _)
     have hbl2 : (B.set i (-1)).length = n := by simp [hbl]
     have hdl := decJ_len t i (B.set i (-1))
     have hdg := fun j => decJ_get t i (B.set i (-1)) j
     have hbr2 : ∀ j, j < n → -1 ≤ (B.set i (-1)).getD j 0 ∧ (B.set i (-1)).getD j 0 ≤ n := fun j hj => by
      by_cases e : i = j
      ·subst e; rw [Go.AM.getD_set_eq (by omega)]; omega
      ·rw [Go.AM.getD_set_ne e]; exact hbr j hj
     refine AW.skip ?_
     refine hK6 _ _ _ ?_; clear hK6
     refine AW.seq fun K7 hK7 => ?_
     refine AW.block ?_
     refine AW.so 0 (fun ii => if ii = 1 then some (.reads true (.int .i64 (i : Nat))) else none) [1,4,7,8,39,40] [1,21,200] (e2 @hlt @htb) ?_
     repeat with_reducible refine cj ?_ ?_
     all_goals try first | (exact Reads.flat hidx rfl) | omega | exact ent (by kernel_rfl)
     refine AW.seq fun K8 hK8 => ?_
     refine AW.regionK 0 (fun _ => none) [1, 4, 7, 8, 39, 40] [1, 21, 200] ?_
     simp only [go_sem, reduceIte, reduceCtorEq, zA, zM, zE, zL, zD, zS, zP, zB, zI, zR, hlt, hto, ints_app, nats_app, nats_len]
     repeat with_reducible refine cj ?_ ?_
     all_goals try first | omega | (simp [scP, scalar]; done) | exact scP_words _ | exact scP_ints _ | exact scP_bools _
     refine hK8 _ _ _ ?_; clear hK8
     refine AW.seq fun K9 hK9 => ?_
     refine AW.regionK 0 (fun _ => none) [1, 4, 7, 8, 39, 40] [1, 21, 200] ?_
     simp only [go_sem, reduceIte, reduceCtorEq, zA, zM, zE, zL, zD, zS, zP, zB, zI, zR, hlt, hbl]
     repeat with_reducible refine cj ?_ ?_
     all_goals try first | omega
     refine hK9 _ _ _ ?_; clear hK9
     refine AW.sg [1,4,7,8,39,40,53,54] [1,21,200] (@hlt) ?_
     refine AW.block ?_
     refine AW.loopE (fun mm ee ss kk => ∃ (j g1 v1 g v g7 v7 : Nat), n - j = mm ∧ ee = [(1, .ptr ⟨1, g1, none⟩ 0 0), (4, .sl ⟨21, g, none⟩ 0 n none), (7, .sl ⟨200, g7, none⟩ 0 (out ++ [i]).length none), (8, .int .i64 (i : Nat)), (39, .int .i64 n), (40, .int .i64 out.length), (53, .int .i64 n), (54, .int .i64 (j : Nat))] ∧ ss = [(1, some ⟨g1, v1, 1, [[.rsl 2 (tabR t)]]⟩), (21, some ⟨g, v, 1, ints (iter (decJ t i) j (B.set i (-1)))⟩), (200, some ⟨g7, v7, 1, ints (nats (out ++ [i]))⟩)] ∧ (j ≤ n)) ?_ ?_
     -- init 3
     ·exact ⟨_, 0, _, _, _, _, _, _, rfl, eD, eD, eT⟩
     rintro mm ee ss kk ⟨j, g1, v1, g, v, g7, v7, rfl, rfl, rfl, hI⟩
     generalize hQl3 : thenQ _ _ = Ql3
     refine AW.sg [1,4,7,8,39,40,53,54,55] [1,21,200] (@hlt) ?_
     refine AW.seq fun K10 hK10 => ?_
     refine AW.cn ?_ ?_
     ·intro hb
      have hhr := hh2 i j (by omega) (by omega)
      have hus : iter (decJ t i) (j + 1) (B.set i (-1)) = decJ t i j (iter (decJ t i) j (B.set i (-1))) := rfl
      rw [decJ_eq] at hus
      have hl2 := hdl j
      have hg2 := hdg j j (by omega)
      rw [if_neg (by omega)] at hg2
      have hb2 := hbr2 j (by omega)
      generalize iter (decJ t i) j (B.set i (-1)) = U at *
      have hgU := ints_getD (l := U) (i := j) (by omega)
      refine AW.skip ?_
      refine hK10 _ _ _ ?_; clear hK10
      refine AW.seq fun K11 hK11 => ?_
      refine AW.block ?_
      refine AW.sg [1,4,7,8,9,39,40,53,54] [1,21,200] (@hlt) ?_
      refine AW.so 0 (fun ii => if ii = 3 then some (.reads false (.bool (atT t i j))) else none) [1,4,7,8,9,39,40,53,54,60] [1,21,200] (@hlt) ?_
      repeat with_reducible refine cj ?_ ?_
      all_goals try first | (exact hhr) | omega | exact ent (by kernel_rfl)
      refine AW.cn ?_ ?_
      ·intro hb
       rw [if_pos hb] at hus
       refine AW.rg [1,4,7,8,39,40,53,54] [1,21,200] (e2 @hlt @hgU) ?_
       refine hK11 _ _ _ ?_; clear hK11
       refine AW.rg [1,4,7,8,39,40,53,54] [1,21,200] (@hlt) ?_
       -- again 3
       rw [← hQl3]; change Exists _
       refine ⟨_, ?hm, j + 1, ?_, ?_, ?_, ?_, ?_, ?_, rfl, ?henv, ?hstore, ?hst⟩
       case henv =>
        repeat' (first | rfl | refine env_cons ?_ ?_ | refine st_cons ?_ ?_ ?_ ?_ | refine int_eq ?_ | refine bool_eq ?_ | refine rsl_eq ?_ | refine osl_eq ?_ | refine sl_eq ?_ ?_ ?_ | refine ptr_eq ?_ ?_ ?_ | refine agg_eq ?_ | refine es_cons ?_ ?_ | refine row_cons ?_ ?_)
        all_goals (first | (simp; done) | omega | (simp; omega))
       case hstore =>
        repeat' (first | rfl | refine env_cons ?_ ?_ | refine st_cons ?_ ?_ ?_ ?_ | refine int_eq ?_ | refine bool_eq ?_ | refine rsl_eq ?_ | refine osl_eq ?_ | refine sl_eq ?_ ?_ ?_ | refine ptr_eq ?_ ?_ ?_ | refine agg_eq ?_ | refine es_cons ?_ ?_ | refine row_cons ?_ ?_)
        all_goals (rw [hus])
       case hst =>
        first | trivial | omega | (simp; done) | (simp; omega)
       case hm => omega
      ·intro hb
       rw [if_neg (by rw [hb]; simp)] at hus
       refine AW.skip ?_
       refine hK11 _ _ _ ?_; clear hK11
       refine AW.rg [1,4,7,8,39,40,53,54] [1,21,200] (@hlt) ?_
       -- again 3
       rw [← hQl3]; change Exists _
       refine ⟨_, ?hm, j + 1, ?_, ?_, ?_, ?_, ?_, ?_, rfl, ?henv, ?hstore, ?hst⟩
       case henv =>
        repeat' (first | rfl | refine env_cons ?_ ?_ | refine st_cons ?_ ?_ ?_ ?_ | refine int_eq ?_ | refine bool_eq ?_ | refine rsl_eq ?_ | refine osl_eq ?_ | refine sl_eq ?_ ?_ ?_ | refine ptr_eq ?_ ?_ ?_ | refine agg_eq ?_ | refine es_cons ?_ ?_ | refine row_cons ?_ ?_)
        all_goals (first | (simp; done) | omega | (simp; omega))
       case hstore =>
        repeat' (first | rfl | refine env_cons ?_ ?_ | refine st_cons ?_ ?_ ?_ ?_ | refine int_eq ?_ | refine bool_eq ?_ | refine rsl_eq ?_ | refine osl_eq ?_ | refine sl_eq ?_ ?_ ?_ | refine ptr_eq ?_ ?_ ?_ | refine agg_eq ?_ | refine es_cons ?_ ?_ | refine row_cons ?_ ?_)
        all_goals (rw [hus])
       case hst =>
        first | trivial | omega | (simp; done) | (simp; omega)
       case hm => omega
     ·intro hb
      have hj : j = n := by omega
      subst hj
      rw [hst]
      -- exit 5
      refine AW.exit ?_
      rw [← hQl3]
      refine hK7 _ _ _ ?_; clear hK7
      refine AW.rg [1,4,7,39,40] [1,21,200] (@hlt) ?_
      -- again 2
      rw [← hQl2]; change Exists _
      exact ⟨_, eO, m, _, _, _, _, _, _, out ++ [i], rfl, eD, eD, (⟨hsn, by simp; omega, hoo2⟩)⟩
    ·intro hb
     -- exit 3
     refine AW.exit ?_
     rw [← hQl2]
     refine hK5 _ _ _ ?_; clear hK5
     refine AW.sg [2,3] [200] (@hlt) ?_
     -- ret 3
     rw [← hQr]
     refine AW.rt (@hlt) ?_
     have hm0 : m = 0 := by omega
     subst hm0
     have hor : out = ordO n t n [] := hoo
     rw [← hor, List.take_of_length_le (by rw [nats_len]; exact Nat.le_refl _)]
     exact Wk.refl _
end Go.Proofs.D.R

/- Critical pairs. -/
namespace Go.AM
@[go_sem] theorem vwcF_lisO (s : Store) (d : Nat) (nb : List (List Int)) : (lisO nb).map (fun cs => cs.map (vwcF s (d + 1))) = lisR nb := by
  simp [lisO, lisR, vwcF_osl, vwF_ints]
/-- Is a pair critical. -/
def dwB (n : Nat) (t : List (List Bool)) (x y : Nat) : Bool := ((belL n t).getD x []).any fun z : Int => !atT t z.toNat y
def crB (n : Nat) (t : List (List Bool)) (x y : Nat) : Bool := !(decide (x = y) || atT t x y || atT t y x) && (!dwB n t x y && subB (rowT t y) (rowT t x))
def crR (n : Nat) (t : List (List Bool)) (x j : Nat) : List (Nat × Nat) := ((List.range j).filter (crB n t x)).map fun y => (x, y)
def crA (n : Nat) (t : List (List Bool)) (i : Nat) : List (Nat × Nat) := (List.range i).flatMap fun x => crR n t x n
def critT (n : Nat) (t : List (List Bool)) : List (Nat × Nat) := crA n t n
theorem crR_succ (n : Nat) (t : List (List Bool)) (x j : Nat) : crR n t x (j + 1) = crR n t x j ++ if crB n t x j = true then [(x, j)] else [] := by
  unfold crR
  rw [List.range_succ, List.filter_append, List.map_append]
  simp only [List.filter_cons, List.filter_nil]
  split <;> rfl
theorem crR_le (n : Nat) (t : List (List Bool)) (x j : Nat) : (crR n t x j).length ≤ j := by
  unfold crR; rw [List.length_map]; have := List.length_filter_le (crB n t x) (List.range j); simpa using this
theorem crA_succ (n : Nat) (t : List (List Bool)) (i : Nat) : crA n t (i + 1) = crA n t i ++ crR n t i n := by
  unfold crA; rw [List.range_succ, List.flatMap_append]; simp
theorem crA_le (n : Nat) (t : List (List Bool)) : ∀ i, (crA n t i).length ≤ n * i
  | 0 => by simp [crA]
  | i + 1 => by rw [crA_succ, List.length_append, Nat.mul_succ]; have := crA_le n t i; have := crR_le n t i n; omega
theorem crA_mem {n : Nat} {t : List (List Bool)} {i : Nat} {p : Nat × Nat} : p ∈ crA n t i ↔ p.1 < i ∧ p.2 < n ∧ crB n t p.1 p.2 = true := by
  unfold crA crR
  simp only [List.mem_flatMap, List.mem_range, List.mem_map, List.mem_filter]
  constructor
  · rintro ⟨x, hx, y, ⟨hy, hb⟩, rfl⟩; exact ⟨hx, hy, hb⟩
  · rintro ⟨h1, h2, h3⟩; exact ⟨p.1, h1, p.2, ⟨h2, h3⟩, rfl⟩
theorem belL_mem {n : Nat} {t : List (List Bool)} {x : Nat} (hx : x < n) {z : Int} (hz : z ∈ (belL n t).getD x []) : 0 ≤ z ∧ z < n := by
  unfold belL at hz
  rw [belAt_get hx] at hz
  simp only [List.mem_map, List.mem_filter, List.mem_range] at hz
  obtain ⟨j, ⟨hj, _⟩, rfl⟩ := hz
  omega
theorem belL_le {n : Nat} {t : List (List Bool)} {x : Nat} (hx : x < n) : ((belL n t).getD x []).length ≤ n := by
  unfold belL
  rw [belAt_get hx, List.length_map]
  have := List.length_filter_le (fun j => atT t j x) (List.range n); simpa using this
theorem renC_rsl4 (m : Ref → Option Ref) (sz : Nat) (es : List (List AV)) : renC m 4 (.rsl sz es) = .rsl sz es := rfl
theorem renC_tabR (m : Ref → Option Ref) (t : List (List Bool)) : (tabR t).map (fun row => row.map (renC m 4)) = tabR t := by
  simp only [tabR, List.map_map]
  refine List.map_congr_left fun b _ => ?_
  simp only [Function.comp, rowB, List.map_cons, List.map_nil, renC_rsl4]
  rw [show renC m 4 (.int .i64 (b.length : Int)) = .int .i64 b.length from rfl]
theorem scP_tabR (t : List (List Bool)) : scP (tabR t) := fun cs h a ha => by
  simp only [tabR, List.mem_map] at h
  obtain ⟨b, _, rfl⟩ := h
  simp only [rowB, List.mem_cons, List.not_mem_nil, or_false] at ha
  rcases ha with rfl | rfl <;> rfl
end Go.AM
namespace Go.AM
/-- Pairs that are turned round and added. -/
def addT (t : List (List Bool)) (x : Nat × Nat) : List (List Bool) := putT t x.2 x.1
def addTs (t : List (List Bool)) (L : List (Nat × Nat)) : List (List Bool) := L.foldl addT t
def outP (n : Nat) (x : Int × Int) : Bool := decide ((if x.2 < x.1 then x.2 else x.1) < 0) || decide ((n : Int) ≤ if x.1 < x.2 then x.2 else x.1)
theorem outP_eq (n : Nat) (x : Int × Int) : outP n x = (decide (x.1 < 0) || decide ((n : Int) ≤ x.1) || decide (x.2 < 0) || decide ((n : Int) ≤ x.2)) := by
  have h : (outP n x = true) = ((decide (x.1 < 0) || decide ((n : Int) ≤ x.1) || decide (x.2 < 0) || decide ((n : Int) ≤ x.2)) = true) := by
    simp only [outP, Bool.or_eq_true, decide_eq_true_eq, eq_iff_iff]
    split <;> split <;> omega
  exact Bool.eq_iff_iff.2 (h ▸ Iff.rfl)
theorem addT_sq {n : Nat} {t : List (List Bool)} (hs : Sq n t) {x : Nat × Nat} (hx : x.2 < n) : Sq n (addT t x) := hs.putT hx _
theorem addTs_sq {n : Nat} : ∀ {L : List (Nat × Nat)} {t : List (List Bool)}, Sq n t → (∀ x ∈ L, x.2 < n) → Sq n (addTs t L)
  | [], _, hs, _ => hs
  | x :: L, _, hs, h => addTs_sq (L := L) (addT_sq hs (h x (List.mem_cons_self ..))) fun y hy => h y (List.mem_cons_of_mem _ hy)
theorem addTs_take {t : List (List Bool)} {L : List (Nat × Nat)} {k : Nat} {x : Nat × Nat} (hx : L[k]? = some x) : addTs t (L.take (k + 1)) = addT (addTs t (L.take k)) x := by
  unfold addTs; rw [List.take_add_one, hx, List.foldl_append]; rfl
theorem tabR_set (t : List (List Bool)) (i : Nat) (b : List Bool) : (tabR t).set i (rowB b) = tabR (t.set i b) := by simp [tabR, List.map_set]
end Go.AM

namespace Go.Proofs.D
open Go.AM Go
set_option maxRecDepth 100000
set_option maxHeartbeats 2000000
theorem below_r (n : Nat) (t : List (List Bool)) (hs : Sq n t) (hn : n ≤ 512) : Reads Tryd.prog 70 true [relB t] (.rsl 1 (lisR (belL n t))) := by
 have hlt : (tabR t).length = n := by rw [tabR_len, hs.len]
 have hgr := fun i hi => tabR_get (t := t) (i := i) hi
 have hmb := fun b hb => members_b b hb
 have hlen := hs.len
 have hba := belAt_len t n
 have hbz := belAt_zero t n
 have hbs := fun i hi => belAt_succ hs (i := i) hi
 have hbr := fun i x hx => belAt_row (t := t) (n := n) (i := i) (x := x) hx
 unfold relB rowB at *
 have hbn : belL n t = belAt t n n := rfl
 rw [hbn]
 refine Reads.bodyF (rs := [.tmp 2]) Tryd.func70 rfl Tryd.ntmps70 rfl (by simp) ?_
 generalize hQr : retQ _ _ _ = Qr
 -- block 1
 refine AW.sg [1] [1,13] (@hlt) ?_
 refine AW.sg [1,3] [1,13] (@hlt) ?_
 refine AW.nils_own (pid := 13) 1 (lisO (List.replicate n [])) (by simp only [go_sem, reduceIte, zE]; rfl) (show (1 : Nat) ≠ mapSz by decide) (by simp [lisO]) ?_ ?_
 ·intro i hi
  simp only [List.length_replicate] at hi
  have h1 : (List.replicate n [AV.nilsl]).getD i [] = [.nilsl] := by simp [List.getD_eq_getElem?_getD, hi]
  rw [h1, lisO_get (by simpa using hi)]
  refine ⟨rfl, fun j => ?_⟩
  cases j with
  | zero => exact .inr ⟨rfl, by simp [List.getD_eq_getElem?_getD, hi, ints]⟩
  | succ j => exact .inl rfl
 refine AW.keep [1, 3] [1, 13] ?_
 simp only [go_sem, reduceIte, zE]
 refine AW.seq fun K1 hK1 => ?_
 refine AW.sg [3,15,16,17] [13] (@hlt) ?_
 refine AW.block ?_
 refine AW.loopE (fun mm ee ss kk => ∃ (i g16 v16 : Nat), n - i = mm ∧ ee = [(3, .sl ⟨13, g16, none⟩ 0 n none), (15, .rsl 2 (tabR t)), (16, .int .i64 n), (17, .int .i64 (i : Nat))] ∧ ss = [(13, some ⟨g16, v16, 1, lisO (belAt t n i)⟩)] ∧ (i ≤ n)) ?_ ?_
 -- init 1
 ·refine ⟨_, 0, ?_, ?_, rfl, ?henv, ?hstore, ?hst⟩
  case henv =>
   repeat' (first | rfl | refine env_cons ?_ ?_ | refine st_cons ?_ ?_ ?_ ?_ | refine int_eq ?_ | refine bool_eq ?_ | refine rsl_eq ?_ | refine osl_eq ?_ | refine sl_eq ?_ ?_ ?_ | refine ptr_eq ?_ ?_ ?_ | refine agg_eq ?_ | refine es_cons ?_ ?_ | refine row_cons ?_ ?_)
   all_goals (first | (simp; done) | omega | (simp; omega))
  case hstore =>
   repeat' (first | rfl | refine env_cons ?_ ?_ | refine st_cons ?_ ?_ ?_ ?_ | refine int_eq ?_ | refine bool_eq ?_ | refine rsl_eq ?_ | refine osl_eq ?_ | refine sl_eq ?_ ?_ ?_ | refine ptr_eq ?_ ?_ ?_ | refine agg_eq ?_ | refine es_cons ?_ ?_ | refine row_cons ?_ ?_)
   all_goals (rw [hbz])
  case hst =>
   first | trivial | omega | (simp; done) | (simp; omega)
 rintro mm ee ss kk ⟨i, g16, v16, rfl, rfl, rfl, hI⟩
 generalize hQl1 : thenQ _ _ = Ql1
 refine AW.sg [3,15,16,17,18] [13,41] (@hlt) ?_
 refine AW.seq fun K2 hK2 => ?_
 refine AW.cn ?_ ?_
 ·intro hb
  have hi : i < n := by omega
  have hgi := hgr i (by omega)
  have hri := hs.rowLen (i := i) (by omega)
  have hmi := hmb (rowT t i) (by omega)
  have hmm : ∀ j, j ∈ memB (rowT t i) → j < n := fun j hj => by have := (memB_mem.1 hj).1; omega
  have hml := memB_le (rowT t i)
  have hbsi := hbs i hi
  have hnd := memB_nd (rowT t i)
  have hbl := hba i
  have hbri := hbr i
  have hag := fun k x => addsB_get i ((memB (rowT t i)).take k) (belAt t n i) x (hnd.sublist (List.take_sublist _ _))
  have hal := fun k => addsB_len i ((memB (rowT t i)).take k) (belAt t n i)
  generalize hM : memB (rowT t i) = M at *
  generalize hB : belAt t n i = B at *
  refine AW.skip ?_
  refine hK2 _ _ _ ?_; clear hK2
  refine AW.seq fun K3 hK3 => ?_
  refine AW.block ?_
  refine AW.sg [3,4,5,15,16,17] [5,13] (e2 @hlt @hgi) ?_
  refine AW.so 0 (fun ii => if ii = 1 then some (.reads false (.tup [.rsl 1 (ints (nats M)), .int .i64 ((0 : Nat) : Int)])) else none) [3,4,6,15,16,17] [13] (@hlt) ?_
  repeat with_reducible refine cj ?_ ?_
  all_goals try first | (exact hmi) | omega | exact ent (by kernel_rfl)
  refine AW.sg [3,4,15,16,17,27,28,29] [13] (e3 @hlt @ints_len @nats_len) ?_
  refine AW.block ?_
  refine AW.loopE (fun mm ee ss kk => ∃ (k g16 v16 : Nat), M.length - k = mm ∧ ee = [(3, .sl ⟨13, g16, none⟩ 0 n none), (4, .int .i64 (i : Nat)), (15, .rsl 2 (tabR t)), (16, .int .i64 n), (17, .int .i64 (i : Nat)), (27, .rsl 1 (ints (nats M))), (28, .int .i64 M.length), (29, .int .i64 (k : Nat))] ∧ ss = [(13, some ⟨g16, v16, 1, lisO ((M.take k).foldl (addB i) B)⟩)] ∧ (k ≤ M.length)) ?_ ?_
  -- init 2
  ·exact ⟨_, 0, _, _, rfl, eD, eD, eT⟩
  rintro mm ee ss kk ⟨k, g16, v16, rfl, rfl, rfl, hI⟩
  generalize hQl2 : thenQ _ _ = Ql2
  refine AW.sg [3,4,15,16,17,27,28,29,30] [13,41] (@hlt) ?_
  refine AW.seq fun K4 hK4 => ?_
  refine AW.cn ?_ ?_
  ·intro hb
   obtain ⟨q, hq⟩ := getI (l := M) (j := k) (by omega)
   have hgq : (ints (nats M)).getD k [] = [.int .i64 (q : Nat)] := ints_get (by simp [nats, hq])
   have hqn := hmm q (List.mem_of_getElem? hq)
   have hsu : (M.take (k + 1)).foldl (addB i) B = addB i ((M.take k).foldl (addB i) B) q := by rw [List.take_add_one, hq]; simp
   have hal1 := hal k
   have hag1 := hag k q (by omega)
   have hrl : (((M.take k).foldl (addB i) B).getD q []).length ≤ 600 := by
    rw [hag1, List.length_append]
    have := hbri q hqn
    split <;> simp only [List.length_cons, List.length_nil] <;> omega
   generalize hC : (M.take k).foldl (addB i) B = C at *
   have hgn := lisO_get (cs := C) (i := q) (by omega)
   have hs1 : ∀ v, ((lisO C).set q v).getD q [] = v := fun v => getD_set_eq (by rw [lisO_len]; omega) _ _
   refine AW.skip ?_
   refine hK4 _ _ _ ?_; clear hK4
   refine AW.seq fun K5 hK5 => ?_
   refine AW.block ?_
   refine AW.sg [3,4,9,15,16,17,27,28,29] [13] (e2 @hlt @hgq) ?_
   repeat with_reducible refine cj ?_ ?_
   all_goals try first | ((rw [nats_len]; omega)) | omega
   refine AW.regionK 0 (fun _ => none) [3, 4, 15, 16, 17, 27, 28, 29] [13, 41] ?_
   simp only [go_sem, reduceIte, reduceCtorEq, zA, zM, zE, zL, zD, zS, zP, zB, zI, zR, hlt, lisO_len, hal1, hbl, hgn, hs1, ints_len, List.set_set, List.take_length, ints_app, Int.toNat_natCast]
   repeat with_reducible refine cj ?_ ?_
   all_goals try first | omega | (simp [scP, scalar]; done) | exact scP_words _ | exact scP_ints _ | exact scP_bools _
   refine hK5 _ _ _ ?_; clear hK5
   refine AW.adoptK 13 q 0 41 ?_
   simp only [go_sem, reduceIte, zE, hs1, List.set_set, lisO_set, lisO_len]
   repeat refine cj ?_ ?_
   any_goals first | exact noOsl_ints _ | (simp only [List.length_append, List.length_cons, List.length_nil]; done) | omega | decide
   refine AW.keep [3, 4, 15, 16, 17, 27, 28, 29] [13] ?_
   simp only [go_sem, reduceIte, zE]
   refine AW.rg [3,4,15,16,17,27,28,29] [13] (@hlt) ?_
   -- again 2
   rw [← hQl2]; change Exists _
   refine ⟨_, ?hm, k + 1, ?_, ?_, rfl, ?henv, ?hstore, ?hst⟩
   case henv =>
    repeat' (first | rfl | refine env_cons ?_ ?_ | refine st_cons ?_ ?_ ?_ ?_ | refine int_eq ?_ | refine bool_eq ?_ | refine rsl_eq ?_ | refine osl_eq ?_ | refine sl_eq ?_ ?_ ?_ | refine ptr_eq ?_ ?_ ?_ | refine agg_eq ?_ | refine es_cons ?_ ?_ | refine row_cons ?_ ?_)
    all_goals (first | (simp; done) | omega | (simp; omega))
   case hstore =>
    repeat' (first | rfl | refine env_cons ?_ ?_ | refine st_cons ?_ ?_ ?_ ?_ | refine int_eq ?_ | refine bool_eq ?_ | refine rsl_eq ?_ | refine osl_eq ?_ | refine sl_eq ?_ ?_ ?_ | refine ptr_eq ?_ ?_ ?_ | refine agg_eq ?_ | refine es_cons ?_ ?_ | refine row_cons ?_ ?_)
    all_goals (rw [hsu]; rfl)
   case hst =>
    omega
   case hm => omega
  ·intro hb
   have hk : k = M.length := by omega
   subst hk
   rw [List.take_length, hbsi]
   -- exit 2
   refine AW.exit ?_
   rw [← hQl2]
   refine hK3 _ _ _ ?_; clear hK3
   refine AW.rg [3,15,16,17] [13] (@hlt) ?_
   -- again 1
   rw [← hQl1]; change Exists _
   exact ⟨_, eO, i + 1, _, _, rfl, eD, eD, eT⟩
 ·intro hb
  have hi : n = i := by omega
  subst hi
  have htl : (lisO (belAt t n n)).take n = lisO (belAt t n n) := List.take_of_length_le (by rw [lisO_len, hba]; omega)
  -- exit 0
  refine AW.exit ?_
  rw [← hQl1]
  refine hK1 _ _ _ ?_; clear hK1
  refine AW.sg [2] [13] (@hlt) ?_
  -- ret 1
  rw [← hQr]
  refine AW.rt (@hlt) ?_
  exact Wk.of_eq (by simp only [go_sem, reduceIte, zE, htl])
end Go.Proofs.D

namespace Go.Proofs.D
open Go.AM Go
set_option maxRecDepth 100000
set_option maxHeartbeats 2000000
theorem rowN_r (b : List Bool) (hb : b.length ≤ 512) (i : Nat) (hi : i < b.length) : Reads Tryd.prog 44 false [.agg (rowB b), .int .i64 i] (.bool (b.getD i false)) := by
 have h := rowH_r b hb i
 rw [decide_eq_true (by omega : (0 : Int) ≤ i), decide_eq_true (by omega : (i : Int) < b.length)] at h
 simpa using h
theorem crit1_r (n : Nat) (t : List (List Bool)) (hs : Sq n t) (hn : n ≤ 512) (y : Nat) (hy : y < n) (z : Int) (h0 : 0 ≤ z) (h1 : z < n) :
  Reads Tryd.prog 72 false [.int .i64 z, .rptr [.rsl 2 (tabR t)], .rptr [.int .i64 y]] (.bool (!atT t z.toNat y)) := by
 have hg := tabR_get (t := t) (i := z.toNat) (by rw [hs.len]; omega)
 have hl := tabR_len t
 have hlen := hs.len
 have hr := hs.rowLen (i := z.toNat) (by omega)
 have hh := rowN_r (rowT t z.toNat) (by omega) y (by omega)
 have hat : atT t z.toNat y = (rowT t z.toNat).getD y false := rfl
 rw [← hat] at hh
 unfold rowB at hh
 refine Reads.body (rs := [.tmp 4]) Tryd.func72 rfl Tryd.ntmps72 rfl (by simp) ?_
 generalize hQr : retQ _ _ _ = Qr
 -- block 1
 refine AW.sg [0,1,2] [] (e4 @hl @hlen @hg @rowB.eq_1) ?_
 refine AW.sd mixed 0 (fun ii => if ii = 6 then some (.reads false (.bool (atT t z.toNat y))) else none) [4] [] (e4 @hl @hlen @hg @rowB.eq_1) ?_
 repeat with_reducible refine cj ?_ ?_
 all_goals try first | (exact hh) | omega | exact chk (by kernel_rfl) | exact ent (by kernel_rfl)
 -- ret 1
 rw [← hQr]
 refine AW.rt (e4 @hl @hlen @hg @rowB.eq_1) ?_
 exact Wk.of_eq rfl
theorem ixcrit_r (n : Nat) (t : List (List Bool)) (hs : Sq n t) (hn : n ≤ 512) (y : Nat) (hy : y < n) (l : List Int) (hl : l.length ≤ 9223372036854775807) (hin : ∀ j ∈ l, 0 ≤ j ∧ j < n) :
  Reads Tryd.prog 89 false [.rsl 1 (ints l), .fn 72 [.rptr [.rsl 2 (tabR t)], .rptr [.int .i64 y]]] (.int .i64 (ixf (fun z : Int => !atT t z.toNat y) l)) := by
 have hbp := fun j h => crit1_r n t hs hn y hy j (hin j h).1 (hin j h).2
 generalize hp : (fun z : Int => !atT t z.toNat y) = p
 have hbp' : ∀ j, j ∈ l → Reads Tryd.prog 72 false [.int .i64 j, .rptr [.rsl 2 (tabR t)], .rptr [.int .i64 y]] (.bool (p j)) := fun j h => by rw [← hp]; exact hbp j h
 refine Reads.body (rs := [.tmp 4]) Tryd.func89 rfl Tryd.ntmps89 rfl (by simp) ?_
 generalize hQr : retQ _ _ _ = Qr
 -- block 2
 refine AW.sg [0,1] [] (@ints_len) ?_
 refine AW.seq fun K1 hK1 => ?_
 refine AW.sg [0,1,7,8] [] (@ints_len) ?_
 refine AW.block ?_
 refine AW.loopE (fun mm ee ss kk => ∃ (j : Nat), l.length - j = mm ∧ ee = [(0, .rsl 1 (ints l)), (1, .fn 72 [.rptr [.rsl 2 (tabR t)], .rptr [.int .i64 y]]), (7, .int .i64 l.length), (8, .int .i64 (j : Nat))] ∧ ss = [] ∧ (j ≤ l.length ∧ (l.take j).any p = false)) ?_ ?_
 -- init 1
 ·exact ⟨_, 0, rfl, eD, eD, eT⟩
 rintro mm ee ss kk ⟨j, rfl, rfl, rfl, hI⟩
 generalize hQl1 : thenQ _ _ = Ql1
 obtain ⟨hj, hall⟩ := hI
 refine AW.sg [0,1,7,8,9] [] (@ints_len) ?_
 refine AW.seq fun K2 hK2 => ?_
 refine AW.cn ?_ ?_
 ·intro hb
  obtain ⟨x, hx⟩ := getI (l := l) (j := j) (by omega)
  have hgx := ints_get hx
  have hats := any_take_succ (p := p) hx
  have hbx := hbp' x (List.mem_of_getElem? hx)
  refine AW.skip ?_
  refine hK2 _ _ _ ?_; clear hK2
  refine AW.seq fun K3 hK3 => ?_
  refine AW.block ?_
  refine AW.sg [0,1,5,7,8] [] (@ints_len) ?_
  refine AW.so 0 (fun ii => if ii = 5 then some (.reads false (.bool (p x))) else none) [0,1,5,7,8,16] [] (e2 @ints_len @hgx) ?_
  repeat with_reducible refine cj ?_ ?_
  all_goals try first | (exact hbx) | omega | exact ent (by kernel_rfl)
  refine AW.cn ?_ ?_
  ·intro hb
   refine AW.sg [4] [] (@ints_len) ?_
   -- ret 1
   rw [← hQl1, ← hQr]
   refine AW.rt (@ints_len) ?_
   exact Wk.of_eq (by rw [ixf_at hx hb hall])
  ·intro hb
   refine AW.skip ?_
   refine hK3 _ _ _ ?_; clear hK3
   refine AW.rg [0,1,7,8] [] (@ints_len) ?_
   -- again 1
   rw [← hQl1]; change Exists _
   exact ⟨_, eO, j + 1, rfl, eD, eD, (⟨by omega, by rw [hats, hall, hb]; rfl⟩)⟩
 ·intro hb
  -- exit 0
  refine AW.kx [] [] ?_
  rw [← hQl1]
  refine hK1 _ _ _ ?_; clear hK1
  refine AW.sg [4] [] (@ints_len) ?_
  -- ret 2
  rw [← hQr]
  refine AW.rt (@ints_len) ?_
  exact Wk.of_eq (by rw [List.take_of_length_le (by omega)] at hall; rw [ixf_none hall])
theorem ctcrit_r (n : Nat) (t : List (List Bool)) (hs : Sq n t) (hn : n ≤ 512) (x y : Nat) (hx : x < n) (hy : y < n) :
  Reads Tryd.prog 71 false [.rsl 1 (ints ((belL n t).getD x [])), .fn 72 [.rptr [.rsl 2 (tabR t)], .rptr [.int .i64 y]]] (.bool (dwB n t x y)) := by
 have h := ixcrit_r n t hs hn y hy ((belL n t).getD x []) (by have := belL_le (t := t) hx; omega) (fun j hj => belL_mem hx hj)
 have hge := ixf_ge (fun z : Int => !atT t z.toNat y) ((belL n t).getD x [])
 have hd : dwB n t x y = ((belL n t).getD x []).any fun z : Int => !atT t z.toNat y := rfl
 generalize ixf (fun z : Int => !atT t z.toNat y) ((belL n t).getD x []) = q at *
 refine Reads.body (rs := [.tmp 4]) Tryd.func71 rfl Tryd.ntmps71 rfl (by simp) ?_
 generalize hQr : retQ _ _ _ = Qr
 -- block 3
 refine AW.sg [0,1] [] trivial ?_
 refine AW.so 0 (fun ii => if ii = 2 then some (.reads false (.int .i64 q)) else none) [4] [] trivial ?_
 repeat with_reducible refine cj ?_ ?_
 all_goals try first | (exact h) | omega | exact ent (by kernel_rfl)
 -- ret 1
 rw [← hQr]
 refine AW.rt trivial ?_
 exact Wk.of_eq (by rw [hge, hd])
end Go.Proofs.D

namespace Go.Proofs.D
open Go.AM Go
set_option maxRecDepth 100000
set_option maxHeartbeats 2000000
theorem crB_a {n x y : Nat} {t : List (List Bool)} (h : ((x : Int) = (y : Int) ∨ atT t x y = true) ∨ atT t y x = true) : crB n t x y = false := by
 unfold crB
 rcases h with (h | h) | h
 ·rw [decide_eq_true (by omega : x = y)]; rfl
 ·rw [h, Bool.or_true, Bool.true_or]; rfl
 ·rw [h, Bool.or_true]; rfl
theorem crB_b {n x y : Nat} {t : List (List Bool)} (h : (¬ (x : Int) = (y : Int) ∧ atT t x y = false) ∧ atT t y x = false) : crB n t x y = (!dwB n t x y && subB (rowT t y) (rowT t x)) := by
 unfold crB
 rw [decide_eq_false (by omega : ¬ x = y), h.1.2, h.2]; rfl
theorem critical_r (n : Nat) (t : List (List Bool)) (hs : Sq n t) (hn : n ≤ 512) : Reads Tryd.prog 41 true [relB t] (.rsl 2 (prs (critT n t))) := by
 have hlen := hs.len
 have htl := tabR_len t
 have hbel := below_r n t hs hn
 have hct := fun x y hx hy => Reads.flat (ctcrit_r n t hs hn x y hx hy) rfl
 have hll2 : (lisR (belL n t)).length = n := by rw [lisR_len]; exact belAt_len t n n
 unfold relB at *
 refine Reads.bodyF (rs := [.tmp 2]) Tryd.func41 rfl Tryd.ntmps41 rfl (by simp) ?_
 generalize hQr : retQ _ _ _ = Qr
 -- block 1
 refine AW.sg [1] [1] (e2 @htl @hlen) ?_
 refine AW.so 0 (fun ii => if ii = 1 then some (.reads true (.rsl 1 (lisR (belL n t)))) else none) [1,3] [1] (e2 @htl @hlen) ?_
 repeat with_reducible refine cj ?_ ?_
 all_goals try first | (exact hbel) | omega | exact ent (by kernel_rfl)
 refine AW.sg [1,3,4] [1] (e2 @htl @hlen) ?_
 refine AW.seq fun K1 hK1 => ?_
 refine AW.sg [1,3,4,12,13] [1] (e2 @htl @hlen) ?_
 refine AW.block ?_
 refine AW.nilOwn 4 200 2 (by simp only [go_sem, reduceIte, zE]) ?_
 refine AW.keep [1, 3, 4, 12, 13] [1, 200] ?_
 simp only [go_sem, reduceIte, zE]
 refine AW.loopE (fun mm ee ss kk => ∃ (x g1 v1 g v : Nat), n - x = mm ∧ ee = [(1, .ptr ⟨1, g1, none⟩ 0 0), (3, .rsl 1 (lisR (belL n t))), (4, .sl ⟨200, g, none⟩ 0 (crA n t x).length none), (12, .int .i64 n), (13, .int .i64 (x : Nat))] ∧ ss = [(1, some ⟨g1, v1, 1, [[.rsl 2 (tabR t)]]⟩), (200, some ⟨g, v, 2, prs (crA n t x)⟩)] ∧ (x ≤ n)) ?_ ?_
 -- init 1
 ·exact ⟨_, 0, _, _, _, _, rfl, eD, eD, eT⟩
 rintro mm ee ss kk ⟨x, g1, v1, g, v, rfl, rfl, rfl, hI⟩
 generalize hQl1 : thenQ _ _ = Ql1
 refine AW.sg [1,3,4,12,13,14] [1,200] (e2 @htl @hlen) ?_
 refine AW.seq fun K2 hK2 => ?_
 refine AW.cn ?_ ?_
 ·intro hb
  refine AW.skip ?_
  refine hK2 _ _ _ ?_; clear hK2
  refine AW.seq fun K3 hK3 => ?_
  refine AW.block ?_
  refine AW.sg [1,3,4,5,12,13] [1,200] (e2 @htl @hlen) ?_
  refine AW.sg [1,3,4,5,12,13,18,19] [1,200] (e2 @htl @hlen) ?_
  refine AW.block ?_
  refine AW.loopE (fun mm ee ss kk => ∃ (y g1 v1 g v : Nat), n - y = mm ∧ ee = [(1, .ptr ⟨1, g1, none⟩ 0 0), (3, .rsl 1 (lisR (belL n t))), (4, .sl ⟨200, g, none⟩ 0 (crA n t x ++ crR n t x y).length none), (5, .int .i64 (x : Nat)), (12, .int .i64 n), (13, .int .i64 (x : Nat)), (18, .int .i64 n), (19, .int .i64 (y : Nat))] ∧ ss = [(1, some ⟨g1, v1, 1, [[.rsl 2 (tabR t)]]⟩), (200, some ⟨g, v, 2, prs (crA n t x ++ crR n t x y)⟩)] ∧ (y ≤ n)) ?_ ?_
  -- init 2
  ·refine ⟨_, 0, ?_, ?_, ?_, ?_, rfl, ?henv, ?hstore, ?hst⟩
   case henv =>
    repeat' (first | rfl | refine env_cons ?_ ?_ | refine st_cons ?_ ?_ ?_ ?_ | refine int_eq ?_ | refine bool_eq ?_ | refine rsl_eq ?_ | refine osl_eq ?_ | refine sl_eq ?_ ?_ ?_ | refine ptr_eq ?_ ?_ ?_ | refine agg_eq ?_ | refine es_cons ?_ ?_ | refine row_cons ?_ ?_)
    all_goals (simp [crR])
   case hstore =>
    repeat' (first | rfl | refine env_cons ?_ ?_ | refine st_cons ?_ ?_ ?_ ?_ | refine int_eq ?_ | refine bool_eq ?_ | refine rsl_eq ?_ | refine osl_eq ?_ | refine sl_eq ?_ ?_ ?_ | refine ptr_eq ?_ ?_ ?_ | refine agg_eq ?_ | refine es_cons ?_ ?_ | refine row_cons ?_ ?_)
    all_goals (simp [crR])
   case hst =>
    first | trivial | omega | (simp; done) | (simp; omega)
  rintro mm ee ss kk ⟨y, g1, v1, g, v, rfl, rfl, rfl, hI⟩
  generalize hQl2 : thenQ _ _ = Ql2
  refine AW.sg [1,3,4,5,12,13,18,19,20] [1,200] (e2 @htl @hlen) ?_
  refine AW.seq fun K4 hK4 => ?_
  refine AW.cn ?_ ?_
  ·intro hb
   have hx : x < n := by omega
   have hy : y < n := by omega
   have hgx := tabR_get (t := t) (i := x) (by omega)
   have hgy := tabR_get (t := t) (i := y) (by omega)
   have hrx := hs.rowLen hx
   have hry := hs.rowLen hy
   have hxy := rowN_r (rowT t x) (by omega) y (by omega)
   have hyx := rowN_r (rowT t y) (by omega) x (by omega)
   have hsub := subset_r (rowT t y) (rowT t x) (by omega) (by omega)
   have hgl := lisR_get (cs := belL n t) (i := x) (by rw [← lisR_len, hll2]; exact hx)
   have hctx := hct x y hx hy
   rw [show (rowT t x).getD y false = atT t x y from rfl] at hxy
   rw [show (rowT t y).getD x false = atT t y x from rfl] at hyx
   have hps := crR_succ n t x y
   have hpl := crA_le n t x
   have hrl := crR_le n t x y
   have hmul : n * x ≤ 262144 := Nat.le_trans (Nat.mul_le_mul hn (by omega : x ≤ 512)) (by decide)
   have hL1 : (crA n t x ++ crR n t x y).length ≤ 300000 := by rw [List.length_append]; omega
   have hml := prs_len (crA n t x ++ crR n t x y)
   have htk : (prs (crA n t x ++ crR n t x y)).take (crA n t x ++ crR n t x y).length = prs (crA n t x ++ crR n t x y) := List.take_of_length_le (by rw [hml]; exact Nat.le_refl _)
   have happ := prs_app (crA n t x ++ crR n t x y) (x, y)
   generalize hL : crA n t x ++ crR n t x y = L at *
   unfold rowB at *
   refine AW.skip ?_
   refine hK4 _ _ _ ?_; clear hK4
   refine AW.seq fun K5 hK5 => ?_
   refine AW.block ?_
   refine AW.sg [1,3,4,5,6,12,13,18,19] [1,6,200] (e2 @htl @hlen) ?_
   refine AW.seq fun K6 hK6 => ?_
   refine AW.sd mixed 0 (fun ii => if ii = 10 then some (.reads false (.bool (atT t x y))) else if ii = 19 then some (.reads false (.bool (atT t y x))) else none) [1,3,4,5,6,12,13,18,19,42] [1,6,200] (e5 @htl @hlen @hgx @hgy @rowB.eq_1) ?_
   repeat with_reducible refine cj ?_ ?_
   all_goals try first | (first | exact hxy | exact hyx | (intro hh; exact ⟨hh, hxy⟩) | (intro hh; exact ⟨hh, hyx⟩)) | (intros; (repeat' apply And.intro) <;> first | assumption | (first | exact hxy | exact hyx | (intro hh; exact ⟨hh, hxy⟩) | (intro hh; exact ⟨hh, hyx⟩))) | omega | exact chk (by kernel_rfl) | exact ent (by kernel_rfl) | (intro hgd; exact absurd hgd (by decide)) | rfl | (simp only [go_sem, reduceIte, reduceCtorEq, zA, zM, zE, zL, zD, zS, zP, zB, zI, zR, htl, hlen, hgx, hgy, rowB]; done) | (intro _hgd; simp_all [go_sem]; done)
   refine AW.cn ?_ ?_
   ·intro hb
    rw [crB_a hb, if_neg (by decide), List.append_nil] at hps
    have hLs : crA n t x ++ crR n t x (y + 1) = L := by rw [hps, hL]
    -- exit 3
    refine AW.exit ?_
    refine hK5 _ _ _ ?_; clear hK5
    refine AW.rg [1,3,4,5,12,13,18,19] [1,200] (e2 @htl @hlen) ?_
    -- again 2
    rw [← hQl2]; change Exists _
    refine ⟨_, ?hm, y + 1, ?_, ?_, ?_, ?_, rfl, ?henv, ?hstore, ?hst⟩
    case henv =>
     repeat' (first | rfl | refine env_cons ?_ ?_ | refine st_cons ?_ ?_ ?_ ?_ | refine int_eq ?_ | refine bool_eq ?_ | refine rsl_eq ?_ | refine osl_eq ?_ | refine sl_eq ?_ ?_ ?_ | refine ptr_eq ?_ ?_ ?_ | refine agg_eq ?_ | refine es_cons ?_ ?_ | refine row_cons ?_ ?_)
     all_goals (rw [hLs]; try simp)
    case hstore =>
     repeat' (first | rfl | refine env_cons ?_ ?_ | refine st_cons ?_ ?_ ?_ ?_ | refine int_eq ?_ | refine bool_eq ?_ | refine rsl_eq ?_ | refine osl_eq ?_ | refine sl_eq ?_ ?_ ?_ | refine ptr_eq ?_ ?_ ?_ | refine agg_eq ?_ | refine es_cons ?_ ?_ | refine row_cons ?_ ?_)
     all_goals (rw [hLs])
    case hst =>
     first | trivial | omega | (simp; done) | (simp; omega)
    case hm => omega
   ·intro hb
    have hcb := crB_b (n := n) hb
    refine AW.skip ?_
    refine hK6 _ _ _ ?_; clear hK6
    refine AW.so 0 (fun ii => if ii = 5 then some (.reads true (.bool (dwB n t x y))) else none) [1,3,4,5,6,7,12,13,18,19] [1,6,200] (e4 @htl @hlen @hgl @hll2) ?_
    repeat with_reducible refine cj ?_ ?_
    all_goals try first | (exact hctx) | omega | exact ent (by kernel_rfl)
    refine AW.sd mixed 0 (fun ii => if ii = 12 then some (.reads false (.bool (subB (rowT t y) (rowT t x)))) else none) [1,3,4,5,6,12,13,18,19,63] [1,6,200] (e5 @htl @hlen @hgx @hgy @rowB.eq_1) ?_
    repeat with_reducible refine cj ?_ ?_
    all_goals try first | (first | exact hsub | (intro hh; exact ⟨hh, hsub⟩)) | (intros; (repeat' apply And.intro) <;> first | assumption | (first | exact hsub | (intro hh; exact ⟨hh, hsub⟩))) | omega | exact chk (by kernel_rfl) | exact ent (by kernel_rfl) | (intro hgd; exact absurd hgd (by decide)) | rfl | (simp only [go_sem, reduceIte, reduceCtorEq, zA, zM, zE, zL, zD, zS, zP, zB, zI, zR, htl, hlen, hgx, hgy, rowB]; done) | (intro _hgd; simp_all [go_sem]; done)
    refine AW.cn ?_ ?_
    ·intro hb
     rw [hb.1, hb.2] at hcb
     rw [hcb, if_pos (by rfl)] at hps
     have hLs : crA n t x ++ crR n t x (y + 1) = L ++ [(x, y)] := by rw [hps, ← List.append_assoc, hL]
     refine AW.regionK 0 (fun _ => none) [1, 3, 4, 5, 12, 13, 18, 19] [1, 200] ?_
     simp only [go_sem, reduceIte, reduceCtorEq, zA, zM, zE, zL, zD, zS, zP, zB, zI, zR, htl, hlen, htk, hml, happ]
     repeat with_reducible refine cj ?_ ?_
     all_goals try first | omega | (simp [scP, scalar]; done) | exact scP_words _ | exact scP_ints _ | exact scP_bools _
     refine hK5 _ _ _ ?_; clear hK5
     refine AW.rg [1,3,4,5,12,13,18,19] [1,200] (e2 @htl @hlen) ?_
     -- again 2
     rw [← hQl2]; change Exists _
     refine ⟨_, ?hm, y + 1, ?_, ?_, ?_, ?_, rfl, ?henv, ?hstore, ?hst⟩
     case henv =>
      repeat' (first | rfl | refine env_cons ?_ ?_ | refine st_cons ?_ ?_ ?_ ?_ | refine int_eq ?_ | refine bool_eq ?_ | refine rsl_eq ?_ | refine osl_eq ?_ | refine sl_eq ?_ ?_ ?_ | refine ptr_eq ?_ ?_ ?_ | refine agg_eq ?_ | refine es_cons ?_ ?_ | refine row_cons ?_ ?_)
      all_goals (rw [hLs]; try simp)
     case hstore =>
      repeat' (first | rfl | refine env_cons ?_ ?_ | refine st_cons ?_ ?_ ?_ ?_ | refine int_eq ?_ | refine bool_eq ?_ | refine rsl_eq ?_ | refine osl_eq ?_ | refine sl_eq ?_ ?_ ?_ | refine ptr_eq ?_ ?_ ?_ | refine agg_eq ?_ | refine es_cons ?_ ?_ | refine row_cons ?_ ?_)
      all_goals (rw [hLs])
     case hst =>
      first | trivial | omega | (simp; done) | (simp; omega)
     case hm => omega
    ·intro hb
     have hcb2 : crB n t x y = false := by rw [hcb]; rcases hb with hb | hb <;> rw [hb] <;> simp
     rw [hcb2, if_neg (by decide), List.append_nil] at hps
     have hLs : crA n t x ++ crR n t x (y + 1) = L := by rw [hps, hL]
     refine AW.skip ?_
     refine hK5 _ _ _ ?_; clear hK5
     refine AW.rg [1,3,4,5,12,13,18,19] [1,200] (e2 @htl @hlen) ?_
     -- again 2
     rw [← hQl2]; change Exists _
     refine ⟨_, ?hm, y + 1, ?_, ?_, ?_, ?_, rfl, ?henv, ?hstore, ?hst⟩
     case henv =>
      repeat' (first | rfl | refine env_cons ?_ ?_ | refine st_cons ?_ ?_ ?_ ?_ | refine int_eq ?_ | refine bool_eq ?_ | refine rsl_eq ?_ | refine osl_eq ?_ | refine sl_eq ?_ ?_ ?_ | refine ptr_eq ?_ ?_ ?_ | refine agg_eq ?_ | refine es_cons ?_ ?_ | refine row_cons ?_ ?_)
      all_goals (rw [hLs]; try simp)
     case hstore =>
      repeat' (first | rfl | refine env_cons ?_ ?_ | refine st_cons ?_ ?_ ?_ ?_ | refine int_eq ?_ | refine bool_eq ?_ | refine rsl_eq ?_ | refine osl_eq ?_ | refine sl_eq ?_ ?_ ?_ | refine ptr_eq ?_ ?_ ?_ | refine agg_eq ?_ | refine es_cons ?_ ?_ | refine row_cons ?_ ?_)
      all_goals (rw [hLs])
     case hst =>
      first | trivial | omega | (simp; done) | (simp; omega)
     case hm => omega
  ·intro hb
   have hy : y = n := by omega
   subst hy
   have hps := crA_succ y t x
   -- exit 2
   refine AW.exit ?_
   rw [← hQl2]
   refine hK3 _ _ _ ?_; clear hK3
   refine AW.rg [1,3,4,12,13] [1,200] (e2 @htl @hlen) ?_
   -- again 1
   rw [← hQl1]; change Exists _
   refine ⟨_, ?hm, x + 1, ?_, ?_, ?_, ?_, rfl, ?henv, ?hstore, ?hst⟩
   case henv =>
    repeat' (first | rfl | refine env_cons ?_ ?_ | refine st_cons ?_ ?_ ?_ ?_ | refine int_eq ?_ | refine bool_eq ?_ | refine rsl_eq ?_ | refine osl_eq ?_ | refine sl_eq ?_ ?_ ?_ | refine ptr_eq ?_ ?_ ?_ | refine agg_eq ?_ | refine es_cons ?_ ?_ | refine row_cons ?_ ?_)
    all_goals (rw [hps])
   case hstore =>
    repeat' (first | rfl | refine env_cons ?_ ?_ | refine st_cons ?_ ?_ ?_ ?_ | refine int_eq ?_ | refine bool_eq ?_ | refine rsl_eq ?_ | refine osl_eq ?_ | refine sl_eq ?_ ?_ ?_ | refine ptr_eq ?_ ?_ ?_ | refine agg_eq ?_ | refine es_cons ?_ ?_ | refine row_cons ?_ ?_)
    all_goals (rw [hps])
   case hst =>
    first | trivial | omega | (simp; done) | (simp; omega)
   case hm => omega
 ·intro hb
  have hx : x = n := by omega
  subst hx
  have hml := prs_len (crA x t x)
  have htk : (prs (crA x t x)).take (crA x t x).length = prs (crA x t x) := List.take_of_length_le (by rw [hml]; exact Nat.le_refl _)
  have hct : critT x t = crA x t x := rfl
  -- exit 0
  refine AW.exit ?_
  rw [← hQl1]
  refine hK1 _ _ _ ?_; clear hK1
  refine AW.sg [2] [200] (e2 @htl @hlen) ?_
  -- ret 1
  rw [← hQr]
  refine AW.rt (e2 @htl @hlen) ?_
  exact Wk.of_eq (by simp only [go_sem, reduceIte, zE, htk, hct])
end Go.Proofs.D

namespace Go.Proofs.D
open Go.AM Go
set_option maxRecDepth 100000
set_option maxHeartbeats 4000000
theorem with1_r (w b : Int) : Reads Tryd.prog 78 false [.int .u64 w, .int .u64 b] (.int .u64 (bOr .u64 w b)) := by
 refine Reads.body (rs := [.tmp 4]) Tryd.func78 rfl Tryd.ntmps78 rfl (by simp) ?_
 generalize hQr : retQ _ _ _ = Qr
 -- block 1
 refine AW.sg [0,1] [] trivial ?_
 refine AW.sg [4] [] trivial ?_
 -- ret 1
 rw [← hQr]
 refine AW.rt trivial ?_
 exact Wk.of_eq rfl
theorem changed_u (b : List Bool) (hb : b.length ≤ 512) (i : Nat) (hi : i < b.length) : Upd Tryd.prog 77 [] [.agg (rowB b), .int .i64 i, .fn 78 []] (fun k => .tup [.agg [.int .i64 b.length, .sl ⟨0, k, none⟩ 0 (setW b b.length).length none], .int .i64 ((0 : Nat) : Int)])
  (fun k => [(0, some ⟨k, k, 1, words (setW (b.set i true) b.length)⟩)]) := by
 have hwl := setW_len' b
 have hwn := wordsN_rng (n := (b.length : Int)) (by omega)
 have hv := Reads.flat (bvalid_r b.length (setW b b.length) (by omega)) rfl
 have hin := Reads.flat (inside_r b.length (words (setW b b.length)) i) rfl
 rw [validS_setW hb] at hv
 rw [decide_eq_true (by omega : (0 : Int) ≤ i), decide_eq_true (by omega : (i : Int) < b.length)] at hin
 have hcp := copied_u b.length (setW b b.length) (by omega)
 have hd := div64_rng (i := (i : Int)) (n := b.length) (by omega) (by omega)
 have hgw := words_getD (l := setW b b.length) (i := ((i : Int).tdiv 64).toNat) (by omega)
 have hsb := setBit_setW b (i := i) (by omega)
 have hw1 := with1_r ((setW b b.length).getD ((i : Int).tdiv 64).toNat 0) (bShl .u64 1 ((i : Int).tmod 64))
 unfold setBit at hsb
 unfold rowB
 refine Upd.of_body (rs := [.cell 6 69, .tmp 7]) Tryd.func77 rfl Tryd.ntmps77 rfl (by simp) ?_
 intro k0 k hk0 hk1
 generalize hQr : retQ _ _ _ = Qr
 -- block 2
 refine AW.so 100 (fun _ => none) [1,2,3,6] [103,106] trivial ?_
 refine AW.seq fun K1 hK1 => ?_
 refine AW.block ?_
 refine AW.so 100 (fun ii => if ii = 1 then some (.reads true (.bool true)) else none) [1,2,3,6,9] [103,106] trivial ?_
 repeat with_reducible refine cj ?_ ?_
 all_goals try first | (exact hv) | omega | exact ent (by kernel_rfl)
 refine AW.cn ?_ ?_
 ·intro hb
  simp at hb
 ·intro hb
  refine AW.so 100 (fun ii => if ii = 2 then some (.reads true (.bool true)) else none) [1,2,3,6,14] [103,106] trivial ?_
  repeat with_reducible refine cj ?_ ?_
  all_goals try first | (exact hin) | omega | exact ent (by kernel_rfl)
  refine AW.cn ?_ ?_
  ·intro hb
   simp at hb
  ·intro hb
   refine AW.skip ?_
   refine hK1 _ _ _ ?_; clear hK1
   refine AW.so 100 (fun ii => if ii = 1 then some (.upd [] (fun kk => [(0, some ⟨kk, kk, 1, words (setW b b.length)⟩)]) (fun kk => .agg [.int .i64 b.length, .sl ⟨0, kk, none⟩ 0 (setW b b.length).length none])) else none) [1,2,6,8] [106,108,121] trivial ?_
   repeat with_reducible refine cj ?_ ?_
   all_goals try first | (exact hcp) | omega | exact ent (by kernel_rfl)
   refine AW.sd mixed 100 (fun ii => if ii = 14 then some (.reads false (.int .u64 (bOr .u64 ((setW b b.length).getD ((i : Int).tdiv 64).toNat 0) (bShl .u64 1 ((i : Int).tmod 64))))) else none) [6,8] [106,108,121] (e2 @hgw @hsb) ?_
   repeat with_reducible refine cj ?_ ?_
   all_goals try first | (first | exact Reads.flat hw1 rfl | exact hw1) | omega | exact chk (by kernel_rfl) | exact ent (by kernel_rfl)
   refine AW.so 100 (fun _ => none) [6,7] [106,121] trivial ?_
   -- ret 3
   rw [← hQr]
   refine AW.rt trivial ?_
   refine ⟨[(121, 0, true)], ?_⟩
   simp only [go_sem, reduceIte, zE, renC_words]
   rfl
theorem with_u (b : List Bool) (hb : b.length ≤ 512) (i : Nat) (hi : i < b.length) : Upd Tryd.prog 51 [] [.agg (rowB b), .int .i64 i] (fun k => .tup [.agg [.int .i64 b.length, .sl ⟨0, k, none⟩ 0 (setW b b.length).length none], .int .i64 ((0 : Nat) : Int)])
  (fun k => [(0, some ⟨k, k, 1, words (setW (b.set i true) b.length)⟩)]) := by
 have h := changed_u b hb i hi
 unfold rowB at *
 refine Upd.of_body (rs := [.cell 4 69, .tmp 5]) Tryd.func51 rfl Tryd.ntmps51 rfl (by simp) ?_
 intro k0 k hk0 hk1
 generalize hQr : retQ _ _ _ = Qr
 -- block 3
 refine AW.so 100 (fun _ => none) [1,2,4] [102,104] trivial ?_
 refine AW.so 100 (fun ii => if ii = 2 then some (.upd [] (fun kk => [(0, some ⟨kk, kk, 1, words (setW (b.set i true) b.length)⟩)]) (fun kk => .tup [.agg [.int .i64 b.length, .sl ⟨0, kk, none⟩ 0 (setW b b.length).length none], .int .i64 ((0 : Nat) : Int)])) else none) [4,5] [104,108] trivial ?_
 repeat with_reducible refine cj ?_ ?_
 all_goals try first | (exact h) | omega | exact ent (by kernel_rfl)
 -- ret 1
 rw [← hQr]
 refine AW.rt trivial ?_
 refine ⟨[(108, 0, true)], ?_⟩
 simp only [go_sem, reduceIte, zE, renC_words]
theorem with_r (b : List Bool) (hb : b.length ≤ 512) (i : Nat) (hi : i < b.length) : Reads Tryd.prog 51 true [.agg (rowB b), .int .i64 i] (.tup [.agg (rowB (b.set i true)), .int .i64 ((0 : Nat) : Int)]) := by
 refine Upd.reads (with_u b hb i hi) (Wk.of_eq ?_)
 have hrow : rowB (b.set i true) = [.int .i64 b.length, .rsl 1 (words (setW (b.set i true) b.length))] := by simp [rowB]
 have hl : (setW (b.set i true) b.length).length = (setW b b.length).length := by rw [← setBit_setW b (i := i) hi, setBit_len]
 rw [hrow]
 simp only [go_sem, reduceIte, zE]
 rw [List.take_of_length_le (by rw [hl]; exact Nat.le_refl _)]
theorem rclone_ne (t : List (List Bool)) (hl : t.length ≤ 1000) (hne : t ≠ []) :
  Upd Tryd.prog 50 [] [.rsl 2 (tabR t)] (fun k => .sl ⟨0, k, none⟩ 0 t.length none) (fun k => [(0, some ⟨k, k, 2, tabR t⟩)]) := by
 have hine : tabR t ≠ [] := by cases t with | nil => exact absurd rfl hne | cons a l => simp [tabR]
 have htl := tabR_len t
 refine Upd.of_body (rs := [.tmp 2]) Tryd.func50 rfl Tryd.ntmps50 rfl (by simp) ?_
 intro k0 k hk0 hk1
 generalize hQr : retQ _ _ _ = Qr
 -- block 4
 refine AW.so 100 (fun _ => none) [0] [] (@htl) ?_
 refine AW.seq fun K1 hK1 => ?_
 refine AW.so 100 (fun _ => none) [0,4] [] (@htl) ?_
 repeat with_reducible refine cj ?_ ?_
 all_goals try first | (exact hine) | omega
 refine AW.cn ?_ ?_
 ·intro hb
  exfalso; simp at hb
 ·intro hb
  refine AW.skip ?_
  refine hK1 _ _ _ ?_; clear hK1
  refine AW.so 100 (fun _ => none) [2] [107] (@htl) ?_
  repeat with_reducible refine cj ?_ ?_
  all_goals try first | (exact scP_tabR _) | omega | (simp [scP, scalar]; done) | exact scP_words _ | exact scP_ints _ | exact scP_bools _
  -- ret 2
  rw [← hQr]
  refine AW.rt (@htl) ?_
  refine ⟨[(107, 0, true)], ?_⟩
  simp only [go_sem, reduceIte, zE, renC_tabR]
theorem rclone_nil :
  Upd Tryd.prog 50 [] [.rsl 2 []] (fun k => .sl ⟨0, k, none⟩ 0 0 none) (fun k => [(0, some ⟨k, k, 2, []⟩)]) := by
 refine Upd.of_body (rs := [.tmp 2]) Tryd.func50 rfl Tryd.ntmps50 rfl (by simp) ?_
 intro k0 k hk0 hk1
 generalize hQr : retQ _ _ _ = Qr
 -- block 5
 refine AW.so 100 (fun _ => none) [0] [] trivial ?_
 refine AW.seq fun K1 hK1 => ?_
 refine AW.seq fun K2 hK2 => ?_
 refine AW.regionNil (l := [_]) 100 (fun _ => none) (by decide) (by rw [slD22]; rfl) ?_
 simp only [go_sem, reduceIte, zE]
 refine ⟨by decide, ⟨_, rfl⟩, fun b => ?_⟩
 try simp only [go_sem, reduceIte, reduceCtorEq, zA, zM, zE, zL, zD, zS, zP, zB, zI, zR]
 refine hK2 _ _ _ ?_; clear hK2
 refine AW.cn ?_ ?_
 ·intro hb
  refine AW.so 100 (fun _ => none) [2] [] trivial ?_
  refine AW.nilOwn 2 107 2 rfl ?_
  simp only [go_sem, reduceIte, zE]
  -- ret 1
  rw [← hQr]
  refine AW.rt trivial ?_
  refine ⟨[(107, 0, true)], ?_⟩
  simp only [go_sem, reduceIte, zE]
 ·intro hb
  refine AW.skip ?_
  refine hK1 _ _ _ ?_; clear hK1
  refine AW.seq fun K3 hK3 => ?_
  refine AW.regionK 100 (fun _ => none) [2] [107] ?_
  simp only [go_sem, reduceIte, reduceCtorEq, zA, zM, zE, zL, zD, zS, zP, zB, zI, zR]
  repeat with_reducible refine cj ?_ ?_
  all_goals try first | omega | (simp [scP, scalar]; done) | exact scP_words _ | exact scP_ints _ | exact scP_bools _
  refine hK3 _ _ _ ?_; clear hK3
  -- ret 2
  refine AW.ret ?_
  rw [← hQr]
  simp only [go_sem, reduceIte, reduceCtorEq, zA, zM, zE, zL, zD, zS, zP, zB, zI, zR]
  refine ⟨[(107, 0, true)], ?_⟩
  simp only [go_sem, reduceIte, zE]
theorem rclone_u (t : List (List Bool)) (hl : t.length ≤ 1000) :
  Upd Tryd.prog 50 [] [.rsl 2 (tabR t)] (fun k => .sl ⟨0, k, none⟩ 0 t.length none) (fun k => [(0, some ⟨k, k, 2, tabR t⟩)]) := by
 by_cases h : t = []
 ·subst h; exact rclone_nil
 ·exact rclone_ne t hl h
end Go.Proofs.D

namespace Go.Proofs.D
open Go.AM Go
set_option maxRecDepth 100000
set_option maxHeartbeats 4000000
theorem rev1_r (n : Nat) (x : Int × Int) : Reads Tryd.prog 49 false [.agg [.int .i64 x.1, .int .i64 x.2], .rptr [.int .i64 n]] (.bool (outP n x)) := by
 refine Reads.body (rs := [.tmp 3]) Tryd.func49 rfl Tryd.ntmps49 rfl (by simp) ?_
 generalize hQr : retQ _ _ _ = Qr
 -- block 1
 refine AW.sg [1,2] [2] trivial ?_
 refine AW.sg [3] [] trivial ?_
 repeat with_reducible refine cj ?_ ?_
 all_goals try first | omega | (intros; (repeat' apply And.intro) <;> first | assumption | omega | decide) | (intro hgd; exact absurd hgd (by decide)) | rfl | exact gD | (intro _hgd; simp_all [go_sem]; done)
 -- ret 1
 rw [← hQr]
 refine AW.rt trivial ?_
 exact Wk.of_eq rfl
theorem ixrev_r (n : Nat) (l : List (Int × Int)) (hl : l.length ≤ 9223372036854775807) :
  Reads Tryd.prog 53 false [.rsl 2 (l.map pairV), .fn 49 [.rptr [.int .i64 n]]] (.int .i64 (ixf (outP n) l)) := by
 have hbp := fun x => rev1_r n x
 have hll : (l.map pairV).length = l.length := by simp
 refine Reads.body (rs := [.tmp 4]) Tryd.func53 rfl Tryd.ntmps53 rfl (by simp) ?_
 generalize hQr : retQ _ _ _ = Qr
 -- block 2
 refine AW.sg [0,1] [] (@hll) ?_
 refine AW.seq fun K1 hK1 => ?_
 refine AW.sg [0,1,7,8] [] (@hll) ?_
 refine AW.block ?_
 refine AW.loopE (fun mm ee ss kk => ∃ (j : Nat), l.length - j = mm ∧ ee = [(0, .rsl 2 (l.map pairV)), (1, .fn 49 [.rptr [.int .i64 n]]), (7, .int .i64 l.length), (8, .int .i64 (j : Nat))] ∧ ss = [] ∧ (j ≤ l.length ∧ (l.take j).any (outP n) = false)) ?_ ?_
 -- init 1
 ·exact ⟨_, 0, rfl, eD, eD, eT⟩
 rintro mm ee ss kk ⟨j, rfl, rfl, rfl, hI⟩
 generalize hQl1 : thenQ _ _ = Ql1
 obtain ⟨hj, hall⟩ := hI
 refine AW.sg [0,1,7,8,9] [] (@hll) ?_
 refine AW.seq fun K2 hK2 => ?_
 refine AW.cn ?_ ?_
 ·intro hb
  obtain ⟨x, hx⟩ := getI (l := l) (j := j) (by omega)
  have hgx : (l.map pairV).getD j [] = [.int .i64 x.1, .int .i64 x.2] := getV hx
  have hats := any_take_succ (p := outP n) hx
  have hbx := hbp x
  refine AW.skip ?_
  refine hK2 _ _ _ ?_; clear hK2
  refine AW.seq fun K3 hK3 => ?_
  refine AW.block ?_
  refine AW.sg [0,1,5,7,8] [] (@hll) ?_
  refine AW.so 0 (fun ii => if ii = 5 then some (.reads false (.bool (outP n x))) else none) [0,1,5,7,8,16] [] (e2 @hll @hgx) ?_
  repeat with_reducible refine cj ?_ ?_
  all_goals try first | (exact hbx) | omega | exact ent (by kernel_rfl)
  refine AW.cn ?_ ?_
  ·intro hb
   refine AW.sg [4] [] (@hll) ?_
   -- ret 1
   rw [← hQl1, ← hQr]
   refine AW.rt (@hll) ?_
   exact Wk.of_eq (by rw [ixf_at hx hb hall])
  ·intro hb
   refine AW.skip ?_
   refine hK3 _ _ _ ?_; clear hK3
   refine AW.rg [0,1,7,8] [] (@hll) ?_
   -- again 1
   rw [← hQl1]; change Exists _
   exact ⟨_, eO, j + 1, rfl, eD, eD, (⟨by omega, by rw [hats, hall, hb]; rfl⟩)⟩
 ·intro hb
  -- exit 0
  refine AW.kx [] [] ?_
  rw [← hQl1]
  refine hK1 _ _ _ ?_; clear hK1
  refine AW.sg [4] [] (@hll) ?_
  -- ret 2
  rw [← hQr]
  refine AW.rt (@hll) ?_
  exact Wk.of_eq (by rw [List.take_of_length_le (by omega)] at hall; rw [ixf_none hall])
theorem ctrev_r (n : Nat) (l : List (Int × Int)) (hl : l.length ≤ 9223372036854775807) :
  Reads Tryd.prog 20 false [.rsl 2 (l.map pairV), .fn 49 [.rptr [.int .i64 n]]] (.bool (l.any (outP n))) := by
 have h := ixrev_r n l hl
 have hge := ixf_ge (outP n) l
 generalize ixf (outP n) l = q at *
 refine Reads.body (rs := [.tmp 4]) Tryd.func20 rfl Tryd.ntmps20 rfl (by simp) ?_
 generalize hQr : retQ _ _ _ = Qr
 -- block 3
 refine AW.sg [0,1] [] trivial ?_
 refine AW.so 0 (fun ii => if ii = 2 then some (.reads false (.int .i64 q)) else none) [4] [] trivial ?_
 repeat with_reducible refine cj ?_ ?_
 all_goals try first | (exact h) | omega | exact ent (by kernel_rfl)
 -- ret 1
 rw [← hQr]
 refine AW.rt trivial ?_
 exact Wk.of_eq (by rw [hge])
theorem natP_out {n : Nat} {L : List (Nat × Nat)} (ho : ∀ x ∈ L, x.1 < n ∧ x.2 < n) : (L.map natP).any (outP n) = false := by
 refine Bool.eq_false_iff.2 fun h => ?_
 obtain ⟨y, hy, hb⟩ := List.any_eq_true.1 h
 obtain ⟨x, hx, rfl⟩ := List.mem_map.1 hy
 have h2 := ho x hx
 obtain ⟨a, b⟩ := x
 simp only at h2
 have e : outP n (natP (a, b)) = false := by
  rw [outP_eq]
  show (decide ((a : Int) < 0) || decide ((n : Int) ≤ (a : Int)) || decide ((b : Int) < 0) || decide ((n : Int) ≤ (b : Int))) = false
  rw [decide_eq_false (by omega), decide_eq_false (by omega), decide_eq_false (by omega), decide_eq_false (by omega)]; rfl
 rw [e] at hb
 cases hb
theorem rev_g (n : Nat) (t : List (List Bool)) (hs : Sq n t) (hn : n ≤ 512) (hv : poB n t = true) (L : List (Nat × Nat)) (hm : L.length ≤ 2000) (ho : ∀ x ∈ L, x.1 < n ∧ x.2 < n) (r : List Int) (c : Int)
  (ho2 : Reads Tryd.prog 52 false [relB (addTs t L)] (.tup [.rsl 1 (ints r), .int .i64 c])) :
  Reads Tryd.prog 18 false [relB t, .rsl 2 (prs L)] (.tup [.rsl 1 (ints r), .int .i64 c]) := by
 have h := pvalid_g n t hs hn
 rw [hv] at h
 have hct := ctrev_r n (L.map natP) (by simp; omega)
 rw [natP_out ho] at hct
 have hct' : Reads Tryd.prog 20 false [.rsl 2 (prs L), .fn 49 [.rptr [.int .i64 n]]] (.bool false) := hct
 have hpl := prs_len L
 have htl := tabR_len t
 have hlen := hs.len
 have hcl := rclone_u t (by omega)
 rw [hlen] at hcl
 have hT := fun k => addTs_sq (L := L.take k) hs fun x hx => (ho x (List.mem_of_mem_take hx)).2
 unfold relB at *
 refine Reads.body (rs := [.tmp 4, .tmp 5]) Tryd.func18 rfl Tryd.ntmps18 rfl (by simp) ?_
 generalize hQr : retQ _ _ _ = Qr
 -- block 7
 refine AW.sg [1,2] [2] (e3 @hpl @htl @hlen) ?_
 refine AW.sg [1,2,6] [2,6] (e3 @hpl @htl @hlen) ?_
 refine AW.seq fun K1 hK1 => ?_
 refine AW.block ?_
 refine AW.so 0 (fun ii => if ii = 1 then some (.reads false (.bool true)) else none) [1,2,6,15] [2,6] (e3 @hpl @htl @hlen) ?_
 repeat with_reducible refine cj ?_ ?_
 all_goals try first | (exact h) | omega | exact ent (by kernel_rfl)
 refine AW.cn ?_ ?_
 ·intro hb
  simp at hb
 ·intro hb
  refine AW.sg [1,2,6,19] [2,6] (e3 @hpl @htl @hlen) ?_
  refine AW.cn ?_ ?_
  ·intro hb
   exfalso; omega
  ·intro hb
   refine AW.so 0 (fun ii => if ii = 2 then some (.reads true (.bool false)) else none) [1,2,23] [2] (e3 @hpl @htl @hlen) ?_
   repeat with_reducible refine cj ?_ ?_
   all_goals try first | (exact Reads.flat hct' rfl) | omega | exact ent (by kernel_rfl)
   refine AW.cn ?_ ?_
   ·intro hb
    simp at hb
   ·intro hb
    refine AW.skip ?_
    refine hK1 _ _ _ ?_; clear hK1
    refine AW.so 0 (fun ii => if ii = 2 then some (.upd [] (fun kk => [(0, some ⟨kk, kk, 2, tabR t⟩)]) (fun kk => .sl ⟨0, kk, none⟩ 0 n none)) else none) [1,7] [7,29] (e3 @hpl @htl @hlen) ?_
    repeat with_reducible refine cj ?_ ?_
    all_goals try first | (exact hcl) | omega | exact ent (by kernel_rfl)
    refine AW.seq fun K2 hK2 => ?_
    refine AW.sg [7,31,32,33] [7,29] (e3 @hpl @htl @hlen) ?_
    refine AW.block ?_
    refine AW.loopE (fun mm ee ss kk => ∃ (k g7 v7 g v : Nat), L.length - k = mm ∧ ee = [(7, .ptr ⟨7, g7, none⟩ 0 0), (31, .rsl 2 (prs L)), (32, .int .i64 L.length), (33, .int .i64 (k : Nat))] ∧ ss = [(7, some ⟨g7, v7, 1, [[.sl ⟨29, g, none⟩ 0 n none]]⟩), (29, some ⟨g, v, 2, tabR (addTs t (L.take k))⟩)] ∧ (k ≤ L.length)) ?_ ?_
    -- init 1
    ·refine ⟨_, 0, ?_, ?_, ?_, ?_, rfl, ?henv, ?hstore, ?hst⟩
     case henv =>
      repeat' (first | rfl | refine env_cons ?_ ?_ | refine st_cons ?_ ?_ ?_ ?_ | refine int_eq ?_ | refine bool_eq ?_ | refine rsl_eq ?_ | refine osl_eq ?_ | refine sl_eq ?_ ?_ ?_ | refine ptr_eq ?_ ?_ ?_ | refine agg_eq ?_ | refine es_cons ?_ ?_ | refine row_cons ?_ ?_)
      all_goals (first | (simp; done) | omega | (simp; omega))
     case hstore =>
      repeat' (first | rfl | refine env_cons ?_ ?_ | refine st_cons ?_ ?_ ?_ ?_ | refine int_eq ?_ | refine bool_eq ?_ | refine rsl_eq ?_ | refine osl_eq ?_ | refine sl_eq ?_ ?_ ?_ | refine ptr_eq ?_ ?_ ?_ | refine agg_eq ?_ | refine es_cons ?_ ?_ | refine row_cons ?_ ?_)
      all_goals (rw [List.take_zero, renC_tabR]; rfl)
     case hst =>
      first | trivial | omega | (simp; done) | (simp; omega)
    rintro mm ee ss kk ⟨k, g7, v7, g, v, rfl, rfl, rfl, hI⟩
    generalize hQl1 : thenQ _ _ = Ql1
    refine AW.sg [7,31,32,33,34] [7,29] (e3 @hpl @htl @hlen) ?_
    refine AW.seq fun K3 hK3 => ?_
    refine AW.cn ?_ ?_
    ·intro hb
     obtain ⟨x, hx⟩ := getI (l := L) (j := k) (by omega)
     have hgx := prs_get hx
     have hxo := ho x (List.mem_of_getElem? hx)
     have hTk := hT k
     have hnx := addTs_take (t := t) hx
     generalize hTT : addTs t (L.take k) = T at *
     have hgT := tabR_get (t := T) (i := x.2) (by rw [hTk.len]; exact hxo.2)
     have hTl : (tabR T).length = n := by rw [tabR_len, hTk.len]
     have hrl := hTk.rowLen hxo.2
     have hwi := with_r (rowT T x.2) (by omega) x.1 (by omega)
     have hset := tabR_set T x.2 ((rowT T x.2).set x.1 true)
     have hadd : T.set x.2 ((rowT T x.2).set x.1 true) = addT T x := rfl
     rw [hadd] at hset
     unfold rowB at hwi hset
     refine AW.skip ?_
     refine hK3 _ _ _ ?_; clear hK3
     refine AW.seq fun K4 hK4 => ?_
     refine AW.block ?_
     refine AW.sg [7,9,31,32,33] [7,9,29] (e4 @hpl @htl @hlen @hgx) ?_
     refine AW.sd mixed 0 (fun ii => if ii = 8 then some (.upd [] (fun _ => []) (fun _ => .tup [.agg [.int .i64 ((rowT T x.2).set x.1 true).length, .rsl 1 (words (setW ((rowT T x.2).set x.1 true) ((rowT T x.2).set x.1 true).length))], .int .i64 ((0 : Nat) : Int)])) else none) [7,9,10,11,31,32,33] [7,9,10,29] (e2 @hpl (e5 @htl @hlen @hgT @rowB.eq_1 @hTl)) ?_
     repeat with_reducible refine cj ?_ ?_
     all_goals try first | (exact hwi.upd rfl) | omega | exact chk (by kernel_rfl) | exact ent (by kernel_rfl)
     refine AW.seq fun K5 hK5 => ?_
     refine AW.sg [7,9,10,11,31,32,33,50] [7,9,10,29] (e3 @hpl @htl @hlen) ?_
     refine AW.cn ?_ ?_
     ·intro hb
      simp at hb
     ·intro hb
      refine AW.skip ?_
      refine hK5 _ _ _ ?_; clear hK5
      refine AW.rg [7,31,32,33] [7,29] (e3 @hpl @htl (e5 @hlen @hTl @hset @hgT @rowB.eq_1)) ?_
      refine hK4 _ _ _ ?_; clear hK4
      refine AW.rg [7,31,32,33] [7,29] (e3 @hpl @htl @hlen) ?_
      -- again 1
      rw [← hQl1]; change Exists _
      refine ⟨_, ?hm, k + 1, ?_, ?_, ?_, ?_, rfl, ?henv, ?hstore, ?hst⟩
      case henv =>
       repeat' (first | rfl | refine env_cons ?_ ?_ | refine st_cons ?_ ?_ ?_ ?_ | refine int_eq ?_ | refine bool_eq ?_ | refine rsl_eq ?_ | refine osl_eq ?_ | refine sl_eq ?_ ?_ ?_ | refine ptr_eq ?_ ?_ ?_ | refine agg_eq ?_ | refine es_cons ?_ ?_ | refine row_cons ?_ ?_)
       all_goals (first | (simp; done) | omega | (simp; omega))
      case hstore =>
       repeat' (first | rfl | refine env_cons ?_ ?_ | refine st_cons ?_ ?_ ?_ ?_ | refine int_eq ?_ | refine bool_eq ?_ | refine rsl_eq ?_ | refine osl_eq ?_ | refine sl_eq ?_ ?_ ?_ | refine ptr_eq ?_ ?_ ?_ | refine agg_eq ?_ | refine es_cons ?_ ?_ | refine row_cons ?_ ?_)
       all_goals (rw [hnx])
      case hst =>
       first | trivial | omega | (simp; done) | (simp; omega)
      case hm => omega
    ·intro hb
     have hk : k = L.length := by omega
     subst hk
     have hTL := hT L.length
     rw [List.take_length] at hTL
     have htkT : (tabR (addTs t L)).take n = tabR (addTs t L) := List.take_of_length_le (by rw [tabR_len, hTL.len]; exact Nat.le_refl _)
     -- exit 1
     refine AW.kx [7] [7,29] ?_
     rw [← hQl1]
     refine hK2 _ _ _ ?_; clear hK2
     refine AW.frzCellK [29] 5 7 0 0 ?_
     simp only [go_sem, reduceIte, zE, htkT, vwc_tabR]
     refine ⟨by decide, by decide, by decide, by decide, ?_⟩
     refine AW.keep [7] [7] ?_
     simp only [go_sem, reduceIte, zE]
     refine AW.so 0 (fun ii => if ii = 1 then some (.reads false (.tup [.rsl 1 (ints r), .int .i64 c])) else none) [4,5] [] (e3 @hpl @htl @hlen) ?_
     repeat with_reducible refine cj ?_ ?_
     all_goals try first | (exact ho2) | omega | exact ent (by kernel_rfl)
     -- ret 5
     rw [← hQr]
     refine AW.rt (e3 @hpl @htl @hlen) ?_
     exact Wk.of_eq rfl
end Go.Proofs.D

/- The realizer: where the search begins, and how often it is tried. -/
namespace Go.AM
def byteN (W : List Int) : Nat := ((W.getD 0 0) % 256).toNat
def startAt (n : Nat) (t : List (List Bool)) (i : Nat) : List Nat := (List.range 8).map fun k => if k < i then byteN (setW (rowT t k) n) else 0
def startT (n : Nat) (t : List (List Bool)) : List Nat := startAt n t n
theorem startAt_len (n : Nat) (t : List (List Bool)) (i : Nat) : (startAt n t i).length = 8 := by simp [startAt]
theorem startAt_get (n : Nat) (t : List (List Bool)) (i : Nat) {k : Nat} (hk : k < 8) : (startAt n t i).getD k 0 = if k < i then byteN (setW (rowT t k) n) else 0 := by
  simp [startAt, List.getD_eq_getElem?_getD, hk]
theorem byteN_lt (W : List Int) : byteN W < 256 := by unfold byteN; omega
theorem startAt_cls (n : Nat) (t : List (List Bool)) (i : Nat) : Cls (startAt n t i) := by
  refine ⟨startAt_len n t i, fun k => ?_⟩
  by_cases hk : k < 8
  · rw [startAt_get n t i hk]; split
    · exact byteN_lt _
    · decide
  · rw [getD_out (by rw [startAt_len]; omega)]; decide
theorem startAt_zero (n : Nat) (t : List (List Bool)) : startAt n t 0 = [0, 0, 0, 0, 0, 0, 0, 0] := by simp [startAt, List.range, List.range.loop]
theorem startAt_succ (n : Nat) (t : List (List Bool)) {i : Nat} : (startAt n t i).set i (byteN (setW (rowT t i) n)) = startAt n t (i + 1) := by
  apply List.ext_getElem?
  intro k
  rw [List.getElem?_set]
  unfold startAt
  by_cases hk : k < 8
  · by_cases e : i = k
    · subst e; simp [hk]
    · simp only [if_neg e, List.getElem?_map, List.getElem?_range hk, Option.map_some, Option.some.injEq]
      by_cases h1 : k < i
      · rw [if_pos h1, if_pos (by omega)]
      · rw [if_neg h1, if_neg (by omega)]
  · have : (List.range 8)[k]? = none := List.getElem?_eq_none (by simp; omega)
    simp only [List.getElem?_map, this, Option.map_none, List.length_map, List.length_range]
    split
    · rename_i e; subst e; rw [if_neg hk]
    · rfl
/-- The search with more and more classes. -/
def mostF (st : List Nat) (P : List (Nat × Nat)) : Nat → Nat → Dl
  | 0, _ => ([], [])
  | f + 1, m => match dealP m st P [] [] with
    | some r => r
    | none => mostF st P f (m + 1)
def dealsT (n : Nat) (t : List (List Bool)) : Dl := mostF (startT n t) (critT n t) ((critT n t).length + 1) 1
theorem dealP_most {m : Nat} {st : List Nat} : ∀ (ps : List (Nat × Nat)) (cl : List (List Nat)) (de : List (List (Nat × Nat))), cl.length + ps.length ≤ m → (dealP m st ps cl de).isSome = true
  | [], _, _, _ => rfl
  | x :: ps, cl, de, h => by
    rw [dealP]
    split
    · rfl
    · rw [if_neg (by simp at h; omega)]
      exact dealP_most ps _ _ (by simp at h ⊢; omega)
/-- What a search that succeeds leaves. -/
theorem dealK_some {rec : List (List Nat) → List (List (Nat × Nat)) → Option Dl} {x : Nat × Nat} {cl : List (List Nat)} {de : List (List (Nat × Nat))} {r : Dl} : ∀ (m k : Nat), dealK rec x cl de m k = some r →
    ∃ j, k ≤ j ∧ j < k + m ∧ badC (cl.getD j []) x.2 x.1 = false ∧ rec (cl.set j (cputC (cl.getD j []) x.2 x.1)) (addP de j x) = some r
  | 0, _, h => by cases h
  | m + 1, k, h => by
    rw [dealK] at h
    split at h
    · obtain ⟨j, h1, h2, h3⟩ := dealK_some m (k + 1) h; exact ⟨j, by omega, by omega, h3⟩
    · rename_i hb
      split at h
      · rename_i r' hr'
        obtain rfl := Option.some.inj h
        exact ⟨k, Nat.le_refl _, by omega, by simpa using hb, hr'⟩
      · obtain ⟨j, h1, h2, h3⟩ := dealK_some m (k + 1) h; exact ⟨j, by omega, by omega, h3⟩
/-- A property that the search keeps. -/
theorem dealP_keep {m : Nat} {st : List Nat} (I : Nat → List (List Nat) → List (List (Nat × Nat)) → Prop) (P : List (Nat × Nat))
    (h1 : ∀ i x cl de j, P[i]? = some x → I i cl de → j < cl.length → badC (cl.getD j []) x.2 x.1 = false → I (i + 1) (cl.set j (cputC (cl.getD j []) x.2 x.1)) (addP de j x))
    (h2 : ∀ i x cl de, P[i]? = some x → I i cl de → cl.length ≠ m → I (i + 1) (cl ++ [newC st x]) (de ++ [[x]])) :
    ∀ (ps : List (Nat × Nat)) (i : Nat) (cl : List (List Nat)) (de : List (List (Nat × Nat))) (r : Dl), i ≤ P.length → P.drop i = ps → I i cl de → dealP m st ps cl de = some r → I P.length r.1 r.2
  | [], i, cl, de, r, hle, hp, hI, h => by
    rw [dealP] at h
    obtain rfl := Option.some.inj h
    have h1' : P.length ≤ i := by
      have := congrArg List.length hp; simp at this; omega
    obtain rfl : i = P.length := by omega
    exact hI
  | x :: ps, i, cl, de, r, hle, hp, hI, h => by
    have hx : P[i]? = some x := by
      have := congrArg (fun l => l[0]?) hp
      simpa using this
    have hlt : i + 1 ≤ P.length := by
      have := (List.getElem?_eq_some_iff.1 hx).1; omega
    have hps : P.drop (i + 1) = ps := by
      have := congrArg List.tail hp
      simpa using this
    rw [dealP] at h
    split at h
    · rename_i r' hr'
      obtain rfl := Option.some.inj h
      obtain ⟨j, _, hj, hb, hr⟩ := dealK_some _ _ hr'
      exact dealP_keep I P h1 h2 ps (i + 1) _ _ _ hlt hps (h1 i x cl de j hx hI (by omega) hb) hr
    · split at h
      · cases h
      · rename_i hm
        exact dealP_keep I P h1 h2 ps (i + 1) _ _ _ hlt hps (h2 i x cl de hx hI hm) h
theorem dealP_len {m : Nat} {st : List Nat} {P : List (Nat × Nat)} {r : Dl} (h : dealP m st P [] [] = some r) : r.1.length = r.2.length := by
  have := dealP_keep (m := m) (st := st) (fun _ cl de => cl.length = de.length) P (fun i x cl de j _ h1 _ _ => by simp [addP, h1]) (fun i x cl de _ h1 _ => by simp [h1]) P 0 [] [] r (Nat.zero_le _) rfl rfl h
  exact this
end Go.AM
namespace Go.AM
theorem mostF_some {st : List Nat} {P : List (Nat × Nat)} {f m : Nat} {r : Dl} (h : dealP m st P [] [] = some r) : mostF st P (f + 1) m = r := by rw [mostF, h]
theorem mostF_none {st : List Nat} {P : List (Nat × Nat)} {f m : Nat} (h : dealP m st P [] [] = none) : mostF st P (f + 1) m = mostF st P f (m + 1) := by rw [mostF, h]
theorem dealP_none {st : List Nat} {P : List (Nat × Nat)} {m : Nat} (h : dealP m st P [] [] = none) : m < P.length := by
  rcases Nat.lt_or_ge m P.length with h1 | h1
  · exact h1
  · have := dealP_most (m := m) (st := st) P [] [] (by simpa using h1)
    rw [h] at this; cases this
theorem DOk.nil : DOk 0 [] [] := ⟨rfl, Nat.le_refl _, fun k h => by simp at h, fun k => by simp⟩
theorem critT_le {n : Nat} (t : List (List Bool)) (hn : n ≤ 8) : (critT n t).length ≤ 64 := by
  have := crA_le n t n
  have h2 : n * n ≤ 8 * 8 := Nat.mul_le_mul hn hn
  unfold critT; omega
theorem critT_rng {n : Nat} {t : List (List Bool)} {x : Nat × Nat} (h : x ∈ critT n t) : x.1 < n ∧ x.2 < n := by
  have := crA_mem.1 h; exact ⟨this.1, this.2.1⟩
def dealtT (n : Nat) (t : List (List Bool)) : List (List (Nat × Nat)) := if (dealsT n t).2 = [] then [[]] else (dealsT n t).2
def realT (n : Nat) (t : List (List Bool)) : List (List Int) := (dealtT n t).map fun q => (ordO n (addTs t q) n []).map fun i : Nat => (i : Int)
structure DealtOk (n : Nat) (t : List (List Bool)) : Prop where
  len : (dealtT n t).length ≤ 200
  row : ∀ q ∈ dealtT n t, q.length ≤ 2000 ∧ (∀ x ∈ q, x.1 < n ∧ x.2 < n) ∧ acyc n (addTs t q) = true
theorem dlR_len (de : List (List (Nat × Nat))) : (dlR de).length = de.length := by simp [dlR]
theorem dlR_get {de : List (List (Nat × Nat))} {i : Nat} {q : List (Nat × Nat)} (h : de[i]? = some q) : (dlR de).getD i [] = [.rsl 2 (prs q)] := by simp [dlR, List.getD_eq_getElem?_getD, h]
theorem vwc_dlT (s : Store) (d : Nat) (de : List (List (Nat × Nat))) : (dlT de).map (fun cs => cs.map (vwc s d)) = dlR de := by
  have : ∀ q : List (Nat × Nat), (prs q).map (fun row => row.map (vw s d)) = prs q := fun q => by
    simp only [prs, List.map_map]
    refine List.map_congr_left fun p _ => ?_
    simp [pairV, natP, vw_int]
  simp [dlT, dlR, vwc_osl, this]
end Go.AM
namespace Go.AM
theorem foldS {st : List Nat} (h : st.length = 8) (p c d m : AV) : [AV.int .u8 ((st.getD 0 0 : Nat) : Int), AV.int .u8 ((st.getD 1 0 : Nat) : Int), AV.int .u8 ((st.getD 2 0 : Nat) : Int), AV.int .u8 ((st.getD 3 0 : Nat) : Int),
    AV.int .u8 ((st.getD 4 0 : Nat) : Int), AV.int .u8 ((st.getD 5 0 : Nat) : Int), AV.int .u8 ((st.getD 6 0 : Nat) : Int), AV.int .u8 ((st.getD 7 0 : Nat) : Int), p, c, d, m] = stR st p c d m := by
  obtain ⟨_, _, _, _, _, _, _, _, rfl⟩ := list8 h; rfl
end Go.AM
namespace Go.AM
theorem stR_set8 {st : List Nat} (hs : st.length = 8) (p c d m x : AV) : (stR st p c d m).set 8 x = stR st x c d m := by
  unfold stR; rw [List.set_append_right _ _ (by rw [clsV_len, hs]; omega), clsV_len, hs]; rfl
theorem stR_sc (st : List Nat) (p c d m : AV) : (stR st p c d m).all scalar = (scalar p && (scalar c && (scalar d && scalar m))) := by
  unfold stR; rw [List.all_append, clsV_sc]; simp
end Go.AM
namespace Go.AM
theorem realT_len (n : Nat) (t : List (List Bool)) : (realT n t).length = (dealtT n t).length := by simp [realT]
theorem realT_take {n : Nat} {t : List (List Bool)} {k : Nat} {q : List (Nat × Nat)} (h : (dealtT n t)[k]? = some q) : (realT n t).take (k + 1) = (realT n t).take k ++ [(ordO n (addTs t q) n []).map fun i : Nat => (i : Int)] := by
  rw [List.take_add_one]
  congr 1
  simp [realT, h]
theorem lisR_app (cs : List (List Int)) (l : List Int) : lisR cs ++ [[.rsl 1 (ints l)]] = lisR (cs ++ [l]) := by simp [lisR]
end Go.AM

namespace Go.Proofs.D
open Go.AM Go
set_option maxRecDepth 100000
set_option maxHeartbeats 4000000
theorem wrap8 (x : Int) : IntKind.u8.wrap x = ((x % 256).toNat : Nat) := by
 simp [IntKind.wrap, IntKind.signed, IntKind.bits]
 omega
theorem order_gd (n : Nat) (t : List (List Bool)) (hs : Sq n t) (hn : n ≤ 512) (hac : acyc n t = true) : Reads Tryd.prog 52 false [relB t] (.tup [.rsl 1 (ints ((ordO n t n []).map fun i : Nat => (i : Int))), .int .i64 ((0 : Nat) : Int)]) := R.order_g n t hs hn hac
theorem realizer_g (n : Nat) (t : List (List Bool)) (hs : Sq n t) (hn : n ≤ 8) (hv : poB n t = true) (hd : DealtOk n t) :
  Reads Tryd.prog 24 false [relB t] (.tup [.rsl 1 (lisR (realT n t)), .int .i64 ((0 : Nat) : Int)]) := by
 have h := pvalid_g n t hs (by omega)
 rw [hv] at h
 have htl := tabR_len t
 have hlen := hs.len
 have hcr := critical_r n t hs (by omega)
 have hP := critT_le t hn
 have hPr : ∀ x, x ∈ critT n t → x.1 < 8 ∧ x.2 < 8 := fun x hx => by have := critT_rng hx; omega
 unfold relB at *
 refine Reads.body (rs := [.tmp 2, .tmp 3]) Tryd.func24 rfl Tryd.ntmps24 rfl (by simp) ?_
 generalize hQr : retQ _ _ _ = Qr
 -- block 1
 refine AW.sg [1] [1] (e2 @htl @hlen) ?_
 refine AW.seq fun K1 hK1 => ?_
 refine AW.block ?_
 refine AW.so 0 (fun ii => if ii = 1 then some (.reads false (.bool true)) else none) [1,13] [1] (e2 @htl @hlen) ?_
 repeat with_reducible refine cj ?_ ?_
 all_goals try first | (exact h) | omega | exact ent (by kernel_rfl)
 refine AW.cn ?_ ?_
 ·intro hb
  simp at hb
 ·intro hb
  refine AW.sg [1,17] [1] (e2 @htl @hlen) ?_
  refine AW.cn ?_ ?_
  ·intro hb
   exfalso; omega
  ·intro hb
   refine AW.skip ?_
   refine hK1 _ _ _ ?_; clear hK1
   refine AW.sg [1,4] [1,4] (e2 @htl @hlen) ?_
   refine AW.seq fun K2 hK2 => ?_
   refine AW.sg [1,4,23,24,25] [1,4] (e2 @htl @hlen) ?_
   refine AW.block ?_
   refine AW.loopE (fun mm ee ss kk => ∃ (i g1 v1 g4 v4 : Nat), n - i = mm ∧ ee = [(1, .ptr ⟨1, g1, none⟩ 0 0), (4, .ptr ⟨4, g4, none⟩ 0 0), (23, .rsl 2 (tabR t)), (24, .int .i64 n), (25, .int .i64 (i : Nat))] ∧ ss = [(1, some ⟨g1, v1, 1, [[.rsl 2 (tabR t)]]⟩), (4, some ⟨g4, v4, 8, [clsV (startAt n t i)]⟩)] ∧ (i ≤ n)) ?_ ?_
   -- init 1
   ·refine ⟨_, 0, ?_, ?_, ?_, ?_, rfl, ?henv, ?hstore, ?hst⟩
    case henv =>
     repeat' (first | rfl | refine env_cons ?_ ?_ | refine st_cons ?_ ?_ ?_ ?_ | refine int_eq ?_ | refine bool_eq ?_ | refine rsl_eq ?_ | refine osl_eq ?_ | refine sl_eq ?_ ?_ ?_ | refine ptr_eq ?_ ?_ ?_ | refine agg_eq ?_ | refine es_cons ?_ ?_ | refine row_cons ?_ ?_)
     all_goals (first | (simp; done) | omega | (simp; omega))
    case hstore =>
     repeat' (first | rfl | refine env_cons ?_ ?_ | refine st_cons ?_ ?_ ?_ ?_ | refine int_eq ?_ | refine bool_eq ?_ | refine rsl_eq ?_ | refine osl_eq ?_ | refine sl_eq ?_ ?_ ?_ | refine ptr_eq ?_ ?_ ?_ | refine agg_eq ?_ | refine es_cons ?_ ?_ | refine row_cons ?_ ?_)
     all_goals (rw [startAt_zero]; rfl)
    case hst =>
     first | trivial | omega | (simp; done) | (simp; omega)
   rintro mm ee ss kk ⟨i, g1, v1, g4, v4, rfl, rfl, rfl, hI⟩
   generalize hQl1 : thenQ _ _ = Ql1
   refine AW.sg [1,4,23,24,25,26] [1,4] (e2 @htl @hlen) ?_
   refine AW.seq fun K3 hK3 => ?_
   refine AW.cn ?_ ?_
   ·intro hb
    have hi : i < n := by omega
    have hgi := tabR_get (t := t) (i := i) (by omega)
    have hri := hs.rowLen hi
    have hwl0 := setW_len' (rowT t i)
    have hwl : (words (setW (rowT t i) n)).length = 1 := by rw [words_len, ← hri, hwl0, hri]; unfold wordsN; rw [Int.tdiv_eq_ediv_of_nonneg (by omega)]; omega
    have hgw := words_getD (l := setW (rowT t i) n) (i := 0) (by rw [words_len] at hwl; omega)
    have hsl := startAt_len n t i
    have hcv := clsV_len (startAt n t i)
    have hw8 := wrap8 ((setW (rowT t i) n).getD 0 0)
    have hbn : ((setW (rowT t i) n).getD 0 0 % 256).toNat = byteN (setW (rowT t i) n) := rfl
    rw [hbn] at hw8
    have hset := clsV_set (startAt n t i) i (byteN (setW (rowT t i) n))
    rw [startAt_succ] at hset
    refine AW.skip ?_
    refine hK3 _ _ _ ?_; clear hK3
    refine AW.seq fun K4 hK4 => ?_
    refine AW.block ?_
    refine AW.sg [1,4,5,6,23,24,25] [1,4,6] (e5 @htl @hlen @hgi @rowB.eq_1 @hri) ?_
    refine AW.sg [1,4,5,6,23,24,25,33] [1,4,6] (e3 @htl @hlen @hwl) ?_
    refine AW.cn ?_ ?_
    ·intro hb
     refine AW.rg [1,4,23,24,25] [1,4] (e3 @htl @hlen (e5 @hwl @hgw @hw8 @hset @Nat.mul_one)) ?_
     refine hK4 _ _ _ ?_; clear hK4
     refine AW.rg [1,4,23,24,25] [1,4] (e2 @htl @hlen) ?_
     -- again 1
     rw [← hQl1]; change Exists _
     exact ⟨_, eO, i + 1, _, _, _, _, rfl, eD, eD, eT⟩
    ·intro hb
     exfalso; omega
   ·intro hb
    obtain rfl : i = n := by omega
    have hst := startAt_cls i t i
    have hsT : startAt i t i = startT i t := rfl
    rw [hsT] at hst ⊢
    have hsl := hst.1
    have hat := clsV_at hsl
    have hfS := foldS hsl
    have h9 := stR_at9 hsl
    have h10 := stR_at10 hsl
    have h11 := stR_at11 hsl
    have hs9 := stR_set9 hsl
    have hs10 := stR_set10 hsl
    have hs11 := stR_set11 hsl
    have hs12 := stR_len hsl
    have hs8 := stR_set8 hsl
    have hsc := stR_sc (startT i t)
    -- exit 1
    refine AW.kx [1,4] [1,4] ?_
    rw [← hQl1]
    refine hK2 _ _ _ ?_; clear hK2
    refine AW.sd mixed 0 (fun ii => if ii = 2 then some (.upd [] (fun _ => []) (fun _ => .rsl 2 (prs (critT i t)))) else none) [1,7] [1,46] (e3 @htl @hlen (e5 @hat @hfS @hs8 @hsc @hs12)) ?_
    repeat with_reducible refine cj ?_ ?_
    all_goals try first | (exact hcr.upd rfl) | omega | exact chk (by kernel_rfl) | exact ent (by kernel_rfl)
    refine AW.seq fun K5 hK5 => ?_
    refine AW.sg [1,7] [1,46] (e4 @htl @hlen @hs11 @h11) ?_
    refine AW.block ?_
    refine AW.loopE (fun mm ee ss kk => ∃ (f m g1 v1 g46 v46 : Nat), f + 1 = mm ∧ ee = [(1, .ptr ⟨1, g1, none⟩ 0 0), (7, .ptr ⟨46, g46, none⟩ 0 0)] ∧ ss = [(1, some ⟨g1, v1, 1, [[.rsl 2 (tabR t)]]⟩), (46, some ⟨g46, v46, 12, [stR (startT i t) (.rsl 2 (prs (critT i t))) .nilsl .nilsl (.int .i64 (m : Nat))]⟩)] ∧ (mostF (startT i t) (critT i t) f m = dealsT i t ∧ f + m = (critT i t).length + 2 ∧ 1 ≤ m ∧ 1 ≤ f)) ?_ ?_
    -- init 2
    ·exact ⟨_, (critT i t).length + 1, 1, _, _, _, _, rfl, eD, eD, (⟨rfl, rfl, Nat.le_refl _, by omega⟩)⟩
    rintro mm ee ss kk ⟨f, m, g1, v1, g46, v46, rfl, rfl, rfl, hI⟩
    generalize hQl2 : thenQ _ _ = Ql2
    obtain ⟨hmf, hfm, hm1, hf1⟩ := hI
    obtain ⟨f', rfl⟩ : ∃ f', f = f' + 1 := ⟨f - 1, by omega⟩
    generalize hr : dealP m (startT i t) (critT i t) [] [] = r at *
    have hdl := deal_u (startT i t) hst (critT i t) hPr (by omega) m (by omega) ((critT i t).length + 1) 0 (by omega) (by omega) [] [] DOk.nil r (by rw [List.drop_zero]; exact hr)
    unfold dS at hdl
    refine AW.seq fun K6 hK6 => ?_
    refine AW.nilCellK 46 0 9 301 8 ?_
    simp only [go_sem, reduceIte, zE, zL, h9, hs9, hs12]
    refine AW.nilCellK 46 0 10 302 1 ?_
    simp only [go_sem, reduceIte, zE, zL, h10, hs10, hs12]
    refine AW.so 0 (fun ii => if ii = 1 then some (.upd [46, 301, 302] (fun kk => [(0, some ⟨g46, kk, 12, [stR (startT i t) (.rsl 2 (prs (critT i t))) (.sl ⟨1, kk, none⟩ 0 (r.getD ([], [])).1.length none) (.sl ⟨2, kk, none⟩ 0 (r.getD ([], [])).1.length none) (.int .i64 (m : Nat))]⟩), (1, some ⟨kk, kk, 8, clsT (r.getD ([], [])).1⟩), (2, some ⟨kk, kk, 1, dlT (r.getD ([], [])).2⟩)]) (fun _ => .bool r.isSome)) else none) [1,7,52] [1,46,302] (e2 @htl @hlen) ?_
    repeat with_reducible refine cj ?_ ?_
    all_goals try first | (exact hdl _ _ _ _ _ _) | omega | exact ent (by kernel_rfl)
    refine AW.cn ?_ ?_
    ·intro hb
     obtain rfl : r = none := by simpa using hb
     rw [mostF_none hr] at hmf
     have hmP := dealP_none hr
     refine AW.skip ?_
     refine hK6 _ _ _ ?_; clear hK6
     refine AW.seq fun K7 hK7 => ?_
     refine AW.block ?_
     refine AW.rg [1,7] [1,46] (e4 @htl @hlen @hs9 @hs10) ?_
     refine hK7 _ _ _ ?_; clear hK7
     refine AW.rg [1,7] [1,46] (e4 @htl @hlen @h11 @hs11) ?_
     -- again 2
     rw [← hQl2]; change Exists _
     exact ⟨_, eO, f', m + 1, _, _, _, _, rfl, eD, eD, (⟨hmf, by omega, by omega, by omega⟩)⟩
    ·intro hb
     obtain ⟨y, rfl⟩ := Option.isSome_iff_exists.1 (show r.isSome = true by simpa using hb)
     rw [mostF_some hr] at hmf
     have hyl := dealP_len hr
     have hde : y.2 = (dealsT i t).2 := by rw [hmf]
     -- exit 3
     refine AW.kx [1,7] [1,46,302] ?_
     rw [← hQl2]
     refine hK5 _ _ _ ?_; clear hK5
     refine AW.seq fun K8 hK8 => ?_
     refine AW.sg [1,7,71] [1,46,302] (e3 @htl @hlen @h10) ?_
     refine AW.cn ?_ ?_
     ·intro hb
      have hy2 : y.2 = [] := List.length_eq_zero_iff.1 (by omega)
      have htk1 : (dlT [[]]).take 1 = dlT [[]] := rfl
      have hdt : dealtT i t = [[]] := by unfold dealtT; rw [← hde, if_pos hy2]
      refine AW.rg [1,7] [1,46,73] (e4 @htl @hlen @h10 @hs10) ?_
      refine hK8 _ _ _ ?_; clear hK8
      refine AW.nils_own (pid := 73) 2 (dlT [[]]) (by simp only [go_sem, reduceIte, zE]; rfl) (show (1 : Nat) ≠ mapSz by decide) (by simp [dlT]) ?_ ?_
      ·intro i hi
       simp only [List.length_singleton] at hi
       obtain rfl : i = 0 := by omega
       refine ⟨rfl, fun j => ?_⟩
       cases j with
       | zero => exact .inr ⟨rfl, rfl⟩
       | succ j => exact .inl rfl
      refine AW.frzCellK [73] 5 46 0 10 ?_
      simp only [go_sem, reduceIte, zE, zL, h10, hs10, hs12, htk1, vwc_dlT]
      rw [← hdt]
      refine ⟨rfl, ?_⟩
      refine AW.keep [1, 7] [1, 46] ?_
      simp only [go_sem, reduceIte, zE]
      refine AW.sg [1,7,8] [1,46] (e2 @htl @hlen) ?_
      refine AW.seq fun K9 hK9 => ?_
      refine AW.sg [1,8,79,80,81] [1] (e4 @htl @hlen @h10 @dlR_len) ?_
      refine AW.block ?_
      refine AW.nilOwn 8 400 1 (by simp only [go_sem, reduceIte, zE]) ?_
      refine AW.keep [1, 8, 79, 80, 81] [1, 400] ?_
      simp only [go_sem, reduceIte, zE]
      refine AW.loopE (fun mm ee ss kk => ∃ (j g1 v1 g v : Nat), (dealtT i t).length - j = mm ∧ ee = [(1, .ptr ⟨1, g1, none⟩ 0 0), (8, .sl ⟨400, g, none⟩ 0 j none), (79, .rsl 1 (dlR (dealtT i t))), (80, .int .i64 (dealtT i t).length), (81, .int .i64 (j : Nat))] ∧ ss = [(1, some ⟨g1, v1, 1, [[.rsl 2 (tabR t)]]⟩), (400, some ⟨g, v, 1, lisR ((realT i t).take j)⟩)] ∧ (j ≤ (dealtT i t).length)) ?_ ?_
      -- init 3
      ·refine ⟨_, 0, ?_, ?_, ?_, ?_, rfl, ?henv, ?hstore, ?hst⟩
       case henv =>
        repeat' (first | rfl | refine env_cons ?_ ?_ | refine st_cons ?_ ?_ ?_ ?_ | refine int_eq ?_ | refine bool_eq ?_ | refine rsl_eq ?_ | refine osl_eq ?_ | refine sl_eq ?_ ?_ ?_ | refine ptr_eq ?_ ?_ ?_ | refine agg_eq ?_ | refine es_cons ?_ ?_ | refine row_cons ?_ ?_)
        all_goals (first | (simp [dlR_len]; done) | omega)
       case hstore =>
        repeat' (first | rfl | refine env_cons ?_ ?_ | refine st_cons ?_ ?_ ?_ ?_ | refine int_eq ?_ | refine bool_eq ?_ | refine rsl_eq ?_ | refine osl_eq ?_ | refine sl_eq ?_ ?_ ?_ | refine ptr_eq ?_ ?_ ?_ | refine agg_eq ?_ | refine es_cons ?_ ?_ | refine row_cons ?_ ?_)
        all_goals (first | rw [List.take_zero]; rfl | (rw [List.take_zero]; simp [lisR]))
       case hst =>
        first | trivial | omega | (simp; done) | (simp; omega)
      rintro mm ee ss kk ⟨j, g1, v1, g, v, rfl, rfl, rfl, hI⟩
      generalize hQl3 : thenQ _ _ = Ql3
      refine AW.sg [1,8,79,80,81,82] [1,400] (e2 @htl @hlen) ?_
      refine AW.seq fun K10 hK10 => ?_
      refine AW.cn ?_ ?_
      ·intro hb
       obtain ⟨q, hq⟩ := getI (l := dealtT i t) (j := j) (by omega)
       have hgq := dlR_get hq
       have hqq := hd.row q (List.mem_of_getElem? hq)
       have hord := order_gd i (addTs t q) (addTs_sq hs fun x hx => (hqq.2.1 x hx).2) (by omega) hqq.2.2
       have hrev := rev_g i t hs (by omega) hv q hqq.1 hqq.2.1 _ _ hord
       have hrt := realT_take hq
       have hdle := hd.len
       have hrl := realT_len i t
       have hll : (lisR ((realT i t).take j)).length = j := by rw [lisR_len, List.length_take]; omega
       have htk : (lisR ((realT i t).take j)).take j = lisR ((realT i t).take j) := List.take_of_length_le (by omega)
       have happ := lisR_app ((realT i t).take j) ((ordO i (addTs t q) i []).map fun i : Nat => (i : Int))
       rw [← hrt] at happ
       unfold relB at hrev
       refine AW.skip ?_
       refine hK10 _ _ _ ?_; clear hK10
       refine AW.seq fun K11 hK11 => ?_
       refine AW.block ?_
       refine AW.sg [1,8,10,79,80,81] [1,400] (e4 @htl @hlen @hgq @dlR_len) ?_
       refine AW.so 0 (fun ii => if ii = 2 then some (.reads false (.tup [.rsl 1 (ints ((ordO i (addTs t q) i []).map fun i : Nat => (i : Int))), .int .i64 ((0 : Nat) : Int)])) else none) [1,8,11,12,79,80,81] [1,400] (e2 @htl @hlen) ?_
       repeat with_reducible refine cj ?_ ?_
       all_goals try first | (exact hrev) | omega | exact ent (by kernel_rfl)
       refine AW.seq fun K12 hK12 => ?_
       refine AW.sg [1,8,11,12,79,80,81,92] [1,400] (e2 @htl @hlen) ?_
       refine AW.cn ?_ ?_
       ·intro hb
        simp at hb
       ·intro hb
        refine AW.skip ?_
        refine hK12 _ _ _ ?_; clear hK12
        refine AW.regionK 0 (fun _ => none) [1, 8, 79, 80, 81] [1, 400] ?_
        simp only [go_sem, reduceIte, reduceCtorEq, zA, zM, zE, zL, zD, zS, zP, zB, zI, zR, htl, hlen, htk, hll, happ]
        repeat with_reducible refine cj ?_ ?_
        all_goals try first | omega | (simp [scP, scalar]; done) | exact scP_words _ | exact scP_ints _ | exact scP_bools _
        refine hK11 _ _ _ ?_; clear hK11
        refine AW.rg [1,8,79,80,81] [1,400] (e2 @htl @hlen) ?_
        -- again 3
        rw [← hQl3]; change Exists _
        exact ⟨_, eO, j + 1, _, _, _, _, rfl, eD, eD, eT⟩
      ·intro hb
       obtain rfl : j = (dealtT i t).length := by omega
       have hrl := realT_len i t
       have htk : (realT i t).take (dealtT i t).length = realT i t := List.take_of_length_le (by omega)
       have htk2 : (lisR (realT i t)).take (dealtT i t).length = lisR (realT i t) := List.take_of_length_le (by rw [lisR_len]; omega)
       rw [htk]
       -- exit 5
       refine AW.kx [8] [1,400] ?_
       rw [← hQl3]
       refine hK9 _ _ _ ?_; clear hK9
       refine AW.sg [2,3] [400] (e2 @htl @hlen) ?_
       -- ret 4
       rw [← hQr]
       refine AW.rt (e2 @htl @hlen) ?_
       exact Wk.of_eq (by simp only [go_sem, reduceIte, zE, htk2]; rfl)
     ·intro hb
      have hy2 : y.2 ≠ [] := fun e => by rw [e] at hyl; simp only [List.length_nil] at hyl; omega
      have hdt : dealtT i t = y.2 := by unfold dealtT; rw [← hde, if_neg hy2]
      have htk : (dlT y.2).take y.1.length = dlT y.2 := List.take_of_length_le (by rw [dlT_len]; omega)
      refine AW.frzCellK [302] 5 46 0 10 ?_
      simp only [go_sem, reduceIte, zE, zL, h10, hs10, hs12, htk, vwc_dlT]
      rw [← hdt]
      refine ⟨rfl, ?_⟩
      refine AW.keep [1, 7] [1, 46] ?_
      simp only [go_sem, reduceIte, zE]
      refine AW.skip ?_
      refine hK8 _ _ _ ?_; clear hK8
      refine AW.sg [1,7,8] [1,46] (e2 @htl @hlen) ?_
      refine AW.seq fun K13 hK13 => ?_
      refine AW.sg [1,8,79,80,81] [1] (e4 @htl @hlen @h10 @dlR_len) ?_
      refine AW.block ?_
      refine AW.nilOwn 8 400 1 (by simp only [go_sem, reduceIte, zE]) ?_
      refine AW.keep [1, 8, 79, 80, 81] [1, 400] ?_
      simp only [go_sem, reduceIte, zE]
      refine AW.loopE (fun mm ee ss kk => ∃ (j g1 v1 g v : Nat), (dealtT i t).length - j = mm ∧ ee = [(1, .ptr ⟨1, g1, none⟩ 0 0), (8, .sl ⟨400, g, none⟩ 0 j none), (79, .rsl 1 (dlR (dealtT i t))), (80, .int .i64 (dealtT i t).length), (81, .int .i64 (j : Nat))] ∧ ss = [(1, some ⟨g1, v1, 1, [[.rsl 2 (tabR t)]]⟩), (400, some ⟨g, v, 1, lisR ((realT i t).take j)⟩)] ∧ (j ≤ (dealtT i t).length)) ?_ ?_
      -- init 3
      ·refine ⟨_, 0, ?_, ?_, ?_, ?_, rfl, ?henv, ?hstore, ?hst⟩
       case henv =>
        repeat' (first | rfl | refine env_cons ?_ ?_ | refine st_cons ?_ ?_ ?_ ?_ | refine int_eq ?_ | refine bool_eq ?_ | refine rsl_eq ?_ | refine osl_eq ?_ | refine sl_eq ?_ ?_ ?_ | refine ptr_eq ?_ ?_ ?_ | refine agg_eq ?_ | refine es_cons ?_ ?_ | refine row_cons ?_ ?_)
        all_goals (first | (simp [dlR_len]; done) | omega)
       case hstore =>
        repeat' (first | rfl | refine env_cons ?_ ?_ | refine st_cons ?_ ?_ ?_ ?_ | refine int_eq ?_ | refine bool_eq ?_ | refine rsl_eq ?_ | refine osl_eq ?_ | refine sl_eq ?_ ?_ ?_ | refine ptr_eq ?_ ?_ ?_ | refine agg_eq ?_ | refine es_cons ?_ ?_ | refine row_cons ?_ ?_)
        all_goals (first | rw [List.take_zero]; rfl | (rw [List.take_zero]; simp [lisR]))
       case hst =>
        first | trivial | omega | (simp; done) | (simp; omega)
      rintro mm ee ss kk ⟨j, g1, v1, g, v, rfl, rfl, rfl, hI⟩
      generalize hQl3 : thenQ _ _ = Ql3
      refine AW.sg [1,8,79,80,81,82] [1,400] (e2 @htl @hlen) ?_
      refine AW.seq fun K14 hK14 => ?_
      refine AW.cn ?_ ?_
      ·intro hb
       obtain ⟨q, hq⟩ := getI (l := dealtT i t) (j := j) (by omega)
       have hgq := dlR_get hq
       have hqq := hd.row q (List.mem_of_getElem? hq)
       have hord := order_gd i (addTs t q) (addTs_sq hs fun x hx => (hqq.2.1 x hx).2) (by omega) hqq.2.2
       have hrev := rev_g i t hs (by omega) hv q hqq.1 hqq.2.1 _ _ hord
       have hrt := realT_take hq
       have hdle := hd.len
       have hrl := realT_len i t
       have hll : (lisR ((realT i t).take j)).length = j := by rw [lisR_len, List.length_take]; omega
       have htk : (lisR ((realT i t).take j)).take j = lisR ((realT i t).take j) := List.take_of_length_le (by omega)
       have happ := lisR_app ((realT i t).take j) ((ordO i (addTs t q) i []).map fun i : Nat => (i : Int))
       rw [← hrt] at happ
       unfold relB at hrev
       refine AW.skip ?_
       refine hK14 _ _ _ ?_; clear hK14
       refine AW.seq fun K15 hK15 => ?_
       refine AW.block ?_
       refine AW.sg [1,8,10,79,80,81] [1,400] (e4 @htl @hlen @hgq @dlR_len) ?_
       refine AW.so 0 (fun ii => if ii = 2 then some (.reads false (.tup [.rsl 1 (ints ((ordO i (addTs t q) i []).map fun i : Nat => (i : Int))), .int .i64 ((0 : Nat) : Int)])) else none) [1,8,11,12,79,80,81] [1,400] (e2 @htl @hlen) ?_
       repeat with_reducible refine cj ?_ ?_
       all_goals try first | (exact hrev) | omega | exact ent (by kernel_rfl)
       refine AW.seq fun K16 hK16 => ?_
       refine AW.sg [1,8,11,12,79,80,81,92] [1,400] (e2 @htl @hlen) ?_
       refine AW.cn ?_ ?_
       ·intro hb
        simp at hb
       ·intro hb
        refine AW.skip ?_
        refine hK16 _ _ _ ?_; clear hK16
        refine AW.regionK 0 (fun _ => none) [1, 8, 79, 80, 81] [1, 400] ?_
        simp only [go_sem, reduceIte, reduceCtorEq, zA, zM, zE, zL, zD, zS, zP, zB, zI, zR, htl, hlen, htk, hll, happ]
        repeat with_reducible refine cj ?_ ?_
        all_goals try first | omega | (simp [scP, scalar]; done) | exact scP_words _ | exact scP_ints _ | exact scP_bools _
        refine hK15 _ _ _ ?_; clear hK15
        refine AW.rg [1,8,79,80,81] [1,400] (e2 @htl @hlen) ?_
        -- again 3
        rw [← hQl3]; change Exists _
        exact ⟨_, eO, j + 1, _, _, _, _, rfl, eD, eD, eT⟩
      ·intro hb
       obtain rfl : j = (dealtT i t).length := by omega
       have hrl := realT_len i t
       have htk : (realT i t).take (dealtT i t).length = realT i t := List.take_of_length_le (by omega)
       have htk2 : (lisR (realT i t)).take (dealtT i t).length = lisR (realT i t) := List.take_of_length_le (by rw [lisR_len]; omega)
       rw [htk]
       -- exit 5
       refine AW.kx [8] [1,400] ?_
       rw [← hQl3]
       refine hK13 _ _ _ ?_; clear hK13
       refine AW.sg [2,3] [400] (e2 @htl @hlen) ?_
       -- ret 4
       rw [← hQr]
       refine AW.rt (e2 @htl @hlen) ?_
       exact Wk.of_eq (by simp only [go_sem, reduceIte, zE, htk2]; rfl)
end Go.Proofs.D

namespace Go.Proofs.D
open Go.AM Go
set_option maxRecDepth 100000
set_option maxHeartbeats 2000000
theorem rhas_in (b : List Bool) (hb : b.length ≤ 512) (i : Int) (h0 : 0 ≤ i) (h1 : i < b.length) : Reads Tryd.prog 59 false [.agg (rowB b), .int .i64 i] (.bool (b.getD i.toNat false)) := by
 have hd := div64_rng (i := i) (n := b.length) h0 (by omega)
 have hwl := setW_len' b
 have hgw := words_getD (l := setW b b.length) (i := (i.tdiv 64).toNat) (by omega)
 have hwr := wrap64 h0
 have hm := setW_mem h0 h1
 have hbl := setB_len hb
 unfold rowB hasW at *
 generalize setW b b.length = W at *
 refine Reads.body (rs := [.tmp 4]) Tryd.func59 rfl Tryd.ntmps59 rfl (by simp) ?_
 generalize hQr : retQ _ _ _ = Qr
 -- block 1
 refine AW.sg [1,2] [2] trivial ?_
 refine AW.sg [4] [] (@hgw) ?_
 repeat with_reducible refine cj ?_ ?_
 all_goals try first | omega | (intros; (repeat' apply And.intro) <;> first | assumption | omega | decide) | (intro hgd; exact absurd hgd (by decide)) | rfl | (simp only [go_sem, reduceIte, reduceCtorEq, zA, zM, zE, zL, zD, zS, zP, zB, zI, zR, hgw]; done) | (intro _hgd; simp_all [go_sem]; done)
 -- ret 1
 rw [← hQr]
 refine AW.rt trivial ?_
 exact Wk.of_eq (by rw [hm, decide_eq_true h0, decide_eq_true h1]; rfl)
theorem isset_r (N n : Int) (W : List Int) (hW : okW W) (hl : W.length ≤ 1000000) : Reads Tryd.prog 46 false [.agg [.int .i64 N, .rsl 1 (words W)], .int .i64 n] (.bool (decide (N = n) && validS n W)) := by
 have hwe := wordsN_ref n
 have hnv : ¬ (0 ≤ n ∧ n ≤ 512 ∧ (W.length : Int) = wordsN n) → validS n W = false := fun h => by
  cases e : validS n W
  ·rfl
  ·exact absurd (validS_sz e) h
 refine Reads.body (rs := [.tmp 4]) Tryd.func46 rfl Tryd.ntmps46 rfl (by simp) ?_
 generalize hQr : retQ _ _ _ = Qr
 -- block 2
 refine AW.sg [1,2] [2] (@hwe) ?_
 refine AW.seq fun K1 hK1 => ?_
 refine AW.sg [1,2,26] [2] (@hwe) ?_
 repeat with_reducible refine cj ?_ ?_
 all_goals try first | ((intro hh; have hc := hh; simp only [Bool.or_eq_false_iff, decide_eq_false_iff_not] at hc; have hwn2 := wordsN_rng (n := n) (by omega); (repeat' apply And.intro) <;> first | exact hh | omega | decide)) | (intros; (repeat' apply And.intro) <;> first | assumption | ((intro hh; have hc := hh; simp only [Bool.or_eq_false_iff, decide_eq_false_iff_not] at hc; have hwn2 := wordsN_rng (n := n) (by omega); (repeat' apply And.intro) <;> first | exact hh | omega | decide))) | omega | (intro hgd; exact absurd hgd (by decide)) | rfl | (simp only [go_sem, reduceIte, reduceCtorEq, zA, zM, zE, zL, zD, zS, zP, zB, zI, zR, hwe]; done) | (intro _hgd; simp_all [go_sem]; done)
 refine AW.cn ?_ ?_
 ·intro hb
  refine AW.sg [4] [] (@hwe) ?_
  -- ret 1
  rw [← hQr]
  refine AW.rt (@hwe) ?_
  exact Wk.of_eq (by by_cases hNn : N = n; rw [hnv (by rintro ⟨a, b, c⟩; rcases hb with ((hb | hb) | hb) | hb; exact hb hNn; omega; omega; exact hb c)]; simp; simp [hNn])
 ·intro hb
  have hsz : N = n ∧ 0 ≤ n ∧ n ≤ 512 ∧ (W.length : Int) = wordsN n := by refine ⟨?_, ?_, ?_, ?_⟩ <;> (obtain ⟨⟨⟨a, b⟩, c⟩, d⟩ := hb; omega)
  have hwn := wordsN_rng hsz.2.1
  have hNn := hsz.1
  refine AW.skip ?_
  refine hK1 _ _ _ ?_; clear hK1
  refine AW.seq fun K2 hK2 => ?_
  refine AW.sg [2,5] [2] (@hwe) ?_
  refine AW.block ?_
  refine AW.loopE (fun mm ee ss kk => ∃ (i : Nat) (g1 v1 : Nat), 64 * W.length - i = mm ∧ ee = [(2, .ptr ⟨2, g1, none⟩ 0 0), (5, .int .i64 (i : Nat))] ∧ ss = [(2, some ⟨g1, v1, 2, [[.int .i64 N, .rsl 1 (words W)]]⟩)] ∧ (n ≤ i ∧ i ≤ 100000000 ∧ ∀ q : Nat, n ≤ q → q < i → q < 64 * W.length → hasW W q = false)) ?_ ?_
  -- init 1
  ·exact ⟨_, n.toNat, _, _, rfl, eD, eD, (⟨by omega, by omega, fun q h1 h2 => by omega⟩)⟩
  rintro mm ee ss kk ⟨i, g1, v1, rfl, rfl, rfl, hI⟩
  generalize hQl1 : thenQ _ _ = Ql1
  obtain ⟨hNi, hi6, hall⟩ := hI
  refine AW.seq fun K3 hK3 => ?_
  refine AW.sg [2,5,33] [2] (@hwe) ?_
  refine AW.cn ?_ ?_
  ·intro hb
   have hgw := words_getD (l := W) (i := (((i : Nat) : Int).tdiv 64).toNat) (by rw [Int.tdiv_eq_ediv_of_nonneg (by omega)]; omega)
   have hd := div64_rng (i := (i : Int)) (n := (i : Int) + 1) (by omega) (by omega)
   have hdl : (i : Int).tdiv 64 < W.length := by rw [Int.tdiv_eq_ediv_of_nonneg (by omega)]; omega
   have hdh : hasW W (i : Nat) = decide ((bShr .u64 (W.getD ((i : Int).tdiv 64).toNat 0) ((i : Int).tmod 64)).tmod 2 = 1) := rfl
   refine AW.skip ?_
   refine hK3 _ _ _ ?_; clear hK3
   refine AW.seq fun K4 hK4 => ?_
   refine AW.block ?_
   refine AW.sg [2,5,46] [2] (e3 @hwe @hgw (Eq.symm hdh)) ?_
   refine AW.cn ?_ ?_
   ·intro hb
    refine AW.sg [4] [] (@hwe) ?_
    -- ret 2
    rw [← hQl1, ← hQr]
    refine AW.rt (@hwe) ?_
    have hvf : validS n W = false := by
     cases e : validS n W
     ·rfl
     ·rw [validS_bit hW e hNi (by omega)] at hb; cases hb
    exact Wk.of_eq (by rw [hvf]; simp)
   ·intro hb
    have hb0 : hasW W (i : Nat) = false := by simpa using hb
    refine AW.skip ?_
    refine hK4 _ _ _ ?_; clear hK4
    refine AW.rg [2,5] [2] (@hwe) ?_
    -- again 1
    rw [← hQl1]; change Exists _
    refine ⟨_, eO, i + 1, _, _, rfl, eD, eD, ?_⟩
    refine ⟨by omega, by omega, fun q h1 h2 h3 => ?_⟩
    by_cases e : q = i
    ·rw [e]; exact hb0
    ·exact hall q h1 (by omega) h3
  ·intro hb
   -- exit 0
   refine AW.kx [] [] ?_
   rw [← hQl1]
   refine hK2 _ _ _ ?_; clear hK2
   refine AW.sg [4] [] (@hwe) ?_
   -- ret 3
   rw [← hQr]
   refine AW.rt (@hwe) ?_
   exact Wk.of_eq (by rw [validS_bits hW hsz.2.1 hsz.2.2.1 hsz.2.2.2 fun q h1 h2 => hall q h1 (by omega) h2]; simp [hNn])
theorem rsame_r (N : Int) (W : List Int) (hl : W.length ≤ 9223372036854775807) : Reads Tryd.prog 58 false [.agg [.int .i64 N, .rsl 1 (words W)], .agg [.int .i64 N, .rsl 1 (words W)]] (.bool true) := by
 refine Reads.body (rs := [.tmp 4]) Tryd.func58 rfl Tryd.ntmps58 rfl (by simp) ?_
 generalize hQr : retQ _ _ _ = Qr
 -- block 3
 refine AW.sg [2,3] [2,3] trivial ?_
 refine AW.seq fun K1 hK1 => ?_
 refine AW.sg [2,3,19] [2,3] trivial ?_
 repeat with_reducible refine cj ?_ ?_
 all_goals try first | omega | (intros; (repeat' apply And.intro) <;> first | assumption | omega | decide) | (intro hgd; exact absurd hgd (by decide)) | rfl | exact gD | (intro _hgd; simp_all [go_sem]; done)
 refine AW.cn ?_ ?_
 ·intro hb
  exfalso; simp at hb
 ·intro hb
  refine AW.skip ?_
  refine hK1 _ _ _ ?_; clear hK1
  refine AW.seq fun K2 hK2 => ?_
  refine AW.sg [2,3,5] [2,3] trivial ?_
  refine AW.block ?_
  refine AW.loopE (fun mm ee ss kk => ∃ (i g2 v2 g3 v3 : Nat), W.length - i = mm ∧ ee = [(2, .ptr ⟨2, g2, none⟩ 0 0), (3, .ptr ⟨3, g3, none⟩ 0 0), (5, .int .i64 (i : Nat))] ∧ ss = [(2, some ⟨g2, v2, 2, [[.int .i64 N, .rsl 1 (words W)]]⟩), (3, some ⟨g3, v3, 2, [[.int .i64 N, .rsl 1 (words W)]]⟩)] ∧ (i ≤ W.length)) ?_ ?_
  -- init 1
  ·exact ⟨_, 0, _, _, _, _, rfl, eD, eD, eT⟩
  rintro mm ee ss kk ⟨i, g2, v2, g3, v3, rfl, rfl, rfl, hI⟩
  generalize hQl1 : thenQ _ _ = Ql1
  refine AW.seq fun K3 hK3 => ?_
  refine AW.sg [2,3,5,24] [2,3] trivial ?_
  refine AW.cn ?_ ?_
  ·intro hb
   have hgw := words_getD (l := W) (i := i) (by omega)
   refine AW.skip ?_
   refine hK3 _ _ _ ?_; clear hK3
   refine AW.seq fun K4 hK4 => ?_
   refine AW.block ?_
   refine AW.sd mixed 0 (fun _ => none) [2,3,5,37] [2,3] (@hgw) ?_
   refine AW.cn ?_ ?_
   ·intro hb
    exfalso; simp at hb
   ·intro hb
    refine AW.skip ?_
    refine hK4 _ _ _ ?_; clear hK4
    refine AW.rg [2,3,5] [2,3] trivial ?_
    -- again 1
    rw [← hQl1]; change Exists _
    exact ⟨_, eO, i + 1, _, _, _, _, rfl, eD, eD, eT⟩
  ·intro hb
   -- exit 0
   refine AW.kx [] [] ?_
   rw [← hQl1]
   refine hK2 _ _ _ ?_; clear hK2
   refine AW.sg [4] [] trivial ?_
   -- ret 3
   rw [← hQr]
   refine AW.rt trivial ?_
   exact Wk.refl _
theorem isset_b (b : List Bool) (hb : b.length ≤ 512) : Reads Tryd.prog 46 false [.agg (rowB b), .int .i64 b.length] (.bool true) := by
 have h := isset_r b.length b.length (setW b b.length) (setW_ok b) (by have := setB_len hb; omega)
 rw [validS_setW hb] at h
 simpa [rowB] using h
theorem less_r (n : Nat) (t : List (List Bool)) (hs : Sq n t) (hn : n ≤ 512) (i j : Nat) (hi : i < n) (hj : j < n) : Reads Tryd.prog 29 false [relB t, .int .i64 i, .int .i64 j] (.bool (atT t i j)) := by
 have hgi := tabR_get (t := t) (i := i) (by rw [hs.len]; exact hi)
 have hri := hs.rowLen hi
 have hlt := tabR_len t
 have hlen := hs.len
 have h := rhas_in (rowT t i) (by omega) j (by omega) (by omega)
 rw [Int.toNat_natCast, show (rowT t i).getD j false = atT t i j from rfl] at h
 unfold relB rowB at *
 refine Reads.body (rs := [.tmp 6]) Tryd.func29 rfl Tryd.ntmps29 rfl (by simp) ?_
 generalize hQr : retQ _ _ _ = Qr
 -- block 4
 refine AW.sg [1,2,3] [3] (e4 @hgi @rowB.eq_1 @hlt @hlen) ?_
 refine AW.so 0 (fun ii => if ii = 6 then some (.reads false (.bool (atT t i j))) else none) [6] [] (e4 @hgi @rowB.eq_1 @hlt @hlen) ?_
 repeat with_reducible refine cj ?_ ?_
 all_goals try first | (exact h) | omega | exact ent (by kernel_rfl)
 -- ret 1
 rw [← hQr]
 refine AW.rt (e4 @hgi @rowB.eq_1 @hlt @hlen) ?_
 exact Wk.of_eq rfl
def conB (n : Nat) (t : List (List Bool)) (i j : Nat) : Bool := (List.range n).all fun k => !atT t j k || atT t i k
theorem all_succ (p : Nat → Bool) (k : Nat) : (List.range (k + 1)).all p = ((List.range k).all p && p k) := by rw [List.range_succ, List.all_append]; simp
theorem all_cut {p : Nat → Bool} {n k : Nat} (hk : k < n) (h : p k = false) : (List.range n).all p = false := by
 refine Bool.eq_false_iff.2 fun e => ?_
 have := List.all_eq_true.1 e k (List.mem_range.2 hk)
 rw [h] at this; cases this
theorem contained_r (n : Nat) (t : List (List Bool)) (hs : Sq n t) (hn : n ≤ 512) (i j : Nat) (hi : i < n) (hj : j < n) : Reads Tryd.prog 47 false [relB t, .int .i64 i, .int .i64 j] (.bool (conB n t i j)) := by
 have hlt := tabR_len t
 have hlen := hs.len
 have hls := fun a b ha hb => less_r n t hs hn a b ha hb
 have hc : conB n t i j = (List.range n).all fun k => !atT t j k || atT t i k := rfl
 unfold relB at *
 refine Reads.body (rs := [.tmp 6]) Tryd.func47 rfl Tryd.ntmps47 rfl (by simp) ?_
 generalize hQr : retQ _ _ _ = Qr
 -- block 5
 refine AW.sg [1,2,3] [3] (e2 @hlt @hlen) ?_
 refine AW.seq fun K1 hK1 => ?_
 refine AW.sg [1,2,3,7] [3] (e2 @hlt @hlen) ?_
 refine AW.block ?_
 refine AW.loopE (fun mm ee ss kk => ∃ (k g3 v3 : Nat), n - k = mm ∧ ee = [(1, .int .i64 i), (2, .int .i64 j), (3, .ptr ⟨3, g3, none⟩ 0 0), (7, .int .i64 (k : Nat))] ∧ ss = [(3, some ⟨g3, v3, 1, [[.rsl 2 (tabR t)]]⟩)] ∧ (k ≤ n ∧ ((List.range k).all fun k => !atT t j k || atT t i k) = true)) ?_ ?_
 -- init 1
 ·exact ⟨_, 0, _, _, rfl, eD, eD, eT⟩
 rintro mm ee ss kk ⟨k, g3, v3, rfl, rfl, rfl, hI⟩
 generalize hQl1 : thenQ _ _ = Ql1
 obtain ⟨hk, hall⟩ := hI
 refine AW.seq fun K2 hK2 => ?_
 refine AW.sg [1,2,3,7,12] [3] (e2 @hlt @hlen) ?_
 refine AW.cn ?_ ?_
 ·intro hb
  have h1 := hls j k hj (by omega)
  have h2 := hls i k hi (by omega)
  have hsu := all_succ (fun k => !atT t j k || atT t i k) k
  refine AW.skip ?_
  refine hK2 _ _ _ ?_; clear hK2
  refine AW.seq fun K3 hK3 => ?_
  refine AW.block ?_
  refine AW.so 0 (fun ii => if ii = 3 then some (.reads false (.bool (atT t j k))) else if ii = 8 then some (.reads false (.bool (atT t i k))) else none) [1,2,3,7,25] [3] (e2 @hlt @hlen) ?_
  repeat with_reducible refine cj ?_ ?_
  all_goals try first | (first | exact h1 | exact h2 | (intro hh; exact ⟨hh, h2⟩)) | (intros; (repeat' apply And.intro) <;> first | assumption | (first | exact h1 | exact h2 | (intro hh; exact ⟨hh, h2⟩))) | omega | exact ent (by kernel_rfl) | (intro hgd; exact absurd hgd (by decide)) | rfl | (simp only [go_sem, reduceIte, reduceCtorEq, zA, zM, zE, zL, zD, zS, zP, zB, zI, zR, hlt, hlen]; done) | (intro _hgd; simp_all [go_sem]; done)
  refine AW.cn ?_ ?_
  ·intro hb
   refine AW.sg [6] [] (e2 @hlt @hlen) ?_
   -- ret 1
   rw [← hQl1, ← hQr]
   refine AW.rt (e2 @hlt @hlen) ?_
   exact Wk.of_eq (by rw [hc, all_cut (k := k) (by omega) (by revert hb; cases atT t j k <;> cases atT t i k <;> simp)])
  ·intro hb
   refine AW.skip ?_
   refine hK3 _ _ _ ?_; clear hK3
   refine AW.rg [1,2,3,7] [3] (e2 @hlt @hlen) ?_
   -- again 1
   rw [← hQl1]; change Exists _
   exact ⟨_, eO, k + 1, _, _, rfl, eD, eD, (⟨by omega, by rw [hsu, hall]; revert hb; cases atT t j k <;> cases atT t i k <;> simp⟩)⟩
 ·intro hb
  -- exit 0
  refine AW.kx [] [] ?_
  rw [← hQl1]
  refine hK1 _ _ _ ?_; clear hK1
  refine AW.sg [6] [] (e2 @hlt @hlen) ?_
  -- ret 2
  rw [← hQr]
  refine AW.rt (e2 @hlt @hlen) ?_
  obtain rfl : k = n := by omega
  exact Wk.of_eq (by rw [hc, hall])
end Go.Proofs.D

