/- Lemmas and contracts, part 5: an abstract machine over the model, and the functions that the statement reaches. -/
import Derived.Test.YtloonkbfooddiaaGreatDoorIdealListsP4
import Derived.Shelf.SlSortCmp.WholeK
import Derived.Shelf.SlIter.Collect
import Derived.Shelf.SlSortCmp.NoneTotal
import Derived.MakeChecks
import Derived.LaidMore
import Derived.Test.YtloonkbfooddiaaGreatDoorRows
set_option linter.unusedVariables false
set_option linter.unusedSimpArgs false
namespace Go.Proofs.I
open Go.AM Go
set_option maxRecDepth 100000
set_option maxHeartbeats 4000000
theorem eqw_r (a b : List Int) (hla : a.length ≤ 9223372036854775807) : Reads Tryz.prog 50 false [.rsl 1 (words a), .rsl 1 (words b)] (.bool (a == b)) := by
  refine Reads.body (rs := [.tmp 4]) Tryz.func50 rfl Tryz.ntmps50 rfl (by simp) ?_
  generalize hQr : retQ _ _ _ = Qr
  -- block 1
  -- region 0
  refine AW.sg [0,1] [] trivial ?_
  refine AW.seq fun K1 hK1 => ?_
  -- region 1
  refine AW.sg [0,1,10] [] trivial ?_
  -- cond 1
  refine AW.cn ?_ ?_
  · intro hb
    rw [← Ne, Ne, Int.natCast_inj] at hb
    -- region 2
    refine AW.sg [4] [] trivial ?_
    -- ret 1
    rw [← hQr]
    refine AW.rt trivial ?_
    exact Wk.of_eq (by rw [eqL_len hb])
  · intro hb
    have hlen : a.length = b.length := by omega
    refine AW.skip ?_
    refine hK1 _ _ _ ?_; clear hK1
    refine AW.seq fun K2 hK2 => ?_
    -- region 3
    refine AW.sg [0,1,12,13] [] trivial ?_
    refine AW.block ?_
    -- loop 1
    refine AW.loopE (fun mm ee ss kk => ∃ (j : Nat), a.length - j = mm ∧ ee = [(0, .rsl 1 (words a)), (1, .rsl 1 (words b)), (12, .int .i64 a.length), (13, .int .i64 (j : Nat))] ∧ ss = [] ∧ (j ≤ a.length ∧ a.take j = b.take j)) ?_ ?_
    -- init 1
    · exact ⟨_, 0, rfl, eD, eD, eT⟩
    rintro mm ee ss kk ⟨j, rfl, rfl, rfl, hI⟩
    generalize hQl1 : thenQ _ _ = Ql1
    obtain ⟨hj, hall⟩ := hI
    -- region 4
    refine AW.sg [0,1,12,13,14] [] trivial ?_
    refine AW.seq fun K3 hK3 => ?_
    -- cond 2
    refine AW.cn ?_ ?_
    · intro hb
      obtain ⟨x, hx⟩ := getI (l := a) (j := j) (by omega)
      obtain ⟨y, hy⟩ := getI (l := b) (j := j) (by omega)
      have hgx := words_get hx
      have hgy := words_get hy
      refine AW.skip ?_
      refine hK3 _ _ _ ?_; clear hK3
      refine AW.seq fun K4 hK4 => ?_
      refine AW.block ?_
      -- region 5
      refine AW.sg [0,1,5,12,13] [] trivial ?_
      -- region 6
      refine AW.sd mixed 0 (fun _ => none) [0,1,12,13,24] [] (e2 @hgx @hgy) ?_
      -- cond 3
      refine AW.cn ?_ ?_
      · intro hb
        -- region 7
        refine AW.sg [4] [] trivial ?_
        -- ret 2
        rw [← hQl1, ← hQr]
        refine AW.rt trivial ?_
        exact Wk.of_eq (by rw [eqL_ne hx hy hb])
      · intro hb
        have hxy : x = y := by omega
        subst hxy
        refine AW.skip ?_
        refine hK4 _ _ _ ?_; clear hK4
        -- region 8
        refine AW.rg [0,1,12,13] [] trivial ?_
        -- again 1
        rw [← hQl1]; change Exists _
        exact ⟨_, eO, j + 1, rfl, eD, eD, (⟨by omega, take_succ_eq hx hy hall⟩)⟩
    · intro hb
      -- exit 0
      refine AW.kx [] [] ?_
      rw [← hQl1]
      refine hK2 _ _ _ ?_; clear hK2
      -- region 9
      refine AW.sg [4] [] trivial ?_
      -- ret 3
      rw [← hQr]
      refine AW.rt trivial ?_
      exact Wk.of_eq (by rw [List.take_of_length_le (by omega), List.take_of_length_le (by omega)] at hall; rw [hall]; simp)
def cmpI (x y : Int) : Int := if x < y then -1 else if x > y then 1 else 0
theorem isnan_r (x : Int) : Reads Tryz.prog 97 false [.int .i64 x] (.bool false) := by
  refine Reads.body (rs := [.tmp 2]) Tryz.func97 rfl Tryz.ntmps97 rfl (by simp) ?_
  generalize hQr : retQ _ _ _ = Qr
  -- block 2
  -- region 0
  refine AW.sg [0] [] trivial ?_
  -- region 1
  refine AW.sg [2] [] trivial ?_
  -- ret 1
  rw [← hQr]
  refine AW.rt trivial ?_
  exact Wk.of_eq (by simp)
theorem cmpi_r (x y : Int) : Reads Tryz.prog 108 false [.int .i64 x, .int .i64 y] (.int .i64 (cmpI x y)) := by
  have h1 := isnan_r x
  have h2 := isnan_r y
  refine Reads.body (rs := [.tmp 4]) Tryz.func108 rfl Tryz.ntmps108 rfl (by simp) ?_
  generalize hQr : retQ _ _ _ = Qr
  -- block 3
  -- region 0
  refine AW.sg [0,1] [] trivial ?_
  -- region 1
  refine AW.so 0 (fun ii => if ii = 1 then some (.reads false (.bool false)) else none) [0,1,5] [] trivial ?_
  repeat with_reducible refine cj ?_ ?_
  all_goals try first | (exact h1) | omega | exact ent (by kernel_rfl)
  -- region 2
  refine AW.so 0 (fun ii => if ii = 1 then some (.reads false (.bool false)) else none) [0,1,5,6] [] trivial ?_
  repeat with_reducible refine cj ?_ ?_
  all_goals try first | (exact h2) | omega | exact ent (by kernel_rfl)
  refine AW.seq fun K1 hK1 => ?_
  -- region 3
  refine AW.sg [0,1,6,11] [] trivial ?_
  -- cond 1
  refine AW.cn ?_ ?_
  · intro hb
    exfalso; simp at hb
  · intro hb
    refine AW.skip ?_
    refine hK1 _ _ _ ?_; clear hK1
    refine AW.seq fun K2 hK2 => ?_
    -- region 7
    refine AW.sg [0,1,13] [] trivial ?_
    -- cond 3
    refine AW.cn ?_ ?_
    · intro hb
      exfalso; simp at hb
    · intro hb
      refine AW.skip ?_
      refine hK2 _ _ _ ?_; clear hK2
      refine AW.seq fun K3 hK3 => ?_
      -- region 9
      refine AW.sg [0,1,16] [] trivial ?_
      -- cond 4
      refine AW.cn ?_ ?_
      · intro hb
        -- region 10
        refine AW.sg [4] [] trivial ?_
        -- ret 4
        rw [← hQr]
        refine AW.rt trivial ?_
        exact Wk.of_eq (by unfold cmpI; rw [if_pos hb])
      · intro hb
        refine AW.skip ?_
        refine hK3 _ _ _ ?_; clear hK3
        refine AW.seq fun K4 hK4 => ?_
        -- region 11
        refine AW.sg [19] [] trivial ?_
        -- cond 5
        refine AW.cn ?_ ?_
        · intro hb
          -- region 12
          refine AW.sg [4] [] trivial ?_
          -- ret 5
          rw [← hQr]
          refine AW.rt trivial ?_
          exact Wk.of_eq (by unfold cmpI; rw [if_neg (by omega), if_pos hb])
        · intro hb
          refine AW.skip ?_
          refine hK4 _ _ _ ?_; clear hK4
          -- region 13
          refine AW.sg [4] [] trivial ?_
          -- ret 6
          rw [← hQr]
          refine AW.rt trivial ?_
          exact Wk.of_eq (by unfold cmpI; rw [if_neg (by omega), if_neg (by omega)])
theorem cmpS_cnt {a b : List Bool} (hne : a ≠ b) (h : cmpI ((memB a).length : Nat) ((memB b).length : Nat) ≠ 0) : cmpI ((memB a).length : Nat) ((memB b).length : Nat) = cmpS a b := by
  unfold cmpS cntB cmpI at *
  rw [if_neg hne]
  split
  · rw [if_pos (by omega)]
  · split
    · rw [if_neg (by omega), if_pos (by omega)]
    · rename_i h1 h2; rw [if_neg h1, if_neg h2] at h; exact absurd rfl h
theorem cmpS_eq {a b : List Bool} (hne : a ≠ b) (h : cmpI ((memB a).length : Nat) ((memB b).length : Nat) = 0) : cmpS a b = cmpD a b := by
  unfold cmpS cntB cmpI at *
  rw [if_neg hne]
  split at h
  · cases h
  · split at h
    · cases h
    · rw [if_neg (by omega), if_neg (by omega)]
theorem cmp_r (a b : List Bool) (ha : a.length ≤ 512) (hl : b.length = a.length) : Reads Tryz.prog 87 false [.agg (rowB a), .agg (rowB b)] (.tup [.int .i64 (cmpS a b), .int .i64 ((0 : Nat) : Int)]) := by
  have hlb : b.length ≤ 512 := by omega
  have hma := bmatching_r a.length b.length (setW a a.length) (setW b b.length) (by have := setB_len ha; omega) (by have := setB_len hlb; omega)
  rw [validS_setW ha, validS_setW hlb, show decide ((a.length : Int) = b.length) = true by simp [hl]] at hma
  have hca := count_b a ha
  have hcb := count_b b hlb
  have heq := eqw_r (setW a a.length) (setW b b.length) (by have := setB_len ha; omega)
  have hci := cmpi_r ((memB a).length : Nat) ((memB b).length : Nat)
  have hlen : (setW b b.length).length = (setW a a.length).length := by rw [setW_len', setW_len', hl]
  have hle := setB_len ha
  have hval : decide (a = b) = (setW a a.length == setW b b.length) := by
    by_cases e : a = b
    · subst e; simp
    · rw [decide_eq_false e, eq_comm, beq_eq_false_iff_ne]; exact fun h => e (row_words hl h)
  unfold rowB at *
  generalize hWe : setW a a.length = W at *
  generalize hVe : setW b b.length = V at *
  refine Reads.body (rs := [.tmp 4, .tmp 5]) Tryz.func87 rfl Tryz.ntmps87 rfl (by simp) ?_
  generalize hQr : retQ _ _ _ = Qr
  -- block 4
  -- region 0
  refine AW.sg [2,3] [2,3] trivial ?_
  refine AW.seq fun K1 hK1 => ?_
  -- region 1
  refine AW.so 0 (fun ii => if ii = 2 then some (.reads false (.bool true)) else none) [2,3,13] [2,3] trivial ?_
  repeat with_reducible refine cj ?_ ?_
  all_goals try first | (simpa using hma) | omega | exact ent (by kernel_rfl)
  -- cond 1
  refine AW.cn ?_ ?_
  · intro hb
    exfalso; simp at hb
  · intro hb
    refine AW.skip ?_
    refine hK1 _ _ _ ?_; clear hK1
    refine AW.seq fun K2 hK2 => ?_
    -- region 3
    refine AW.so 0 (fun ii => if ii = 4 then some (.reads false (.bool (W == V))) else none) [2,3,18] [2,3] trivial ?_
    repeat with_reducible refine cj ?_ ?_
    all_goals try first | (exact heq) | omega | exact ent (by kernel_rfl)
    -- cond 2
    refine AW.cn ?_ ?_
    · intro hb
      -- region 4
      refine AW.sg [4,5] [] trivial ?_
      -- ret 2
      rw [← hQr]
      refine AW.rt trivial ?_
      exact Wk.of_eq (by unfold cmpS; rw [if_pos (of_decide_eq_true (by rw [hval]; simpa using hb))]; rfl)
    · intro hb
      have hab : a ≠ b := fun e => by have := hval.symm; rw [hb] at this; simp [e] at this
      have hWV : W ≠ V := fun e => by simp [e] at hb
      refine AW.skip ?_
      refine hK2 _ _ _ ?_; clear hK2
      refine AW.seq fun K3 hK3 => ?_
      -- region 5
      refine AW.sd mixed 0 (fun ii => if ii = 1 then some (.reads false (.int .i64 ((memB a).length : Nat))) else if ii = 3 then some (.reads false (.int .i64 ((memB b).length : Nat))) else if ii = 4 then some (.reads false (.int .i64 (cmpI ((memB a).length : Nat) ((memB b).length : Nat)))) else none) [2,3,6] [2,3] trivial ?_
      repeat with_reducible refine cj ?_ ?_
      all_goals try first | (first | exact hca | exact hcb | exact hci | exact ⟨hca, hcb, hci⟩) | omega | exact chk (by kernel_rfl) | exact ent (by kernel_rfl)
      -- region 6
      refine AW.sg [2,3,6,25] [2,3] trivial ?_
      -- cond 3
      refine AW.cn ?_ ?_
      · intro hb
        -- region 7
        refine AW.sg [4,5] [] trivial ?_
        -- ret 3
        rw [← hQr]
        refine AW.rt trivial ?_
        exact Wk.of_eq (by rw [cmpS_cnt hab hb]; rfl)
      · intro hb
        refine AW.skip ?_
        refine hK3 _ _ _ ?_; clear hK3
        refine AW.seq fun K4 hK4 => ?_
        -- region 8
        refine AW.sg [3,28,29,30] [3] trivial ?_
        refine AW.block ?_
        -- loop 1
        refine AW.loopE (fun mm ee ss kk => ∃ (j g v : Nat), W.length - j = mm ∧ ee = [(3, .ptr ⟨3, g, none⟩ 0 0), (28, .rsl 1 (words W)), (29, .int .i64 W.length), (30, .int .i64 (j : Nat))] ∧ ss = [(3, some ⟨g, v, 2, [[.int .i64 b.length, .rsl 1 (words V)]]⟩)] ∧ (j ≤ W.length ∧ W.take j = V.take j)) ?_ ?_
        -- init 1
        · exact ⟨_, 0, _, _, rfl, eD, eD, eT⟩
        rintro mm ee ss kk ⟨j, g, v, rfl, rfl, rfl, hI⟩
        generalize hQl1 : thenQ _ _ = Ql1
        obtain ⟨hj, hall⟩ := hI
        -- region 9
        refine AW.sg [3,28,29,30,31] [3] trivial ?_
        refine AW.seq fun K5 hK5 => ?_
        -- cond 4
        refine AW.cn ?_ ?_
        · intro hb
          obtain ⟨x, hx⟩ := getI (l := W) (j := j) (by omega)
          obtain ⟨y, hy⟩ := getI (l := V) (j := j) (by omega)
          have hgx := words_get hx
          have hgy := words_get hy
          have hx0 : 0 ≤ x ∧ x < 18446744073709551616 := okW_mem (by rw [← hWe]; exact setW_ok a) (List.mem_of_getElem? hx)
          have hy0 : 0 ≤ y ∧ y < 18446744073709551616 := okW_mem (by rw [← hVe]; exact setW_ok b) (List.mem_of_getElem? hy)
          have hxz := bXor_zero hx0 hy0
          have hcat := cmp_at hl hWe hVe hx hy hall
          refine AW.skip ?_
          refine hK5 _ _ _ ?_; clear hK5
          refine AW.seq fun K6 hK6 => ?_
          refine AW.block ?_
          -- region 10
          refine AW.sg [3,7,8,28,29,30] [3] (@hgx) ?_
          -- region 11
          refine AW.sg [3,8,9,28,29,30] [3] (@hgy) ?_
          -- region 12
          refine AW.sg [3,8,9,28,29,30,43] [3] trivial ?_
          -- cond 5
          refine AW.cn ?_ ?_
          · intro hb
            have hne : x ≠ y := fun e => hb (hxz.2 e)
            have hcd := hcat hne
            refine AW.seq fun K7 hK7 => ?_
            -- region 13
            refine AW.sg [50] [] trivial ?_
            -- cond 6
            refine AW.cn ?_ ?_
            · intro hb
              -- region 14
              refine AW.sg [4,5] [] trivial ?_
              -- ret 4
              rw [← hQl1, ← hQr]
              refine AW.rt trivial ?_
              exact Wk.of_eq (by rw [cmpS_eq hab (by assumption), hcd, if_neg hb]; rfl)
            · intro hb
              refine AW.skip ?_
              refine hK7 _ _ _ ?_; clear hK7
              -- region 15
              refine AW.sg [4,5] [] trivial ?_
              -- ret 5
              rw [← hQl1, ← hQr]
              refine AW.rt trivial ?_
              exact Wk.of_eq (by rw [cmpS_eq hab (by assumption), hcd, if_pos (by omega)]; rfl)
          · intro hb
            have hxy : x = y := hxz.1 (by omega)
            subst hxy
            refine AW.skip ?_
            refine hK6 _ _ _ ?_; clear hK6
            -- region 16
            refine AW.rg [3,28,29,30] [3] trivial ?_
            -- again 1
            rw [← hQl1]; change Exists _
            exact ⟨_, eO, j + 1, _, _, rfl, eD, eD, (⟨by omega, take_succ_eq hx hy hall⟩)⟩
        · intro hb
          -- exit 0
          refine AW.kx [] [] ?_
          rw [← hQl1]
          refine hK4 _ _ _ ?_; clear hK4
          -- region 17
          refine AW.sg [4,5] [] trivial ?_
          -- ret 6
          rw [← hQr]
          refine AW.rt trivial ?_
          exact absurd (by rw [List.take_of_length_le (by omega), List.take_of_length_le (by omega)] at hall; exact hall) hWV
theorem cmpf_r (a b : List Bool) (ha : a.length ≤ 512) (hl : b.length = a.length) : Reads Tryz.prog 86 false [.agg (rowB a), .agg (rowB b)] (.int .i64 (cmpS a b)) := by
  have h := cmp_r a b ha hl
  unfold rowB at *
  refine Reads.body (rs := [.tmp 4]) Tryz.func86 rfl Tryz.ntmps86 rfl (by simp) ?_
  generalize hQr : retQ _ _ _ = Qr
  -- block 5
  -- region 0
  refine AW.sg [2,3] [2,3] trivial ?_
  -- region 1
  refine AW.so 0 (fun ii => if ii = 2 then some (.reads false (.tup [.int .i64 (cmpS a b), .int .i64 ((0 : Nat) : Int)])) else none) [5] [] trivial ?_
  repeat with_reducible refine cj ?_ ?_
  all_goals try first | (exact h) | omega | exact ent (by kernel_rfl)
  -- region 2
  refine AW.sg [4] [] trivial ?_
  -- ret 1
  rw [← hQr]
  refine AW.rt trivial ?_
  exact Wk.refl _
end Go.Proofs.I

/- A root that a cell names is cut to what the cell sees; an owned inner slice becomes a root that the cell names. -/
namespace Go.AM

end Go.AM

namespace Go.Proofs.I
open Go.AM Go
set_option maxRecDepth 100000
set_option maxHeartbeats 4000000
theorem with1_r (w b : Int) : Reads Tryz.prog 101 false [.int .u64 w, .int .u64 b] (.int .u64 (bOr .u64 w b)) := by
  refine Reads.body (rs := [.tmp 4]) Tryz.func101 rfl Tryz.ntmps101 rfl (by simp) ?_
  generalize hQr : retQ _ _ _ = Qr
  -- block 1
  -- region 0
  refine AW.sg [0,1] [] trivial ?_
  -- region 1
  refine AW.sg [4] [] trivial ?_
  -- ret 1
  rw [← hQr]
  refine AW.rt trivial ?_
  exact Wk.of_eq rfl
theorem changed_u (b : List Bool) (hb : b.length ≤ 512) (i : Nat) (hi : i < b.length) : Upd Tryz.prog 100 [] [.agg (rowB b), .int .i64 i, .fn 101 []] (fun k => .tup [.agg [.int .i64 b.length, .sl ⟨0, k, none⟩ 0 (setW b b.length).length none], .int .i64 ((0 : Nat) : Int)])
    (fun k => [(0, some ⟨k, k, 1, words (setW (b.set i true) b.length)⟩)]) := by
  have hwl := setW_len' b
  have hwn := wordsN_rng (n := (b.length : Int)) (by omega)
  have hv := Reads.flat (bvalid_r b.length (setW b b.length) (by omega)) rfl
  have hin := Reads.flat (inside_r b.length (words (setW b b.length)) i) rfl
  rw [validS_setW hb] at hv
  rw [decide_eq_true (by omega : (0 : Int) ≤ i), decide_eq_true (by omega : (i : Int) < b.length)] at hin
  have hcp := copied_u b.length (setW b b.length) (by omega)
  have hd := div64_rng (i := (i : Int)) (n := b.length) (by omega) (by omega)
  have hgw := words_getD (l := setW b b.length) (i := ((i : Int).tdiv 64).toNat) (by omega)
  have hsb := setBit_setW b (i := i) (by omega)
  have hw1 := with1_r ((setW b b.length).getD ((i : Int).tdiv 64).toNat 0) (bShl .u64 1 ((i : Int).tmod 64))
  unfold setBit at hsb
  unfold rowB
  refine Upd.of_body (rs := [.cell 6 27, .tmp 7]) Tryz.func100 rfl Tryz.ntmps100 rfl (by simp) ?_
  intro k0 k hk0 hk1
  generalize hQr : retQ _ _ _ = Qr
  -- block 2
  -- region 0
  refine AW.so 100 (fun _ => none) [1,2,3,6] [103,106] trivial ?_
  refine AW.seq fun K1 hK1 => ?_
  refine AW.block ?_
  -- region 1
  refine AW.so 100 (fun ii => if ii = 1 then some (.reads true (.bool true)) else none) [1,2,3,6,9] [103,106] trivial ?_
  repeat with_reducible refine cj ?_ ?_
  all_goals try first | (exact hv) | omega | exact ent (by kernel_rfl)
  -- cond 1
  refine AW.cn ?_ ?_
  · intro hb
    simp at hb
  · intro hb
    -- region 3
    refine AW.so 100 (fun ii => if ii = 2 then some (.reads true (.bool true)) else none) [1,2,3,6,14] [103,106] trivial ?_
    repeat with_reducible refine cj ?_ ?_
    all_goals try first | (exact hin) | omega | exact ent (by kernel_rfl)
    -- cond 2
    refine AW.cn ?_ ?_
    · intro hb
      simp at hb
    · intro hb
      refine AW.skip ?_
      refine hK1 _ _ _ ?_; clear hK1
      -- region 5
      refine AW.so 100 (fun ii => if ii = 1 then some (.upd [] (fun kk => [(0, some ⟨kk, kk, 1, words (setW b b.length)⟩)]) (fun kk => .agg [.int .i64 b.length, .sl ⟨0, kk, none⟩ 0 (setW b b.length).length none])) else none) [1,2,6,8] [106,108,121] trivial ?_
      repeat with_reducible refine cj ?_ ?_
      all_goals try first | (exact hcp) | omega | exact ent (by kernel_rfl)
      -- region 6
      refine AW.sd mixed 100 (fun ii => if ii = 14 then some (.reads false (.int .u64 (bOr .u64 ((setW b b.length).getD ((i : Int).tdiv 64).toNat 0) (bShl .u64 1 ((i : Int).tmod 64))))) else none) [6,8] [106,108,121] (e2 @hgw @hsb) ?_
      repeat with_reducible refine cj ?_ ?_
      all_goals try first | (first | exact Reads.flat hw1 rfl | exact hw1) | omega | exact chk (by kernel_rfl) | exact ent (by kernel_rfl)
      -- region 7
      refine AW.so 100 (fun _ => none) [6,7] [106,121] trivial ?_
      -- ret 3
      rw [← hQr]
      refine AW.rt trivial ?_
      refine ⟨[(121, 0, true)], ?_⟩
      simp only [go_sem, reduceIte, Nat.reduceEqDiff, renC_words]
      rfl
theorem with_u (b : List Bool) (hb : b.length ≤ 512) (i : Nat) (hi : i < b.length) : Upd Tryz.prog 82 [] [.agg (rowB b), .int .i64 i] (fun k => .tup [.agg [.int .i64 b.length, .sl ⟨0, k, none⟩ 0 (setW b b.length).length none], .int .i64 ((0 : Nat) : Int)])
    (fun k => [(0, some ⟨k, k, 1, words (setW (b.set i true) b.length)⟩)]) := by
  have h := changed_u b hb i hi
  unfold rowB at *
  refine Upd.of_body (rs := [.cell 4 27, .tmp 5]) Tryz.func82 rfl Tryz.ntmps82 rfl (by simp) ?_
  intro k0 k hk0 hk1
  generalize hQr : retQ _ _ _ = Qr
  -- block 3
  -- region 0
  refine AW.so 100 (fun _ => none) [1,2,4] [102,104] trivial ?_
  -- region 1
  refine AW.so 100 (fun ii => if ii = 2 then some (.upd [] (fun kk => [(0, some ⟨kk, kk, 1, words (setW (b.set i true) b.length)⟩)]) (fun kk => .tup [.agg [.int .i64 b.length, .sl ⟨0, kk, none⟩ 0 (setW b b.length).length none], .int .i64 ((0 : Nat) : Int)])) else none) [4,5] [104,108] trivial ?_
  repeat with_reducible refine cj ?_ ?_
  all_goals try first | (exact h) | omega | exact ent (by kernel_rfl)
  -- ret 1
  rw [← hQr]
  refine AW.rt trivial ?_
  refine ⟨[(108, 0, true)], ?_⟩
  simp only [go_sem, reduceIte, Nat.reduceEqDiff, renC_words]
theorem with_r (b : List Bool) (hb : b.length ≤ 512) (i : Nat) (hi : i < b.length) : Reads Tryz.prog 82 true [.agg (rowB b), .int .i64 i] (.tup [.agg (rowB (b.set i true)), .int .i64 ((0 : Nat) : Int)]) := by
  refine Upd.reads (with_u b hb i hi) (Wk.of_eq ?_)
  have hrow : rowB (b.set i true) = [.int .i64 b.length, .rsl 1 (words (setW (b.set i true) b.length))] := by simp [rowB]
  have hl : (setW (b.set i true) b.length).length = (setW b b.length).length := by rw [← setBit_setW b (i := i) hi, setBit_len]
  rw [hrow]
  simp only [go_sem, reduceIte, Nat.reduceEqDiff]
  rw [List.take_of_length_le (by rw [hl]; exact Nat.le_refl _)]
end Go.Proofs.I

/- The library's sort at this seat's program. -/
namespace Go.Proofs
open Go.Shelf
def I.sortL_ren : Go.Shelf.Ren := ⟨fun | 6 => 106 | 15 => 118 | 14 => 117 | 28 => 132 | 29 => 133 | 20 => 124 | 21 => 125 | 22 => 126 | 23 => 127 | 24 => 128 | 25 => 129 | 26 => 130 | 27 => 131 | 46 => 138 | 47 => 139 | 48 => 140 | 49 => 141 | 50 => 142 | 57 => 144 | n => n, fun | 22 => 22 | 24 => 27 | 25 => 48 | 3 => 3 | 39 => 69 | 0 => 0 | 53 => 135 | 55 => 65 | 4 => 4 | 46 => 128 | 45 => 127 | 50 => 132 | 5 => 5 | 9 => 9 | 66 => 139 | 70 => 143 | 76 => 145 | 77 => 146 | n => n, fun | n => n⟩
theorem I.sortL : Go.Proofs.SlLaysF0.n6 Tryz.prog I.sortL_ren := {
  mixed := by kernel_rfl
  f6 := ⟨Tryz.f106.name, by decide, Tryz.func106.trans (congrArg some (by kernel_rfl))⟩
  f14 := ⟨Tryz.f117.name, by decide, Tryz.func117.trans (congrArg some (by kernel_rfl))⟩
  f15 := Tryz.func118.trans (congrArg some (by kernel_rfl))
  f20 := ⟨Tryz.f124.name, by decide, Tryz.func124.trans (congrArg some (by kernel_rfl))⟩
  f21 := ⟨Tryz.f125.name, by decide, Tryz.func125.trans (congrArg some (by kernel_rfl))⟩
  f22 := ⟨Tryz.f126.name, by decide, Tryz.func126.trans (congrArg some (by kernel_rfl))⟩
  f23 := ⟨Tryz.f127.name, by decide, Tryz.func127.trans (congrArg some (by kernel_rfl))⟩
  f24 := ⟨Tryz.f128.name, by decide, Tryz.func128.trans (congrArg some (by kernel_rfl))⟩
  f25 := ⟨Tryz.f129.name, by decide, Tryz.func129.trans (congrArg some (by kernel_rfl))⟩
  f26 := ⟨Tryz.f130.name, by decide, Tryz.func130.trans (congrArg some (by kernel_rfl))⟩
  f27 := ⟨Tryz.f131.name, by decide, Tryz.func131.trans (congrArg some (by kernel_rfl))⟩
  f28 := Tryz.func132.trans (congrArg some (by kernel_rfl))
  f29 := Tryz.func133.trans (congrArg some (by kernel_rfl))
  f46 := ⟨Tryz.f138.name, by decide, Tryz.func138.trans (congrArg some (by kernel_rfl))⟩
  f47 := Tryz.func139.trans (congrArg some (by kernel_rfl))
  f48 := Tryz.func140.trans (congrArg some (by kernel_rfl))
  f49 := ⟨Tryz.f141.name, by decide, Tryz.func141.trans (congrArg some (by kernel_rfl))⟩
  f50 := ⟨Tryz.f142.name, by decide, Tryz.func142.trans (congrArg some (by kernel_rfl))⟩
  f57 := ⟨Tryz.f144.name, by decide, Tryz.func144.trans (congrArg some (by kernel_rfl))⟩
  t0 := Tryz.underlying0
  a0 := Tryz.isAgg0
  z0 := Tryz.sizeOf0
  v0 := Tryz.zeroValue0
  t3 := Tryz.underlying3
  a3 := Tryz.isAgg3
  z3 := Tryz.sizeOf3
  v3 := Tryz.zeroValue3
  t4 := Tryz.underlying4
  a4 := Tryz.isAgg4
  z4 := Tryz.sizeOf4
  v4 := Tryz.zeroValue4
  t5 := Tryz.underlying5
  a5 := Tryz.isAgg5
  z5 := Tryz.sizeOf5
  v5 := Tryz.zeroValue5
  t9 := Tryz.underlying9
  a9 := Tryz.isAgg9
  z9 := Tryz.sizeOf9
  v9 := Tryz.zeroValue9
  t22 := Tryz.underlying22
  a22 := Tryz.isAgg22
  z22 := Tryz.sizeOf22
  v22 := Tryz.zeroValue22
  t25 := Tryz.underlying48
  a25 := Tryz.isAgg48
  z25 := Tryz.sizeOf48
  v25 := Tryz.zeroValue48
  t39 := Tryz.underlying69
  a39 := Tryz.isAgg69
  z39 := Tryz.sizeOf69
  v39 := Tryz.zeroValue69
  t45 := Tryz.underlying127
  a45 := Tryz.isAgg127
  z45 := Tryz.sizeOf127
  v45 := Tryz.zeroValue127
  t46 := Tryz.underlying128
  a46 := Tryz.isAgg128
  z46 := Tryz.sizeOf128
  v46 := Tryz.zeroValue128
  t50 := Tryz.underlying132
  a50 := Tryz.isAgg132
  z50 := Tryz.sizeOf132
  v50 := Tryz.zeroValue132
  t53 := Tryz.underlying135
  a53 := Tryz.isAgg135
  z53 := Tryz.sizeOf135
  v53 := Tryz.zeroValue135
  t55 := Tryz.underlying65
  a55 := Tryz.isAgg65
  z55 := Tryz.sizeOf65
  v55 := Tryz.zeroValue65
  t66 := Tryz.underlying139
  a66 := Tryz.isAgg139
  z66 := Tryz.sizeOf139
  v66 := Tryz.zeroValue139
  t70 := Tryz.underlying143
  a70 := Tryz.isAgg143
  z70 := Tryz.sizeOf143
  v70 := Tryz.zeroValue143
  t76 := Tryz.underlying145
  a76 := Tryz.isAgg145
  z76 := Tryz.sizeOf145
  v76 := Tryz.zeroValue145
  t77 := Tryz.underlying146
  a77 := Tryz.isAgg146
  z77 := Tryz.sizeOf146
  v77 := Tryz.zeroValue146 }
end Go.Proofs

/- maps.Values at this seat's program: the iterator gives each value once. -/
namespace Go.Proofs
open Go.RowKit Go.Maps Go.Sort Go.Shelf
set_option maxRecDepth 100000
set_option maxHeartbeats 2000000
/-- What a step of the iterator leaves as it is, and what it draws. -/
def I.AbidesD {β : Type} (B : Nat) (J : β → World → Prop) : Prop :=
  ∀ s W W' row, J s W → W.grownBy W' row → W.drawn ≤ W'.drawn → (∀ r, row = some r → B ≤ r ∧ ∃ o : Obj, W.heap[r]? = some o ∧ o.isWalk = true) → J s W'
/-- A set: its size, its words' slice. -/
abbrev I.SetV : Type := Int × Option Addr × Nat × Nat
abbrev I.enc (p : I.SetV) : Value := .agg #[.int .i64 p.1, .slice p.2.1 p.2.2.1 p.2.2.2]
abbrev I.encC (p : I.SetV) : List Value := [.int .i64 p.1, .slice p.2.1 p.2.2.1 p.2.2.2]
structure I.Rg (W : World) (b r : Nat) (es : Array MapEntry) (clock : Nat) (seen : Array Nat) : Prop where
  map : W.heap[b]? = some (.map es clock)
  it : W.heap[r]? = some (.mapIter (some b) clock seen clock)
theorem I.Rg.of_walks {W W' : World} {b r : Nat} {es : Array MapEntry} {clock : Nat} {seen : Array Nat} (h : I.Rg W b r es clock seen) (hk : KeepsWalks W W') : I.Rg W' b r es clock seen :=
  ⟨hk.same b _ h.map rfl, hk.same r _ h.it rfl⟩
theorem I.Rg.left {W : World} {b r : Nat} {es : Array MapEntry} {clock : Nat} {seen : Array Nat} (h : I.Rg W b r es clock seen) : W.rangeLeft b r = (leftOf es seen).size := by
  simp only [World.rangeLeft, h.map, h.it]
section
variable {F : Fence} {n : Nat} {P : Program} (w : World) {ops : Array Oper} {rest : List Oper} {o : Oper} {a : Act} {Q : Exit → Act → World → Prop}
theorem I.wp_range (hg : o.guard = none) (m : Operand) (t : TypeId) (hop : o.op = Op.range t m) (k e : TypeId) (ht : P.underlying t = some (.map k e)) (b : Nat) (es : Array MapEntry) (clock : Nat)
    (hm : a.eval m = .map (some b)) (hmap : w.heap[b]? = some (.map es clock))
    (hK : ∀ w', I.Rg w' b w.heap.size es clock #[] → w.grownBy w' none → w.drawn ≤ w'.drawn → w'.heap.size = w.heap.size + 1 → wpListIn F n P ops Q rest (a.put o.dst (.pointer (some ⟨w.heap.size, 0, none⟩))) w') :
    wpListIn F n P ops Q (o :: rest) a w := by
  refine wpListIn_plain hg fun K' hK' => ?_
  have hrun := run_range_map (P := P) w t k e b es clock ht hmap
  have hlt : b < w.heap.size := (Array.getElem?_eq_some_iff.1 hmap).1
  unfold Oper.wpIn
  refine ⟨?_, ?_⟩
  · simp [Oper.about, hop]
  · rw [Oper.semAt_plain F _ _ (by rw [hop]; intro c hc'; cases hc')]
    simp [execOp, hop, hm, hrun, Result.andThen]
    exact hK' _ _ (hK _ ⟨(Below.heap_alloc w _ b hlt).trans hmap, heap_alloc_new w _⟩ (World.grownBy_alloc w _ none) (Nat.le_refl _) (by simp))
theorem I.wp_next (hg : o.guard = none) (it : Operand) (hop : o.op = Op.next it false) (b r : Nat) (es : Array MapEntry) (clock : Nat) (seen : Array Nat) (hst : AM.StampOk es.toList clock)
    (hit : a.eval it = .pointer (some ⟨r, 0, none⟩)) (h : I.Rg w b r es clock seen)
    (hDone : (leftOf es seen).size = 0 → wpListIn F n P ops Q rest (a.put o.dst (.tuple #[.bool false])) w)
    (hMore : ∀ e ∈ (leftOf es seen).toList, ∀ w', I.Rg w' b r es clock (seen.push e.born) → w.grownBy w' (some r) → w.drawn ≤ w'.drawn → w'.heap.size = w.heap.size → (Instr.entry (.pointer (some ⟨r, 0, none⟩))).run P w' = .ok (.tuple #[e.key, e.val]) w' →
      wpListIn F n P ops Q rest (a.put o.dst (.tuple #[.bool true, e.key, e.val])) w') :
    wpListIn F n P ops Q (o :: rest) a w := by
  refine wpListIn_plain hg fun K' hK' => ?_
  unfold Oper.wpIn
  refine ⟨by simp [Oper.about, hop], ?_⟩
  rw [Oper.semAt_plain F _ _ (by rw [hop]; intro c hc'; cases hc')]
  rcases run_next_at (P := P) w o.type r b clock clock seen es clock h.it h.map hst.2 (Nat.le_refl _) with ⟨h0, hrun⟩ | ⟨e, he, w1, hw1, hrun⟩
  · simp [execOp, hop, hit, hrun, Result.andThen]
    exact hK' _ _ (hDone h0)
  · simp [execOp, hop, hit, hrun, Result.andThen]
    have hne : r ≠ b := fun e => by have := h.it; rw [e, h.map] at this; cases this
    have hr1 : w1.heap[r]? = some (.mapIter (some b) clock seen clock) := by rcases hw1 with rfl | rfl <;> exact h.it
    have hb1 : w1.heap[b]? = some (.map es clock) := by rcases hw1 with rfl | rfl <;> exact h.map
    have hset := MapKept.heap_set (o' := .mapIter (some b) clock (seen.push e.born) clock) hr1
    have hRg : I.Rg (ChangeMaps.setBlock w1 r (.mapIter (some b) clock (seen.push e.born) clock)) b r es clock (seen.push e.born) := ⟨(hset.2 b (fun e1 => hne e1.symm)).trans hb1, hset.1⟩
    refine hK' _ _ (hMore e he _ hRg ?_ ?_ ?_ (run_entry_at _ r b clock seen es clock e hRg.it hRg.map (mem_left he).1 ?_))
    · rcases hw1 with rfl | rfl <;> exact ⟨rfl, rfl, rfl, by simp [ChangeMaps.setBlock], fun i _ hi => hset.2 i (fun e1 => hi (by rw [e1]))⟩
    · rcases hw1 with rfl | rfl
      · exact Nat.le_refl _
      · exact Nat.le_succ _
    · rcases hw1 with rfl | rfl <;> simp [ChangeMaps.setBlock]
    · exact hst.1.imp (fun h => Nat.ne_of_lt h)
end
theorem I.left_perm {es : Array MapEntry} {clock : Nat} {seen : Array Nat} {e : MapEntry} (hst : AM.StampOk es.toList clock) (he : e ∈ (leftOf es seen).toList) : (leftOf es seen).toList.Perm (e :: (leftOf es (seen.push e.born)).toList) := by
  have hnd : (es.toList.map (·.born)).Nodup := hst.1.imp (fun h => Nat.ne_of_lt h)
  have h1 : ∀ s : Array Nat, (leftOf es s).toList = es.toList.filter fun e => !s.contains e.born := fun s => by simp [leftOf]
  rw [h1, h1]
  have he' := mem_left he
  clear h1 he hst
  revert hnd
  have hm := he'.1
  have hs := he'.2
  clear he'
  generalize es.toList = l at hm
  intro hnd
  induction l with
  | nil => cases hm
  | cons x l ih =>
    simp only [List.map_cons, List.nodup_cons] at hnd
    have hc : ∀ y : MapEntry, (seen.push e.born).contains y.born = (seen.contains y.born || y.born == e.born) := fun y => contains_push seen e.born y.born
    rcases List.mem_cons.1 hm with rfl | hm
    · rw [List.filter_cons, if_pos (by rw [hs]; rfl), List.filter_cons, if_neg (by simp [hc])]
      refine List.Perm.cons _ (List.Perm.of_eq (List.filter_congr fun y hy => ?_))
      have : y.born ≠ e.born := fun h => hnd.1 (List.mem_map.2 ⟨y, hy, h⟩)
      simp [hc, this]
    · have hxe : x.born ≠ e.born := fun h => hnd.1 (List.mem_map.2 ⟨e, hm, h.symm⟩)
      have := ih hm hnd.2
      simp only [hc] at this
      simp only [List.filter_cons, hc]
      rw [show (x.born == e.born) = false by simp [hxe], Bool.or_false]
      split
      · exact (List.Perm.cons x this).trans (List.Perm.swap ..)
      · exact this
end Go.Proofs

/- maps.Values' iterator and slices.AppendSeq over it. -/
namespace Go.Proofs
open Go.RowKit Go.Maps Go.Sort Go.Shelf
set_option maxRecDepth 100000
set_option maxHeartbeats 2000000
theorem I.values_in (F : Fence) (n : Nat) (h107 : F.fn 107) (hro : F.round = none) (hn : 1 ≤ n) (l Bm om b : Nat) (es : Array MapEntry) (clock : Nat) (hst : AM.StampOk es.toList clock)
    (hval : ∀ e ∈ es.toList, ∃ p, e.val = I.enc p) (J : List (I.SetV) → World → Prop)
    (hY : ∀ pre x W, J pre W → pre.length < es.size → YieldAt F (n - 1) Tryz.prog l #[I.enc x] W fun e W' => e = .returned (.bool true) ∧ J (pre ++ [x]) W' ∧ KeepsWalks W W')
    (W : World) (hJ : I.AbidesD W.heap.size J) (hm : W.cell? ⟨Bm, om, none⟩ = some (.map (some b))) (hmap : W.heap[b]? = some (.map es clock)) (h0 : J [] W) :
    CallsIn F n Tryz.prog 107 #[.func (.yield l) #[] #[], .pointer (some ⟨Bm, om, none⟩)] W fun e W' => (∃ v, e = .returned v) ∧ ∃ ps, (ps.map I.enc).Perm (es.toList.map (·.val)) ∧ J ps W' := by
  refine callsIn_of_wp Tryz.func107 rfl h107 ?_ hro
  simp only [Tryz.ntmps107, List.size_toArray, List.length_cons, List.length_nil, Nat.reduceAdd, Nat.reduceSub, Array.replicate_succ, Array.replicate_zero, List.push_toArray, List.append_toArray, List.nil_append, List.cons_append]
  have hu : Tryz.prog.underlying 83 = some (.map 9 27) := by kernel_rfl
  gi_wp2_with (first
    | (gi_at_range; refine I.wp_range _ rfl _ 83 rfl 9 27 hu b es clock rfl hmap ?_; intro w0 hrg0 hg0 hd0 hs0)
    | gi_in)
  go_frame
  gi_loopw [4] (fun _ wr => ∃ (seen : Array Nat) (ps : List (I.SetV)), I.Rg wr b W.heap.size es clock seen ∧ (ps.map I.enc ++ (leftOf es seen).toList.map (·.val)).Perm (es.toList.map (·.val)) ∧ J ps wr)
    (fun _ wr => wr.rangeLeft b W.heap.size)
  case atStart =>
    exact ⟨#[], [], hrg0, by rw [show leftOf es #[] = es from Array.filter_eq_self.2 (fun x _ => by simp)]; exact List.Perm.refl _, hJ [] W w0 none h0 hg0 hd0 (fun r e => by cases e)⟩
  case round =>
    obtain ⟨seen, ps, hrg, hperm, hJs⟩ := hrel
    gi_wp2_with (first
      | (gi_at_next; refine I.wp_next _ rfl _ rfl b W.heap.size es clock seen hst rfl hrg ?_ ?_)
      | gi_in)
    · intro hl0
      gi_wp2
      go_end0
      refine ⟨⟨_, rfl⟩, ps, ?_, hJs⟩
      rw [show (leftOf es seen).toList = [] from List.eq_nil_of_length_eq_zero (by simpa using hl0)] at hperm
      simpa using hperm
    · intro e he0 w2 hrg2 hg2 hd2 hs2 hen
      have he : e ∈ (leftOf es seen).toList := by first | exact he0 | exact Array.mem_toList_iff.2 he0
      clear he0
      obtain ⟨p, hp⟩ := hval e (mem_left he).1
      rw [hp] at hen ⊢
      have hJ2 : J ps w2 := hJ ps wr w2 (some W.heap.size) hJs hg2 hd2 (fun r e => by cases e; exact ⟨Nat.le_refl _, _, hrg.it, rfl⟩)
      have hlp := I.left_perm hst he
      have hlen : ps.length < es.size := by
        have := hperm.length_eq
        have h2 := hlp.length_eq
        simp only [List.length_append, List.length_map, List.length_cons, Array.length_toList] at this h2
        omega
      have hJ3 : J ps (w2.alloc (.cells #[.int .i64 p.1, .slice p.2.1 p.2.2.1 p.2.2.2] 27)) := hJ ps w2 _ none hJ2 (World.grownBy_alloc w2 _ none) (Nat.le_refl _) (fun r e => by cases e)
      have hrg3 := hrg2.of_walks (KeepsWalks.alloc w2 (.cells #[.int .i64 p.1, .slice p.2.1 p.2.2.1 p.2.2.2] 27))
      obtain ⟨fn, tmps, assign, body, hy, hR⟩ := hY ps p _ hJ3 hlen
      dsimp only [I.enc] at hy hen
      clear hs2
      gi_wp2
      refine hR.mono ?_
      rintro e' W3 ⟨rfl, hJ4, hk4⟩
      gi_wp2
      have hrg4 := hrg3.of_walks hk4
      go_roundw
      case rel =>
        refine ⟨seen.push e.born, ps ++ [p], hrg4, ?_, hJ4⟩
        refine List.Perm.trans ?_ hperm
        have h1 := hlp.map (·.val)
        rw [List.map_cons, hp] at h1
        rw [List.map_append, List.append_assoc]
        exact List.Perm.append_left _ h1.symm
      case measure =>
        rw [hrg4.left, hrg.left]
        have := hlp.length_eq
        simp only [List.length_cons, Array.length_toList] at this
        omega
end Go.Proofs

/- slices.AppendSeq over an iterator of sets. -/
namespace Go.Proofs
open Go.RowKit Go.Maps Go.Sort Go.Shelf
set_option maxRecDepth 100000
set_option maxHeartbeats 4000000
theorem I.wp_append_own {F : Fence} {n : Nat} {P : Program} (w : World) {ops : Array Oper} {rest : List Oper} {o : Oper} {a : Act} {Q : Exit → Act → World → Prop}
    (hg : o.guard = none) (s x : Operand) (t : TypeId) (hop : o.op = Op.call { callee := Callee.builtin Builtin.append, args := #[s, x], argTypes := #[t, t] })
    (base : Nat) (e : TypeId) (i : TypeInfo) (z : Value) (size bytes : Nat) (h1 : P.underlying t = some (.slice e)) (h2 : P.info? e = some i) (h3 : i.zero = some z) (h4 : i.size = size) (h5 : i.bytes = bytes) (h6 : z.cells.size = size) (h7 : 0 < size)
    (v : Value) (k : Nat) (xs : List Value) (hs : a.eval s = v) (hown : w.ownsRow base e size v k xs) (ad : Addr) (m c : Nat) (news : List Value) (hx : a.eval x = .slice (some ad) m c) (hn : news.length = m * size)
    (hc : ∀ j u, news[j]? = some u → w.cell? (ad.add j) = some u) (h1c : ∀ u ∈ news, u.oneCell' = true) (b1 : k + m ≤ maxLen) (b2 : (k + m) * bytes ≤ 140737488355328) (b3 : base ≤ w.heap.size)
    (hK : ∀ v' w', w'.ownsRow base e size v' (k + m) (xs ++ news) → w.grownBy w' v.ownBlock → (v' = .slice none 0 0 ↔ v = .slice none 0 0 ∧ m = 0) → w.drawn ≤ w'.drawn → wpListIn F n P ops Q rest (a.put o.dst v') w') :
    wpListIn F n P ops Q (o :: rest) a w := by
  refine wpListIn_plain hg fun K hK' => ?_
  obtain ⟨v', w', hrun, r1, r2, r3⟩ := run_append_own (P := P) w base t o.type e i z size bytes h1 h2 h3 h4 h5 h6 h7 v k xs hown ad m c news hn hc h1c b1 b2 b3
  unfold Oper.wpIn
  refine ⟨?_, ?_⟩
  · simp [Oper.about, hop, resolve, Target.leads, Sem.run_pure]
  · rw [Oper.semAt_plain F _ _ (by rw [hop]; intro c hc'; cases hc')]
    simp [execOp, hop, resolve, invoke, builtin, hs, hx, hrun, Result.andThen]
    exact hK' _ _ (hK v' w' r1 r2 r3 (AM.run_drawn _ hrun))
def I.apAssign : Code := (Go.Code.region 2 #[(Go.Oper.mk (Option.some 5) (Go.Op.alloc 27) 0 "iter.go:51" #[] Option.none), (Go.Oper.mk Option.none (Go.Op.store 27 (Go.Operand.tmp 5) (Go.Operand.tmp 7)) 0 "iter.go:51" #[(Go.Edge.mk 0 Go.Ground.data), (Go.Edge.mk 0 Go.Ground.phase)] Option.none)] Bool.false)
def I.apBody : Code := (Go.Code.block 1 (Go.Code.region 3 #[(Go.Oper.mk (Option.some 8) (Go.Op.load 22 (Go.Operand.tmp 2)) 22 "iter.go:52" #[] Option.none), (Go.Oper.mk (Option.some 9) (Go.Op.load 27 (Go.Operand.tmp 5)) 27 "iter.go:52" #[] Option.none), (Go.Oper.mk (Option.some 10) (Go.Op.buildSlice 22 1 #[(Prod.mk 0 (Go.Operand.tmp 9))]) 22 "iter.go:52" #[(Go.Edge.mk 1 Go.Ground.data)] Option.none), (Go.Oper.mk (Option.some 11) (Go.Op.call (Go.Call.mk (Go.Callee.builtin Go.Builtin.append) #[(Go.Operand.tmp 8), (Go.Operand.tmp 10)] #[22, 22])) 22 "iter.go:52" #[(Go.Edge.mk 0 Go.Ground.data), (Go.Edge.mk 2 Go.Ground.data)] Option.none), (Go.Oper.mk Option.none (Go.Op.store 22 (Go.Operand.tmp 2) (Go.Operand.tmp 11)) 0 "iter.go:52" #[(Go.Edge.mk 3 Go.Ground.data), (Go.Edge.mk 3 Go.Ground.chain), (Go.Edge.mk 0 Go.Ground.phase), (Go.Edge.mk 1 Go.Ground.phase), (Go.Edge.mk 2 Go.Ground.phase), (Go.Edge.mk 3 Go.Ground.phase)] Option.none)] Bool.false))

def I.apRec (fn : FuncId) (sv : Value) (Bs D : Nat) (st : LoopState) (pend : Option Code) : Loop :=
  { state := st, pending := pend, fn, tmps := #[.slice none 0 0, sv, .pointer (some ⟨Bs, 0, none⟩), undef, .slice none 0 0, undef, sv, undef, undef, undef, undef, undef, undef], params := #[7], assign := I.apAssign, body := I.apBody, defers := D }
abbrev I.cells (ss : List I.SetV) : List Value := (ss.map I.encC).flatten
theorem I.cells_len : ∀ ss : List I.SetV, (I.cells ss).length = ss.length * 2
  | [] => rfl
  | x :: ss => by
    have := I.cells_len ss
    simp only [I.cells, List.map_cons, List.flatten_cons, List.length_append, List.length_cons, List.length_nil] at *
    omega
structure I.ApAt (w0 : World) (fn : FuncId) (sv : Value) (Bs l D : Nat) (ss : List I.SetV) (W : World) : Prop where
  box : ∃ v, W.heap[Bs]? = some (.cells #[v] 22 (0, 0)) ∧ W.ownsRow w0.heap.size 27 2 v ss.length (I.cells ss) ∧ (v = .slice none 0 0 ↔ ss = [])
  L : W.heap[l]? = some (.loop (I.apRec fn sv Bs D .ready none))
  K : W.heap[D]? = some (.deferred (some []))
  below : Below w0.heap.size w0 W
  drawn : w0.drawn ≤ W.drawn
theorem I.ap_abides (w0 : World) (fn : FuncId) (sv : Value) (Bs l D B : Nat) (hB : w0.heap.size ≤ B) : I.AbidesD B (I.ApAt w0 fn sv Bs l D) := fun s W W' row h hg hd hrow => by
  have hrow' : ∀ r, row = some r → ∃ o : Obj, W.heap[r]? = some o ∧ o.isWalk = true := fun r e => (hrow r e).2
  obtain ⟨v, hv, hr, hn⟩ := h.box
  exact ⟨⟨v, (grownBy_keeps hg hrow' hv rfl).trans hv, ownsRow_abides_a hr hg hrow', hn⟩, (grownBy_keeps hg hrow' h.L rfl).trans h.L, (grownBy_keeps hg hrow' h.K rfl).trans h.K,
    h.below.grown hg h.below.size (fun k e => Nat.le_trans hB (hrow k e).1), Nat.le_trans h.drawn hd⟩
theorem I.cell_two_new (W : World) (x y : Value) (T : TypeId) : ∀ j u, [x, y][j]? = some u → (W.alloc (.cells #[x, y] T)).cell? ((⟨W.heap.size, 0, none⟩ : Addr).add j) = some u := fun j u hu => by
  match j, hu with
  | 0, hu => simpa [Addr.add] using hu
  | 1, hu => simpa [Addr.add] using hu
theorem I.apYield (F : Fence) (m : Nat) (w0 : World) (fn : FuncId) (hfn : F.fn fn) (sv : Value) (Bs l D : Nat) (hBl : Bs ≠ l) (hDl : D ≠ l) (hDB : D ≠ Bs) (h0B : w0.heap.size ≤ Bs) (h0l : w0.heap.size ≤ l)
    (N : Nat) (hN : N ≤ 1000000) (ss : List I.SetV) (x : I.SetV) (W : World) (h : I.ApAt w0 fn sv Bs l D ss W) (hlen : ss.length < N) :
    YieldAt F m Tryz.prog l #[I.enc x] W fun e W' => e = .returned (.bool true) ∧ I.ApAt w0 fn sv Bs l D (ss ++ [x]) W' ∧ KeepsWalks W W' := by
  have hne : (22 : TypeId) ≠ 27 := by decide
  have hu22 : Tryz.prog.underlying 22 = some (.slice 27) := by kernel_rfl
  have hib : (Tryz.prog.info? 27).map (fun i => (i.zero, i.size, i.bytes)) = some (some (.agg #[.int .i64 0, .slice none 0 0]), 2, 32) := by kernel_rfl
  obtain ⟨i0, hi, hz0, hz1, hz2⟩ := info_parts hib
  obtain ⟨v, hv, hrow, _⟩ := h.box
  refine ⟨fn, #[.slice none 0 0, sv, .pointer (some ⟨Bs, 0, none⟩), undef, .slice none 0 0, undef, sv, I.enc x, undef, undef, undef, undef, undef], I.apAssign, I.apBody, by simpa [I.apRec] using run_yield (P := Tryz.prog) (args := #[I.enc x]) h.L rfl, roundIn_of_wpIn hfn ?_⟩
  have hl0 : l < W.heap.size := (Array.getElem?_eq_some_iff.1 h.L).1
  have hBs0 : Bs < W.heap.size := (Array.getElem?_eq_some_iff.1 hv).1
  have hD0 : D < W.heap.size := (Array.getElem?_eq_some_iff.1 h.K).1
  obtain ⟨va, hva⟩ : ∃ va, W.heap.size = va := ⟨_, rfl⟩
  obtain ⟨Wa, hWa⟩ : ∃ Wa, W.alloc (.cells #[.int .i64 x.1, .slice x.2.1 x.2.2.1 x.2.2.2] 27) = Wa := ⟨_, rfl⟩
  have hga : W.grownBy Wa none := by rw [← hWa]; exact World.grownBy_alloc W _ none
  have hda : W.drawn ≤ Wa.drawn := by rw [← hWa]; exact Nat.le_refl _
  have hka : KeepsWalks W Wa := by rw [← hWa]; exact KeepsWalks.alloc _ _
  have hsa : Wa.heap.size = va + 1 := by rw [← hWa, ← hva]; simp
  have hxa : Wa.heap[va]? = some (.cells #[.int .i64 x.1, .slice x.2.1 x.2.2.1 x.2.2.2] 27 (0, 0)) := by rw [← hWa, ← hva]; exact heap_alloc_new W _
  have holda : ∀ k, k < W.heap.size → Wa.heap[k]? = W.heap[k]? := fun k hk => hga.block k hk (by simp)
  have hLa : Wa.heap[l]? = some (.loop (I.apRec fn sv Bs D .ready none)) := (holda l hl0).trans h.L
  have hrowa : Wa.ownsRow w0.heap.size 27 2 v ss.length (I.cells ss) := by rw [← hWa]; exact hrow.alloc _
  have hba : Below w0.heap.size w0 Wa := by rw [← hWa]; exact h.below.alloc h.below.size _
  have hvne : v.ownBlock ≠ some va := fun e => by
    have := hrow.lt va e
    omega
  have hl : l < Wa.heap.size := by omega
  have hbr := run_beginRound (P := Tryz.prog) hLa rfl
  obtain ⟨W2, hW2⟩ : ∃ W2, Wa.putObj l (.loop { I.apRec fn sv Bs D .ready none with state := .busy }) = W2 := ⟨_, rfl⟩
  rw [hW2] at hbr
  have hg2 : Wa.grownBy W2 (some l) := by rw [← hW2]; exact grownBy_putObj_a _ _ _
  have hd2 : Wa.drawn ≤ W2.drawn := by rw [← hW2]; exact Nat.le_refl _
  have hk2 : KeepsWalks Wa W2 := by rw [← hW2]; exact KeepsWalks.putObj _ hLa rfl
  have hv2 : W2.heap[Bs]? = some (.cells #[v] 22 (0, 0)) := by rw [← hW2]; exact (World.putObj_heap_other hBl).trans ((holda _ hBs0).trans hv)
  have hK2 : W2.heap[D]? = some (.deferred (some [])) := by rw [← hW2]; exact (World.putObj_heap_other hDl).trans ((holda _ hD0).trans h.K)
  have hL2 : W2.heap[l]? = some (.loop { I.apRec fn sv Bs D .ready none with state := .busy }) := by rw [← hW2]; exact World.putObj_heap_same hl
  have hx2 : W2.heap[va]? = some (.cells #[.int .i64 x.1, .slice x.2.1 x.2.2.1 x.2.2.2] 27 (0, 0)) := by rw [← hW2]; exact (World.putObj_heap_other (by omega)).trans hxa
  have hrow2 : W2.ownsRow w0.heap.size 27 2 v ss.length (I.cells ss) := hrowa.kept hg2 (ownsRow_ne_a hrowa hLa (fun cur e => by first | cases e | exact hne (Obj.cells.inj e).2.1))
  have hb2 : Below w0.heap.size w0 W2 := hba.grown hg2 hba.size (fun k e => by cases e; exact h0l)
  obtain ⟨hc2, hf2⟩ := cell_of_box_a hv2
  have hcx0 : W2.cell? ⟨va, 0, none⟩ = some (.int .i64 x.1) := by simp [World.cell?, hx2]
  have hcx1 : W2.cell? ⟨va, 1, none⟩ = some (.slice x.2.1 x.2.2.1 x.2.2.2) := by simp [World.cell?, hx2]
  have hBlt : Bs < W2.heap.size := (Array.getElem?_eq_some_iff.1 hv2).1
  have hl2 : l < W2.heap.size := (Array.getElem?_eq_some_iff.1 hL2).1
  have hDlt : D < W2.heap.size := (Array.getElem?_eq_some_iff.1 hK2).1
  have ne_of : ∀ {j : Nat} {o : Obj}, W2.heap[j]? = some o → (∀ cur, o ≠ .cells cur 27 (0, 0)) → some j ≠ v.ownBlock := fun hj hno => by
    rcases ownsRow_ne_a hrow2 hj hno with e | e
    · rw [e]; simp
    · exact fun e' => e e'.symm
  clear hW2
  unfold I.apAssign
  gi_wp2_with gi_round_op_a
  unfold I.apBody
  gi_wp2_with (first
    | (gi_at_builtin; refine I.wp_append_own _ rfl _ _ 22 rfl w0.heap.size 27 i0 (.agg #[.int .i64 0, .slice none 0 0]) 2 32 hu22 hi hz0 hz1 hz2 rfl (by decide) _ _ _ rfl (hrow2.alloc _) ⟨W2.heap.size, 0, none⟩ 1 1 (I.encC x) rfl rfl (I.cell_two_new _ _ _ _) (by simp [Value.oneCell']) (by unfold maxLen; omega) (by omega) (by have := hb2.size; simp; omega) ?_; intro v' w3 hown' hg3 hnil3 hd3
       have hv3 : w3.heap[Bs]? = some (.cells #[v] 22 (0, 0)) := (hg3.block Bs (by simp; omega) (ne_of hv2 (fun cur e => by first | cases e | exact hne (Obj.cells.inj e).2.1))).trans ((Below.heap_alloc _ _ Bs hBlt).trans hv2)
       obtain ⟨hc3, hf3⟩ := cell_of_box_a hv3
       obtain ⟨g', cap', cur', rfl, hbase', hgb', hr1, hr2, hr3, hr4⟩ : ∃ g' cap' cur', v' = .slice (some ⟨g', 0, none⟩) (ss.length + 1) cap' ∧ w0.heap.size ≤ g' ∧ w3.heap[g']? = some (.cells cur' 27 (0, 0)) ∧ ss.length + 1 ≤ cap' ∧ cap' ≤ maxLen ∧ cur'.size = cap' * 2 ∧ cur'.toList.take ((ss.length + 1) * 2) = I.cells ss ++ I.encC x := by
         rcases hown'.2 with ⟨_, h0⟩ | h'
         · exact absurd h0 (by omega)
         · exact h'
       go_frame)
    | gi_round_op_a)
  have hg3' : (W2.alloc (.cells #[.int .i64 x.1, .slice x.2.1 x.2.2.1 x.2.2.2] 27)).grownBy w3 v.ownBlock := hg3
  have hd3' : W2.drawn ≤ w3.drawn := hd3
  have hL3 : w3.heap[l]? = some (.loop { I.apRec fn sv Bs D .ready none with state := .busy }) := (hg3'.block l (by simp; omega) (ne_of hL2 (fun cur e => by first | cases e | exact hne (Obj.cells.inj e).2.1))).trans ((Below.heap_alloc _ _ l hl2).trans hL2)
  have hK3 : w3.heap[D]? = some (.deferred (some [])) := (hg3'.block D (by simp; omega) (ne_of hK2 (fun cur e => by first | cases e | exact hne (Obj.cells.inj e).2.1))).trans ((Below.heap_alloc _ _ D hDlt).trans hK2)
  have hd4 : w3.drawn ≤ (w3.setCell ⟨Bs, 0, none⟩ (.slice (some ⟨g', 0, none⟩) (ss.length + 1) cap')).drawn := Nat.le_refl _
  obtain ⟨w4, hw4⟩ : ∃ w4, w3.setCell ⟨Bs, 0, none⟩ (.slice (some ⟨g', 0, none⟩) (ss.length + 1) cap') = w4 := ⟨_, rfl⟩
  rw [hw4] at hd4 ⊢
  have hg4 : w3.grownBy w4 (some Bs) := by rw [← hw4]; exact grownBy_setCell0_a _ _ _
  have hv4 : w4.heap[Bs]? = some (.cells #[.slice (some ⟨g', 0, none⟩) (ss.length + 1) cap'] 22 (0, 0)) := by rw [← hw4]; exact heap_setCell_box_a _ hv3
  have hL4 : w4.heap[l]? = some (.loop { I.apRec fn sv Bs D .ready none with state := .busy }) := (hg4.block l (Array.getElem?_eq_some_iff.1 hL3).1 (fun e => hBl (by cases e; rfl))).trans hL3
  have hK4 : w4.heap[D]? = some (.deferred (some [])) := (hg4.block D (Array.getElem?_eq_some_iff.1 hK3).1 (fun e => hDB (by cases e; rfl))).trans hK3
  have hrow4 := hown'.kept hg4 (ownsRow_ne_a hown' hv3 (fun cur e => by first | cases e | exact hne (Obj.cells.inj e).2.1))
  have hl4 : l < w4.heap.size := (Array.getElem?_eq_some_iff.1 hL4).1
  have hb3 : Below w0.heap.size w0 w3 := (hb2.alloc hb2.size _).grown hg3' (by have := hb2.size; simp; omega) (fun k e => (hrow2.lt k e).1)
  have hb4 : Below w0.heap.size w0 w4 := hb3.grown hg4 hb3.size (fun k e => by cases e; exact h0B)
  have hk4 : KeepsWalks W w4 := (((hka.trans hk2).trans (KeepsWalks.alloc _ _)).trans (KeepsWalks.of_grownBy hg3' (ownsRow_not_walk_a (hrow2.alloc _)))).trans (by rw [← hw4]; exact KeepsWalks.setCell _ _ _)
  have hcc : I.cells ss ++ I.encC x = I.cells (ss ++ [x]) := by simp [I.cells]
  clear hw4
  refine ⟨_, _, run_endRound none hL4, rfl, ⟨⟨_, (World.putObj_heap_other hBl).trans hv4, ?_, by simp⟩, World.putObj_heap_same hl4, (World.putObj_heap_other hDl).trans hK4, hb4.grown (grownBy_putObj_a _ _ _) hb4.size (fun k e => by cases e; exact h0l), ?_⟩, hk4.trans (KeepsWalks.putObj _ hL4 rfl)⟩
  · have := hrow4.kept (grownBy_putObj_a w4 l (.loop { { I.apRec fn sv Bs D .ready none with state := .busy } with state := if (none : Option Code).isNone then .ready else .done, pending := none })) (ownsRow_ne_a hrow4 hL4 (fun cur e => by first | cases e | exact hne (Obj.cells.inj e).2.1))
    rw [hcc] at this
    simpa using this
  · show w0.drawn ≤ w4.drawn
    have := h.drawn
    omega
def I.SeqD (F : Fence) (n : Nat) (g : Nat) (lb : Array Value) (S : List I.SetV → Prop) (N : Nat) (w : World) : Prop :=
  ∀ (l : Nat) (J : List I.SetV → World → Prop) (W : World), Below w.heap.size w W → I.AbidesD W.heap.size J →
    (∀ pre x W1, J pre W1 → pre.length < N → YieldAt F (n - 1) Tryz.prog l #[I.enc x] W1 fun e W' => e = .returned (.bool true) ∧ J (pre ++ [x]) W' ∧ KeepsWalks W1 W') →
    J [] W →
    CallsIn F n Tryz.prog g (#[.func (.yield l) #[] #[]] ++ lb) W fun e W' => (∃ v, e = .returned v) ∧ ∃ xs, S xs ∧ J xs W'
theorem I.appendSeq_in (F : Fence) (n : Nat) (h11 : F.fn 116) (hro : F.round = none) (hn : 2 ≤ n) (g : Nat) (lb : Array Value) (hFg : F.fn g) (eg : ∀ args w, (callFunc g args).run Tryz.prog w = .ok (.enter g args) w)
    (S : List I.SetV → Prop) (N : Nat) (hN : N ≤ 1000000) (w : World) (hseq : I.SeqD F (n - 1) g lb S N w) :
    CallsIn F n Tryz.prog 116 #[.slice none 0 0, .func (.func g) #[] lb] w fun e w' => ∃ (v : Value) (ss : List I.SetV), e = .returned v ∧ S ss ∧ w'.ownsRow w.heap.size 27 2 v ss.length (I.cells ss) ∧ (v = .slice none 0 0 ↔ ss = []) ∧ Below w.heap.size w w' ∧ w.drawn ≤ w'.drawn := by
  have h1 : 1 ≤ n := by omega
  have hne : (22 : TypeId) ≠ 27 := by decide
  refine callsIn_of_wp_marks Tryz.func116 rfl h11 ?_ hro
  simp only [Tryz.ntmps116, List.size_toArray, List.length_cons, List.length_nil, Nat.reduceAdd, Nat.reduceSub, Array.replicate_succ, Array.replicate_zero, List.push_toArray, List.append_toArray, List.nil_append, List.cons_append]
  gi_wp2
  refine wpIn_rangeFunc ?_
  intro fn hfn
  rw [hro]
  obtain ⟨W0, hW0⟩ : ∃ W0, w.alloc (.cells #[.slice none 0 0] 22) = W0 := ⟨_, rfl⟩
  have hs0 : W0.heap.size = w.heap.size + 1 := by rw [← hW0]; simp
  have hv0 : W0.heap[w.heap.size]? = some (.cells #[.slice none 0 0] 22 (0, 0)) := by rw [← hW0]; exact World.alloc_heap_new w _
  have hb0 : Below w.heap.size w W0 := by rw [← hW0]; exact (Below.refl _ w).alloc (Nat.le_refl _) _
  have hd0 : w.drawn = W0.drawn := by rw [← hW0]; rfl
  rw [hW0]
  obtain ⟨W1, hW1⟩ : ∃ W1, (W0.alloc (.deferred (some []))).alloc (.loop (I.apRec fn (.func (.func g) #[] lb) w.heap.size W0.heap.size .ready none)) = W1 := ⟨_, rfl⟩
  have hold : ∀ k, k < W0.heap.size → W1.heap[k]? = W0.heap[k]? := fun k hk => by
    rw [← hW1]; exact (Below.heap_alloc _ _ k (by simp; omega)).trans (Below.heap_alloc _ _ k hk)
  have hb1 : Below w.heap.size w W1 := by rw [← hW1]; exact (hb0.alloc hb0.size _).alloc (by have := hb0.size; simp; omega) _
  have hs1 : W1.heap.size = W0.heap.size + 2 := by rw [← hW1]; simp
  have hd1 : W1.drawn = W0.drawn := by rw [← hW1]; rfl
  have hM : I.ApAt w fn (.func (.func g) #[] lb) w.heap.size (W0.heap.size + 1) W0.heap.size [] W1 :=
    ⟨⟨_, (hold w.heap.size (by omega)).trans hv0, ⟨rfl, .inl ⟨rfl, rfl⟩⟩, by simp⟩,
     by rw [← hW1]; have := World.alloc_heap_new (W0.alloc (.deferred (some []))) (.loop (I.apRec fn (.func (.func g) #[] lb) w.heap.size W0.heap.size .ready none)); rwa [World.size_alloc] at this,
     by rw [← hW1]; exact (Below.heap_alloc _ _ _ (by simp)).trans (World.alloc_heap_new W0 _), hb1, by omega⟩
  refine ⟨W0.heap.size + 1, [{ target := .collected W0.heap.size, args := #[] }], W1, { target := .fn (.func g) lb, args := #[.func (.yield (W0.heap.size + 1)) #[] #[]] }, W1, g,
    #[.func (.yield (W0.heap.size + 1)) #[] #[]] ++ lb, W1, ?_, ?_, ?_, ?_, fun _ => h1, ?_⟩
  · rw [← hW1]; exact run_enterLoop_outer _ _ _ _ _
  · simp [resolve, go_sem]
  · intro f' hf'; simp [Target.leads] at hf'; subst hf'; exact hFg
  · simp [invoke, go_sem, eg]
  · refine (hseq (W0.heap.size + 1) (I.ApAt w fn (.func (.func g) #[] lb) w.heap.size (W0.heap.size + 1) W0.heap.size) W1 hb1 (I.ap_abides _ _ _ _ _ _ _ hb1.size)
      (fun pre x W hJ hl => I.apYield F (n - 1 - 1) w fn hfn _ w.heap.size (W0.heap.size + 1) W0.heap.size (by omega) (by omega) (by omega) (Nat.le_refl _) (by omega) N hN pre x W hJ hl) hM).mono ?_
    rintro e W2 ⟨⟨v0, rfl⟩, ss, hS, h2⟩
    obtain ⟨v, hv, hrow, hnil⟩ := h2.box
    have hend := run_endLoop (P := Tryz.prog) h2.L (by simp [I.apRec])
    obtain ⟨W3, hW3⟩ : ∃ W3, W2.putObj (W0.heap.size + 1) (.loop { I.apRec fn (.func (.func g) #[] lb) w.heap.size W0.heap.size .ready none with state := .exhausted }) = W3 := ⟨_, rfl⟩
    rw [hW3] at hend
    have hd3 : W3.drawn = W2.drawn := by rw [← hW3]; rfl
    have hdd := h2.drawn
    have hg3 : W2.grownBy W3 (some (W0.heap.size + 1)) := by rw [← hW3]; exact grownBy_putObj_a _ _ _
    have hv3 : W3.heap[w.heap.size]? = some (.cells #[v] 22 (0, 0)) := by rw [← hW3]; exact (World.putObj_heap_other (by omega)).trans hv
    have hK3 : W3.heap[W0.heap.size]? = some (.deferred (some [])) := by rw [← hW3]; exact (World.putObj_heap_other (by omega)).trans h2.K
    have hrow3 := hrow.kept hg3 (ownsRow_ne_a hrow h2.L (fun cur e => by first | cases e | exact hne (Obj.cells.inj e).2.1))
    have hb3 : Below w.heap.size w W3 := h2.below.grown hg3 h2.below.size (fun k e => by cases e; omega)
    obtain ⟨hc3, hf3⟩ := cell_of_box_a hv3
    have HD3 : Hid (w.drawn ≤ W3.drawn) := by show w.drawn ≤ W3.drawn; omega
    clear hW3 hd3 hdd hd1 hd0
    refine ⟨none, W3, hend, ?_⟩
    gi_wp2
    rw [← hs0]
    refine ⟨by simp, .inl ⟨_, _, rfl, run_takeDeferred hK3, ?_⟩⟩
    exact ⟨_, results_tmp rfl _ _ _, v, ss, rfl, hS, hrow3.kept (grownBy_putObj_a _ _ _) (ownsRow_ne_a hrow3 hK3 (fun cur e => by first | cases e | exact hne (Obj.cells.inj e).2.1)), hnil, hb3.grown (grownBy_putObj_a _ _ _) hb3.size (fun k e => by cases e; omega), HD3.out⟩
end Go.Proofs

/- slices.SortFunc at a list of sets. -/
namespace Go.Proofs
open Go.RowKit Go.Maps Go.Sort Go.Shelf
set_option maxRecDepth 100000
set_option maxHeartbeats 2000000
section
variable {α : Type} [Inhabited α] (enc : α → List Value)
theorem I.flat_get (hk : ∀ x, (enc x).length = 2) : ∀ (l : List α) (t : Nat), t < l.length * 2 → ((l.map enc).flatten)[t]? = (enc (l.getD (t / 2) default))[t % 2]?
  | [], t, h => by simp at h
  | x :: l, t, h => by
    have h2 := hk x
    simp only [List.map_cons, List.flatten_cons]
    by_cases ht : t < 2
    · rw [List.getElem?_append_left (by omega), show t / 2 = 0 by omega, show t % 2 = t by omega, List.getD_cons_zero]
    · rw [List.getElem?_append_right (by omega), h2, I.flat_get hk l (t - 2) (by simp at h; omega), show t / 2 = (t - 2) / 2 + 1 by omega, List.getD_cons_succ, show t % 2 = (t - 2) % 2 by omega]
theorem I.flatK_list (hk : ∀ x, (enc x).length = 2) (l : List α) : (flatK enc 2 l.toArray).toList = (l.map enc).flatten := by
  have hlen : ((l.map enc).flatten).length = l.length * 2 := by
    induction l with
    | nil => rfl
    | cons x l ih => simp only [List.map_cons, List.flatten_cons, List.length_append, List.length_cons, ih, hk]; omega
  refine List.ext_getElem? fun t => ?_
  by_cases ht : t < l.length * 2
  · rw [I.flat_get enc hk l t ht, Array.getElem?_toList]
    have hi : t / 2 < l.length := by omega
    have hj : t % 2 < (enc (l.getD (t / 2) default)).length := by rw [hk]; omega
    simp only [flatK, Array.getElem?_map, List.size_toArray, Array.getElem?_range, if_pos ht, Option.map_some]
    rw [List.getElem?_eq_getElem hj]
    congr 1
    have e : l.toArray[t / 2]! = l.getD (t / 2) default := by simp [List.getD_eq_getElem?_getD, hi]
    rw [e, getElem!_pos (enc (l.getD (t / 2) default)) (t % 2) hj]
  · rw [List.getElem?_eq_none (by rw [Array.length_toList, size_flatK]; simpa using ht), List.getElem?_eq_none (by rw [hlen]; omega)]
theorem I.holdsK (hk : ∀ x, (enc x).length = 2) {w : World} {g : Nat} {cur : Array Value} {e : TypeId} {l : List α} (hb : w.heap[g]? = some (.cells cur e (0, 0))) (ht : cur.toList.take (l.length * 2) = (l.map enc).flatten) : HoldsK enc 2 w g 0 l.toArray := by
  intro j hj
  have hj' : j < l.length * 2 := by simpa using hj
  refine ⟨?_, by simp [World.frozen?, hb]⟩
  have h1 : (cur.toList.take (l.length * 2))[j]? = ((l.map enc).flatten)[j]? := by rw [ht]
  rw [List.getElem?_take_of_lt hj', ← I.flatK_list enc hk, Array.getElem?_toList, Array.getElem?_toList] at h1
  simp only [World.cell?, hb, Nat.zero_add, Option.isSome_none, Bool.false_eq_true, if_false, h1, id]
  rw [Array.getElem?_eq_getElem hj, getElem!_pos (flatK enc 2 l.toArray) j hj]
theorem I.heap_sortK {w : World} {g n : Nat} {os : Array Obj} {cur : Array Value} {e : TypeId} {fr : Nat × Nat} (d : Array α) (hb : w.heap[g]? = some (.cells cur e fr)) :
    (sortWorldK enc 2 w g 0 n d os).heap[g]? = some (.cells (putCells id 0 (flatK enc 2 d) cur) e fr) := by
  have hg : g < w.heap.size := (Array.getElem?_eq_some_iff.1 hb).1
  unfold sortWorldK putRowK
  rw [heap_grow_old _ _ (by simpa using hg)]
  simp [putRow, mapBlock, Sort.ahead, Array.getElem?_modify, hb, onCells]
theorem I.grownBy_sortK {w : World} {g n : Nat} {os : Array Obj} (d : Array α) : w.grownBy (sortWorldK enc 2 w g 0 n d os) (some g) := by
  unfold sortWorldK putRowK
  refine ⟨rfl, rfl, rfl, by simp, fun k hk hne => ?_⟩
  rw [heap_grow_old _ _ (by simpa using hk)]
  have : g ≠ k := fun e => hne (by rw [e])
  simp [putRow, mapBlock, Sort.ahead, Array.getElem?_modify, this]
theorem I.take_putK (hk : ∀ x, (enc x).length = 2) (cur : Array Value) (l : List α) (h : l.length * 2 ≤ cur.size) : (putCells id 0 (flatK enc 2 l.toArray) cur).toList.take (l.length * 2) = (l.map enc).flatten := by
  rw [← I.flatK_list enc hk]
  apply List.ext_getElem?
  intro j
  by_cases hj : j < l.length * 2
  · rw [List.getElem?_take_of_lt hj, Array.getElem?_toList, Array.getElem?_toList]
    simp [putCells, hj, show j < cur.size by omega]
  · rw [List.getElem?_take_eq_none (by omega), List.getElem?_eq_none (by simp; omega)]
end
end Go.Proofs

/- slices.SortFunc at a list of sets: a permutation, in the order of sets. -/
namespace Go.Proofs
open Go.RowKit Go.Maps Go.Sort Go.Shelf
set_option maxRecDepth 100000
set_option maxHeartbeats 2000000
open AM (rowB cmpS RelP immF GL)
abbrev I.El (n : Nat) (w0 : World) (F : Nat → Prop) : Type := {q : I.SetV × List Bool // q.2.length = n ∧ RelP (immF w0 F) w0 (.agg (rowB q.2)) (I.enc q.1)}
theorem I.ext_grow {W w' : World} (h : AM.Ext (fun _ => False) W w') : ∃ q os', w' = grow (W.drewN q) os' := by
  refine ⟨w'.drawn - W.drawn, w'.heap.extract W.heap.size w'.heap.size, ?_⟩
  have e : w'.heap = W.heap ++ w'.heap.extract W.heap.size w'.heap.size := by
    refine Array.ext_getElem? fun i => ?_
    by_cases hi : i < W.heap.size
    · rw [h.block i hi (fun e => e), Array.getElem?_append_left hi]
    · rw [Array.getElem?_append_right (by omega), Array.getElem?_extract]
      have hs := h.size
      by_cases h2 : i < w'.heap.size
      · rw [if_pos (by omega), show W.heap.size + (i - W.heap.size) = i by omega]
      · rw [if_neg (by omega), Array.getElem?_eq_none (by omega)]
  have hd := h.drawn
  have h1 := h.os
  have h2 := h.tape
  have h3 := h.output
  cases w'
  simp only at e h1 h2 h3 hd
  unfold grow World.drewN
  simp only [World.mk.injEq]
  exact ⟨e, h2, by omega, h1, h3⟩
variable {n : Nat} {w0 : World} {F : Nat → Prop}
theorem I.cmpLays (hn : n ≤ 512) (hF : ∀ b, F b → b < w0.heap.size) (hgl : GL (immF w0 F) w0) {W : World} (hb : Below w0.heap.size w0 W) {blk : Nat} (hblk : w0.heap.size ≤ blk) (size : Nat) [Inhabited (I.El n w0 F)] :
    CmpLays Tryz.prog 86 #[] (fun x : I.El n w0 F => I.encC x.1.1) 2 (fun x y => cmpS x.1.2 y.1.2) blk 0 size W := fun m os dk hs x y => by
  have hg := I.grownBy_sortK (w := W) (g := blk) (n := m) (os := os) (fun x : I.El n w0 F => I.encC x.1.1) dk
  generalize sortWorldK (fun x : I.El n w0 F => I.encC x.1.1) 2 W blk 0 m dk os = Ws at hg ⊢
  have hbs : Below w0.heap.size w0 Ws := hb.grown hg hb.size (fun k e => by cases e; exact hblk)
  have him := I.immF_later (F := F) hbs
  have h := I.cmpf_r x.1.2 y.1.2 (by rw [x.2.1]; exact hn) (by rw [x.2.1, y.2.1]) Ws F [I.enc x.1.1, I.enc y.1.1] (fun b hb' => Nat.lt_of_lt_of_le (hF b hb') hbs.size) (hgl.mono him) rfl (fun i hi => by
    match i, hi with
    | 0, _ => exact x.2.2.mono him
    | 1, _ => exact y.2.2.mono him)
  refine h.mono fun e w' ⟨u, he, hx, hr⟩ => ?_
  cases hr
  exact ⟨he, I.ext_grow hx⟩
theorem I.sortFunc (hn : n ≤ 512) (hF : ∀ b, F b → b < w0.heap.size) (hgl : GL (immF w0 F) w0) {W : World} (hb : Below w0.heap.size w0 W) {blk cap : Nat} (hblk : w0.heap.size ≤ blk) (xs : List (I.El n w0 F)) (hne : xs ≠ []) (hl : xs.length ≤ 1000000)
    {cur : Array Value} (hc : W.heap[blk]? = some (.cells cur 27 (0, 0))) (hcs : xs.length * 2 ≤ cur.size) (ht : cur.toList.take (xs.length * 2) = I.cells (xs.map (·.1.1))) :
    Calls Tryz.prog 106 #[.slice (some ⟨blk, 0, none⟩) xs.length cap, .func (.func 86) #[] #[]] W fun e W' => e = .returned (.tuple #[]) ∧ ∃ zs : List (I.El n w0 F), zs.Perm xs ∧ zs.Pairwise (fun a b => ¬ cmpS b.1.2 a.1.2 < 0) ∧
      (∃ cur' : Array Value, W'.heap[blk]? = some (.cells cur' 27 (0, 0)) ∧ cur'.size = cur.size ∧ cur'.toList.take (zs.length * 2) = I.cells (zs.map (·.1.1))) ∧ W.grownBy W' (some blk) ∧ W.drawn ≤ W'.drawn := by
  obtain ⟨x0, hx0⟩ := List.exists_mem_of_ne_nil _ hne
  haveI : Inhabited (I.El n w0 F) := ⟨x0⟩
  have hcells : ∀ l : List (I.El n w0 F), I.cells (l.map (·.1.1)) = (l.map fun x => I.encC x.1.1).flatten := fun l => by simp [I.cells, List.map_map, Function.comp_def]
  have eg : ∀ args w, (callFunc 86 args).run Tryz.prog w = .ok (.enter 86 args) w := enters_of Tryz.func86 (by kernel_rfl) rfl
  have hO : SWO (ltOf fun x y : I.El n w0 F => cmpS x.1.2 y.1.2) := {
    irrefl := fun x => by unfold ltOf; simp only [AM.cmpS_self]; rfl
    trans := fun x y z h1 h2 => by
      unfold ltOf at *
      simp only [decide_eq_true_eq] at *
      exact AM.cmpS_trans (by rw [x.2.1, y.2.1]) (by rw [x.2.1, z.2.1]) h1 h2
    ntrans := fun x y z h1 h2 => by
      unfold ltOf at *
      simp only [decide_eq_false_iff_not] at *
      intro h3
      by_cases e : x.1.2 = y.1.2
      · rw [e] at h3; exact h2 h3
      · rcases AM.cmpS_total (by rw [x.2.1, y.2.1]) e with h | h
        · exact h1 h
        · exact h2 (AM.cmpS_trans (by rw [x.2.1, y.2.1]) (by rw [y.2.1, z.2.1]) h h3) }
  have hcon := AnyQ.slices_SortFunc I.sortL 2 Tryz.isAgg27 Tryz.sizeOf27 (fun x : I.El n w0 F => I.encC x.1.1) (fun _ => rfl) (fun x v hv => by simp [I.encC] at hv; rcases hv with rfl | rfl <;> rfl) (fun x y => cmpS x.1.2 y.1.2) hO 86 #[] blk 0 cap xs.toArray W eg
    (I.cmpLays hn hF hgl hb hblk _) (I.holdsK _ (fun _ => rfl) hc (by rw [ht, hcells])) (Array.getElem?_eq_some_iff.1 hc).1 (by simp; omega)
  change Calls Tryz.prog 106 _ _ _ at hcon
  rw [List.size_toArray] at hcon
  refine hcon.mono fun e W' ⟨he, d', m, os, hp, hs, hw⟩ => ⟨he, d'.toList, ?_, ?_, ?_, ?_, ?_⟩
  · have := hp.2.2
    have h1 := hp.1
    simp only [List.size_toArray] at h1
    have e1 : d'.extract 0 xs.length = d' := by rw [← h1]; simp
    have e2 : (xs.toArray).extract 0 xs.length = xs.toArray := by rw [← List.size_toArray]; simp
    rw [e1, e2] at this
    simpa using this
  · have h1 := hp.1
    simp only [List.size_toArray] at h1
    rw [List.pairwise_iff_getElem]
    intro i j hi hj hij
    have hi' : i < d'.size := by simpa using hi
    have hj' : j < d'.size := by simpa using hj
    have := hs i j (Nat.zero_le _) hij (by omega)
    rw [getElem!_pos d' i hi', getElem!_pos d' j hj'] at this
    simpa [ltOf] using this
  · subst hw
    have h1 := hp.1
    simp only [List.size_toArray] at h1
    refine ⟨_, I.heap_sortK _ d' hc, by simp [putCells], ?_⟩
    have := I.take_putK (fun x : I.El n w0 F => I.encC x.1.1) (fun _ => rfl) cur d'.toList (by rw [Array.length_toList, h1]; exact hcs)
    rw [hcells, ← this]
  · subst hw; exact I.grownBy_sortK _ d'
  · subst hw; show W.drawn ≤ W.drawn + m; omega
end Go.Proofs

/- slices.SortedFunc over maps.Values. -/
namespace Go.Proofs
open Go.RowKit Go.Maps Go.Sort Go.Shelf
set_option maxRecDepth 100000
set_option maxHeartbeats 2000000
open AM (rowB cmpS RelP immF GL)
theorem I.collect_in (F : Fence) (n : Nat) (h8 : F.fn 105) (h11 : F.fn 116) (hro : F.round = none) (hn : 3 ≤ n) (g : Nat) (lb : Array Value) (hFg : F.fn g) (eg : ∀ args w, (callFunc g args).run Tryz.prog w = .ok (.enter g args) w)
    (S : List I.SetV → Prop) (N : Nat) (hN : N ≤ 1000000) (w : World) (hseq : I.SeqD F (n - 1 - 1) g lb S N w) :
    CallsIn F n Tryz.prog 105 #[.func (.func g) #[] lb] w fun e w' => ∃ (v : Value) (ss : List I.SetV), e = .returned v ∧ S ss ∧ w'.ownsRow w.heap.size 27 2 v ss.length (I.cells ss) ∧ (v = .slice none 0 0 ↔ ss = []) ∧ Below w.heap.size w w' ∧ w.drawn ≤ w'.drawn := by
  have h1 : 1 ≤ n := by omega
  have e11 : ∀ args w, (callFunc 116 args).run Tryz.prog w = .ok (.enter 116 args) w := enters_of Tryz.func116 (by kernel_rfl) rfl
  refine callsIn_of_wp Tryz.func105 rfl h8 ?_ hro
  simp only [Tryz.ntmps105, List.size_toArray, List.length_cons, List.length_nil, Nat.reduceAdd, Nat.reduceSub, Array.replicate_succ, Array.replicate_zero, List.push_toArray, List.append_toArray, List.nil_append, List.cons_append]
  gi_wp2_with (gi_at_call 116; refine (I.appendSeq_in F (n - 1) h11 hro (by omega) g lb hFg eg S N hN _ hseq).mono ?_; rintro e w' ⟨v, ss, rfl, hS, hrow, hnil, hb, hd⟩)
  go_ret
  exact ⟨v, ss, rfl, hS, hrow, hnil, hb, hd⟩
theorem I.perm_lift {α β : Type} (f : α → β) : ∀ {a b : List β} (_ : a.Perm b) (ys : List α), b = ys.map f → ∃ xs : List α, xs.Perm ys ∧ xs.map f = a := by
  intro a b hp
  induction hp with
  | nil => intro ys h; exact ⟨ys, List.Perm.refl _, h.symm⟩
  | cons x _ ih =>
    intro ys h
    cases ys with
    | nil => cases h
    | cons y ys =>
      simp only [List.map_cons, List.cons.injEq] at h
      obtain ⟨xs, h1, h2⟩ := ih ys h.2
      exact ⟨y :: xs, h1.cons y, by simp [h.1, h2]⟩
  | swap x y l =>
    intro ys h
    match ys, h with
    | u :: v :: ys, h =>
      simp only [List.map_cons, List.cons.injEq] at h
      exact ⟨v :: u :: ys, List.Perm.swap .., by simp [h.1, h.2.1, h.2.2]⟩
    | [u], h => simp at h
    | [], h => simp at h
  | trans _ _ ih1 ih2 =>
    intro ys h
    obtain ⟨xs, h1, h2⟩ := ih2 ys h
    obtain ⟨zs, h3, h4⟩ := ih1 xs h2.symm
    exact ⟨zs, h3.trans h1, h4⟩
theorem I.enc_inj {p q : I.SetV} (h : I.enc p = I.enc q) : p = q := by
  obtain ⟨a, b, c, d⟩ := p
  obtain ⟨a', b', c', d'⟩ := q
  simp only [I.enc, Value.agg.injEq] at h
  simp at h
  simp [h]
variable {n : Nat} {F : Nat → Prop}
/-- The map's values, sorted. -/
theorem I.sortedFunc {w : World} (hn : n ≤ 512) (hF : ∀ b, F b → b < w.heap.size) (hgl : GL (immF w F) w) (ys : List (I.El n w F)) (hl : ys.length ≤ 1000000) (Bm om b : Nat) (es : Array MapEntry) (clock : Nat)
    (hst : AM.StampOk es.toList clock) (hm : w.cell? ⟨Bm, om, none⟩ = some (.map (some b))) (hmap : w.heap[b]? = some (.map es clock)) (hys : es.toList.map (·.val) = ys.map fun y => I.enc y.1.1) :
    Calls Tryz.prog 84 #[.func (.func 107) #[] #[.pointer (some ⟨Bm, om, none⟩)], .func (.func 86) #[] #[]] w fun e w' => ∃ (v : Value) (zs : List (I.El n w F)), e = .returned v ∧ zs.Perm ys ∧ zs.Pairwise (fun a b => ¬ cmpS b.1.2 a.1.2 < 0) ∧
      w'.ownsRow w.heap.size 27 2 v zs.length (I.cells (zs.map (·.1.1))) ∧ Below w.heap.size w w' ∧ w.drawn ≤ w'.drawn := by
  have hlen : es.size = ys.length := by have := congrArg List.length hys; simpa using this
  have hseq : I.SeqD Fence.wide 1 107 #[.pointer (some ⟨Bm, om, none⟩)] (fun ss => (ss.map I.enc).Perm (es.toList.map (·.val))) es.size w := fun l J W hW hJ hY h0 => by
    have hBm : Bm < w.heap.size := by
      have := World.block_lt_of_cell? _ _ hm
      exact this
    exact I.values_in Fence.wide 1 trivial rfl (Nat.le_refl _) l Bm om b es clock hst (fun e he => by
      have : e.val ∈ es.toList.map (·.val) := List.mem_map.2 ⟨e, he, rfl⟩
      rw [hys] at this
      obtain ⟨y, _, hy⟩ := List.mem_map.1 this
      exact ⟨_, hy.symm⟩) J hY W hJ ((hW.cell (p := ⟨Bm, om, none⟩) hBm).trans hm) ((hW.block b (Array.getElem?_eq_some_iff.1 hmap).1).trans hmap) h0
  have hC := callsIn_wide.1 (I.collect_in Fence.wide 3 trivial trivial rfl (Nat.le_refl _) 107 #[.pointer (some ⟨Bm, om, none⟩)] trivial (enters_of Tryz.func107 (by kernel_rfl) rfl) _ es.size (by omega) w hseq)
  have HC : Hid (Calls Tryz.prog 105 #[.func (.func 107) #[] #[.pointer (some ⟨Bm, om, none⟩)]] w fun e w' => ∃ (v : Value) (ss : List I.SetV), e = .returned v ∧ (ss.map I.enc).Perm (es.toList.map (·.val)) ∧ w'.ownsRow w.heap.size 27 2 v ss.length (I.cells ss) ∧ (v = .slice none 0 0 ↔ ss = []) ∧ Below w.heap.size w w' ∧ w.drawn ≤ w'.drawn) := hC
  have HY : Hid (es.toList.map (·.val) = ys.map fun y => I.enc y.1.1) := hys
  have HM : Hid (w.heap[b]? = some (.map es clock)) := hmap
  have HL : Hid (es.size = ys.length) := hlen
  clear hseq hC hys hmap hm hlen
  go_enter Tryz.func84, Tryz.ntmps84
  go_wp2_with (go_at_call 105; refine HC.out.mono ?_; rintro e W ⟨v, ss, rfl, hS, hrow, hnil, hb, hd⟩)
  rw [HY.out] at hS
  have hS2 : ss.Perm (ys.map (·.1.1)) := by
    obtain ⟨xs, h1, h2⟩ := I.perm_lift I.enc hS.symm ss rfl
    have : xs = ys.map (·.1.1) := by
      refine List.map_inj_right (fun {x y} h => I.enc_inj h) |>.1 ?_
      rw [h2, List.map_map]; rfl
    rw [← this]; exact h1.symm
  obtain ⟨xs, hxs, rfl⟩ := I.perm_lift (fun y : I.El n w F => y.1.1) hS2 ys rfl
  have HX : Hid (xs.Perm ys) := hxs
  have hxl : xs.length ≤ 1000000 := by rw [hxs.length_eq]; exact hl
  clear hS hS2 hxs
  rw [List.length_map] at hrow
  rcases hrow.2 with ⟨rfl, hz⟩ | ⟨blk, cap, cur, rfl, hbase, hgb, r1, r2, r3, r4⟩
  · have hx0 : xs = [] := List.eq_nil_of_length_eq_zero hz
    subst hx0
    have hs := AnyF.slices_SortFunc_none I.sortL none 0 (.func (.func 86) #[] #[]) W
    change Calls Tryz.prog 106 _ _ _ at hs
    go_wp2_with (go_at_call 106; refine hs.mono ?_; rintro e w' ⟨rfl, rfl⟩)
    go_ret
    exact ⟨_, rfl, [], HX.out, List.Pairwise.nil, by simpa using hrow, hb, hd⟩
  · by_cases hx0 : xs = []
    · exfalso
      subst hx0
      have := hnil.2 rfl
      cases this
    · have hs := I.sortFunc hn hF hgl hb hbase xs hx0 hxl hgb (by rw [r3]; exact Nat.mul_le_mul_right _ r1) (cap := cap) r4
      have HS : Hid (Calls Tryz.prog 106 #[.slice (some ⟨blk, 0, none⟩) xs.length cap, .func (.func 86) #[] #[]] W fun e W' => e = .returned (.tuple #[]) ∧ ∃ zs : List (I.El n w F), zs.Perm xs ∧ zs.Pairwise (fun a b => ¬ cmpS b.1.2 a.1.2 < 0) ∧
        (∃ cur' : Array Value, W'.heap[blk]? = some (.cells cur' 27 (0, 0)) ∧ cur'.size = cur.size ∧ cur'.toList.take (zs.length * 2) = I.cells (zs.map (·.1.1))) ∧ W.grownBy W' (some blk) ∧ W.drawn ≤ W'.drawn) := hs
      clear hs hgb r4
      go_wp2_with (go_at_call 106; refine HS.out.mono ?_; rintro e W2 ⟨rfl, zs, hp, hsd, ⟨cur', g1, g2, g3⟩, hgr, hd2⟩)
      go_ret
      have hzl := hp.length_eq
      refine ⟨_, rfl, zs, hp.trans HX.out, hsd, ⟨by rw [I.cells_len, List.length_map], .inr ⟨blk, cap, cur', by rw [hzl]; rfl, hbase, g1, by rw [hzl]; exact r1, r2, by rw [g2]; exact r3, g3⟩⟩, hb.grown hgr hb.size (fun k e => by cases e; exact hbase), Nat.le_trans hd hd2⟩
end Go.Proofs

/- The contract of SortedFunc over Values, in the abstract machine. -/
namespace Go.Proofs.I
open Go.AM Go
set_option maxRecDepth 100000
set_option maxHeartbeats 2000000
def mapS (kv : List (ByteArray × List Bool)) : List (List AV) := kv.map fun p => [.str p.1, .agg (rowB p.2)]
theorem el_of {n : Nat} {x : Cx} (hF' : Nat → Prop) (hFi : ∀ b, x.imm b → immF x.w hF' b) : ∀ (kv : List (ByteArray × List Bool)) (l : List MapEntry), (∀ p ∈ kv, p.2.length = n) → RowsM x l (mapS kv) →
    ∃ ys : List (I.El n x.w hF'), l.map (·.val) = ys.map (fun y => I.enc y.1.1) ∧ ys.map (·.1.2) = kv.map (·.2)
  | [], [], _, _ => ⟨[], rfl, rfl⟩
  | p :: kv, e :: l, hn, h => by
    obtain ⟨⟨k, v, e1, h1, h2⟩, h3⟩ := h
    simp only [List.cons.injEq, and_true] at e1
    obtain ⟨rfl, rfl⟩ := e1
    obtain ⟨ys, g1, g2⟩ := el_of hF' hFi kv l (fun p hp => hn p (by simp [hp])) h3
    have hp : RelP x.imm x.w (.agg (rowB p.2)) e.val := pureA_rel h2 rfl
    have hp' : RelP (immF x.w hF') x.w (.agg (rowB p.2)) e.val := hp.mono fun b hb => ⟨hFi b hb, rfl⟩
    have hp2 := hp'
    unfold rowB at hp2
    obtain ⟨a, cap, he, _⟩ := set_inv hp2
    refine ⟨⟨((p.2.length, a, (setW p.2 p.2.length).length, cap), p.2), hn p (by simp), by rw [he] at hp'; exact hp'⟩ :: ys, ?_, ?_⟩
    · simp only [List.map_cons, g1, he]
    · simp only [List.map_cons, g2]
  | [], _ :: _, _, h => h.elim
  | _ :: _, [], _, h => h.elim
theorem sorted_u (n : Nat) (hn : n ≤ 512) (kv : List (ByteArray × List Bool)) (hlen : ∀ p ∈ kv, p.2.length = n) (hnd : (kv.map (·.2)).Nodup) (hl : kv.length ≤ 1000000) (g0 v0 g1 v1 : Nat) :
    Upd Tryz.prog 84 [(0, some ⟨g0, v0, 1, [[.mp ⟨1, g1, none⟩]]⟩), (1, some ⟨g1, v1, mapSz, mapS kv⟩)] [.fn 107 [.ptr ⟨0, g0, none⟩ 0 0], .fn 86 []] (fun _ => .rsl 2 ((sortS (kv.map (·.2))).map rowB)) (fun _ => []) := by
  intro c B k ρ w F us _ _ _ hst hul hrel
  match us, hul with
  | [u0, u1], _ =>
  have r0 := hrel 0 (by simp)
  have r1 := hrel 1 (by simp)
  simp only [List.getD_cons_zero, List.getD_cons_succ] at r0 r1
  obtain ⟨vs, rfl, hvl, hvr⟩ := r0.fn_inv
  obtain ⟨vs1, rfl, hvl1, _⟩ := r1.fn_inv
  obtain rfl : vs1 = [] := List.eq_nil_of_length_eq_zero (by simpa using hvl1.symm)
  match vs, hvl with
  | [up], _ =>
  have rp := hvr 0 (by simp)
  simp only [List.getD_cons_zero] at rp
  obtain ⟨ad, rfl, _, hp⟩ := rp.ptr_inv
  obtain ⟨_, b0, base0, hρ0, rfl⟩ := hp 1 [[.mp ⟨1, g1, none⟩]] (by simp [content, rcontent, noMap, mapSz, sget])
  have hp0 : pcontent [(0, some ⟨g0, v0, 1, [[.mp ⟨1, g1, none⟩]]⟩), (1, some ⟨g1, v1, mapSz, mapS kv⟩)] (0, none) = some (1, [[.mp ⟨1, g1, none⟩]]) := by simp [pcontent, sget]
  have hp1 : pcontent [(0, some ⟨g0, v0, 1, [[.mp ⟨1, g1, none⟩]]⟩), (1, some ⟨g1, v1, mapSz, mapS kv⟩)] (1, none) = some (mapSz, mapS kv) := by simp [pcontent, sget]
  change ρ (0, none) = some (b0, base0) at hρ0
  obtain ⟨cs, T, hc1, hc2, hc3⟩ := (hst.rows (0, none) _ _ b0 base0 hp0 hρ0).cells (by decide)
  obtain ⟨um, hm1, hm2⟩ := hc3 0 0 (by simp) (by omega)
  have hm2 : Rel ⟨ρ, [(0, some ⟨g0, v0, 1, [[.mp ⟨1, g1, none⟩]]⟩), (1, some ⟨g1, v1, mapSz, mapS kv⟩)], c, w, F⟩ (.mp ⟨1, g1, none⟩) um := hm2
  obtain ⟨m, rfl, _, hmm⟩ := hm2.mp_inv
  obtain ⟨b1, base1, hρ1, rfl⟩ := hmm (mapS kv) (by simp [mcontent, rcontent, sget])
  change ρ (1, none) = some (b1, base1) at hρ1
  obtain ⟨_, _, l, clock, hmap, hrows, hstamp⟩ := (hst.rows (1, none) _ _ b1 base1 hp1 hρ1).map rfl
  let x : Cx := ⟨ρ, [(0, some ⟨g0, v0, 1, [[.mp ⟨1, g1, none⟩]]⟩), (1, some ⟨g1, v1, mapSz, mapS kv⟩)], c, w, F⟩
  let F' : Nat → Prop := fun b => F b ∨ x.owned b
  have hFi : ∀ b, x.imm b → immF w F' b := fun b hb => ⟨hb.1, fun h => h.elim hb.2.2 hb.2.1⟩
  have hF' : ∀ b, F' b → b < w.heap.size := fun b hb => by
    rcases hb with hb | ⟨π, y, base, h1, h2⟩
    · exact (hst.apart b hb).1
    · exact hst.live_lt h1 h2
  obtain ⟨ys, hy1, hy2⟩ := el_of (n := n) (x := x) F' hFi kv l.toList hlen hrows
  have hyl : ys.length = kv.length := by have := congrArg List.length hy2; simpa using this
  have hcell : w.cell? ⟨b0, base0 + 0 * 1 + 0, none⟩ = some (.map (some b1)) := by
    simp only [World.cell?, hc1]
    simpa using hm1
  refine (I.sortedFunc hn hF' (hst.gl.mono fun b hb => ⟨hFi b hb, rfl⟩) ys (by omega) b0 (base0 + 0 * 1 + 0) b1 l clock hstamp hcell hmap hy1).mono ?_
  rintro e w' ⟨v, zs, he, hperm, hsort, hrow, hb, hd⟩
  have hext : Ext (fun _ => False) w w' := ⟨hb.os, hb.tape, hb.output, hb.size, fun k hk _ => hb.block k hk, hd⟩
  have hgo := hst.goes_grow (s' := []) (c' := fun g => c g ∨ g = k ∨ g = k + 1) (w' := w') (fun id R e => by simp [sget] at e) (fun g hg => .inl hg) hext
  refine ⟨v, ρ, he, hgo, .pure _ _ ?_⟩
  have hz : zs.map (·.1.2) = sortS (kv.map (·.2)) := by
    have hmem : ∀ a, a ∈ zs.map (·.1.2) ↔ a ∈ kv.map (·.2) := fun a => by rw [(hperm.map _).mem_iff, hy2]
    have hl1 : ∀ a ∈ kv.map (·.2), a.length = n := fun a ha => by obtain ⟨p, hp, rfl⟩ := List.mem_map.1 ha; exact hlen p hp
    refine StrS.unique (n := n) (fun a ha => hl1 a ((hmem a).1 ha)) (fun a ha => hl1 a ((sortS_mem _ a).1 ha)) ?_ (sortS_str hl1) (fun a => by rw [hmem, sortS_mem])
    have hnz : (zs.map (·.1.2)).Nodup := by rw [(hperm.map _).nodup_iff, hy2]; exact hnd
    unfold StrS
    rw [List.pairwise_map]
    have h1 : zs.Pairwise fun a b => a.1.2 ≠ b.1.2 := List.pairwise_map.1 hnz
    exact (h1.and hsort).imp fun {a b} ⟨e, h⟩ => by
      rcases cmpS_total (a := a.1.2) (b := b.1.2) (by rw [a.2.1, b.2.1]) e with h2 | h2
      · exact h2
      · exact absurd h2 h
  rw [← hz, List.map_map]
  have himm : ∀ b, immF w F' b → Cx.imm ⟨ρ, [], fun g => c g ∨ g = k ∨ g = k + 1, w', F⟩ b ∧ w'.heap[b]? = w.heap[b]? := fun b hb' =>
    ⟨⟨Nat.lt_of_lt_of_le hb'.1 hb.size, fun ⟨π, y, base, e1, _⟩ => by simp [pcontent, sget] at e1, fun h => hb'.2 (.inl h)⟩, hb.block b hb'.1⟩
  rcases hrow.2 with ⟨rfl, hz0⟩ | ⟨blk, cap, cur, rfl, hbase, hgb, q1, q2, q3, q4⟩
  · have : zs = [] := List.eq_nil_of_length_eq_zero hz0
    subst this
    exact .rnil 2 none 0
  · have hlz : (zs.map ((fun b => rowB b) ∘ fun x => x.1.2)).length = zs.length := by simp
    rw [show zs.length = (zs.map (rowB ∘ fun x => x.1.2)).length by simp]
    refine .rsl 2 _ blk 0 cap (fun i j => ((I.encC (((zs[i]?).map (·.1.1)).getD default)).getD j undef)) (by simpa using q1) ⟨(Array.getElem?_eq_some_iff.1 hgb).1, fun ⟨π, y, base, e1, _⟩ => by simp [pcontent, sget] at e1, fun h => ?_⟩ (fun e he => by obtain ⟨z, _, rfl⟩ := List.mem_map.1 he; rfl) (fun i j hi hj => ?_) (fun i j hi hj => ?_)
    · have := (hst.apart blk h).1
      simp only at this
      omega
    · have hi : i < zs.length := by simpa using hi
      have hcur : cur[i * 2 + j]? = some ((I.encC (((zs[i]?).map (·.1.1)).getD default)).getD j undef) := by
        have h1 : (cur.toList.take (zs.length * 2))[i * 2 + j]? = (I.cells (zs.map (·.1.1)))[i * 2 + j]? := by rw [q4]
        rw [List.getElem?_take_of_lt (by omega), Array.getElem?_toList] at h1
        haveI : Inhabited I.SetV := ⟨(0, none, 0, 0)⟩
        rw [h1, I.cells, I.flat_get I.encC (fun _ => rfl) (zs.map (·.1.1)) (i * 2 + j) (by simp; omega), show (i * 2 + j) / 2 = i by omega, show (i * 2 + j) % 2 = j by omega]
        match j, hj with
        | 0, _ => simp [List.getD_eq_getElem?_getD, List.getElem?_map, hi]
        | 1, _ => simp [List.getD_eq_getElem?_getD, List.getElem?_map, hi]
      simp only [World.cell?, hgb, Nat.zero_add]
      simpa using hcur
    · have hi : i < zs.length := by simpa using hi
      have hz := (zs[i]).2.2.mono himm
      have hrow' : (zs.map (rowB ∘ fun x => x.1.2)).getD i [] = rowB (zs[i]).1.2 := by simp [List.getD_eq_getElem?_getD, List.getElem?_map, hi]
      rw [hrow']
      have hg : ((zs[i]?).map (·.1.1)).getD default = (zs[i]).1.1 := by simp [hi]
      rw [hg]
      unfold rowB at hz ⊢
      cases hz with
      | agg _ vs hl hr =>
        have h1 := hr j (by simp; omega)
        exact h1
end Go.Proofs.I

namespace Go.Proofs.I
open Go.AM Go
set_option maxRecDepth 100000
set_option maxHeartbeats 4000000
theorem rowN_r (b : List Bool) (hb : b.length ≤ 512) (i : Nat) (hi : i < b.length) : Reads Tryz.prog 88 false [.agg (rowB b), .int .i64 i] (.bool (b.getD i false)) := by
  have h := rowH_r b hb (i : Int)
  rwa [show (decide (0 ≤ (i : Int)) && decide ((i : Int) < b.length) && b.getD (i : Int).toNat false) = b.getD i false by simp; intro; omega] at h
theorem interf_r (a b : Int) : Reads Tryz.prog 71 false [.int .u64 a, .int .u64 b] (.int .u64 (bAnd .u64 a b)) := by
  refine Reads.body (rs := [.tmp 4]) Tryz.func71 rfl Tryz.ntmps71 rfl (by simp) ?_
  generalize hQr : retQ _ _ _ = Qr
  -- block 1
  -- region 0
  refine AW.sg [0,1] [] trivial ?_
  -- region 1
  refine AW.sg [4] [] trivial ?_
  -- ret 1
  rw [← hQr]
  refine AW.rt trivial ?_
  exact Wk.of_eq rfl
theorem unionf_r (a b : Int) : Reads Tryz.prog 70 false [.int .u64 a, .int .u64 b] (.int .u64 (bOr .u64 a b)) := by
  refine Reads.body (rs := [.tmp 4]) Tryz.func70 rfl Tryz.ntmps70 rfl (by simp) ?_
  generalize hQr : retQ _ _ _ = Qr
  -- block 2
  -- region 0
  refine AW.sg [0,1] [] trivial ?_
  -- region 1
  refine AW.sg [4] [] trivial ?_
  -- ret 1
  rw [← hQr]
  refine AW.rt trivial ?_
  exact Wk.of_eq rfl
theorem union_r (a b : List Bool) (ha : a.length ≤ 512) (hl : b.length = a.length) : Reads Tryz.prog 37 false [.agg (rowB a), .agg (rowB b)] (.tup [.agg (rowB (List.zipWith (· || ·) a b)), .int .i64 ((0 : Nat) : Int)]) := by
  have hz := zipW_setW bitOp_or (a := a) (b := b) hl.symm
  have h := combined_r a.length b.length (setW a a.length) (setW b b.length) 70 (bOr .u64) (setB_len ha) (setB_len (by omega)) (by rw [setW_len', setW_len', hl]) (by rw [validS_setW ha, validS_setW (by omega), hl]; simp) (by kernel_rfl) unionf_r
  have e : (List.zipWith (· || ·) a b).length = a.length := by simp [hl]
  rw [hz] at h
  unfold rowB
  rw [e]
  refine Reads.body (rs := [.cell 4 27, .tmp 5]) Tryz.func37 rfl Tryz.ntmps37 rfl (by simp) ?_
  generalize hQr : retQ _ _ _ = Qr
  -- block 3
  -- region 0
  refine AW.sg [2,3,4] [2,3,4] trivial ?_
  -- region 1
  refine AW.so 0 (fun ii => if ii = 2 then some (.reads false (.tup [.agg [.int .i64 a.length, .rsl 1 (words (setW (List.zipWith (· || ·) a b) a.length))], .int .i64 ((0 : Nat) : Int)])) else none) [4,5] [4] trivial ?_
  repeat with_reducible refine cj ?_ ?_
  all_goals try first | (exact h) | omega | exact ent (by kernel_rfl)
  -- ret 1
  rw [← hQr]
  refine AW.rt trivial ?_
  exact Wk.refl _
theorem inter_r (a b : List Bool) (ha : a.length ≤ 512) (hl : b.length = a.length) : Reads Tryz.prog 38 false [.agg (rowB a), .agg (rowB b)] (.tup [.agg (rowB (List.zipWith (· && ·) a b)), .int .i64 ((0 : Nat) : Int)]) := by
  have hz := zipW_setW bitOp_and (a := a) (b := b) hl.symm
  have h := combined_r a.length b.length (setW a a.length) (setW b b.length) 71 (bAnd .u64) (setB_len ha) (setB_len (by omega)) (by rw [setW_len', setW_len', hl]) (by rw [validS_setW ha, validS_setW (by omega), hl]; simp) (by kernel_rfl) interf_r
  have e : (List.zipWith (· && ·) a b).length = a.length := by simp [hl]
  rw [hz] at h
  unfold rowB
  rw [e]
  refine Reads.body (rs := [.cell 4 27, .tmp 5]) Tryz.func38 rfl Tryz.ntmps38 rfl (by simp) ?_
  generalize hQr : retQ _ _ _ = Qr
  -- block 4
  -- region 0
  refine AW.sg [2,3,4] [2,3,4] trivial ?_
  -- region 1
  refine AW.so 0 (fun ii => if ii = 2 then some (.reads false (.tup [.agg [.int .i64 a.length, .rsl 1 (words (setW (List.zipWith (· && ·) a b) a.length))], .int .i64 ((0 : Nat) : Int)])) else none) [4,5] [4] trivial ?_
  repeat with_reducible refine cj ?_ ?_
  all_goals try first | (exact h) | omega | exact ent (by kernel_rfl)
  -- ret 1
  rw [← hQr]
  refine AW.rt trivial ?_
  exact Wk.refl _
theorem below_r (n : Nat) (t : List (List Bool)) (hs : Sq n t) (hn : n ≤ 512) : Reads Tryz.prog 64 false [relB t] (.rsl 2 (tabR (invT n t))) := by
  have h := inverse_g n t hs hn
  unfold relB at *
  refine Reads.body (rs := [.tmp 2]) Tryz.func64 rfl Tryz.ntmps64 rfl (by simp) ?_
  generalize hQr : retQ _ _ _ = Qr
  -- block 5
  -- region 0
  refine AW.sg [1] [1] trivial ?_
  -- region 1
  refine AW.so 0 (fun ii => if ii = 1 then some (.reads false (.tup [.agg [.rsl 2 (tabR (invT n t))], .int .i64 ((0 : Nat) : Int)])) else none) [3] [3] trivial ?_
  repeat with_reducible refine cj ?_ ?_
  all_goals try first | (exact h) | omega | exact ent (by kernel_rfl)
  -- region 2
  refine AW.sg [2] [] trivial ?_
  -- ret 1
  rw [← hQr]
  refine AW.rt trivial ?_
  exact Wk.refl _
theorem next_r (u : List (List Bool)) (b : List Bool) (hb : b.length ≤ 512) (hu : u.length = b.length) (hr : ∀ i, i < b.length → (u.getD i []).length = b.length) : Reads Tryz.prog 63 false [.rsl 2 (tabR u), .agg (rowB b)] (.rsl 1 (ints (nats (nextU u b b.length)))) := by
  have hul := tabR_len u
  have hget : ∀ i, i < b.length → (tabR u).getD i [] = rowB (u.getD i []) := fun i hi => by rw [tabR_get (by omega)]; rfl
  have hh := rowN_r b hb
  have hsub : ∀ i, i < b.length → Reads Tryz.prog 81 false [.agg (rowB (u.getD i [])), .agg (rowB b)] (.bool (subB (u.getD i []) b)) := fun i hi => subset_r _ b (by rw [hr i hi]; exact hb) (by rw [hr i hi])
  unfold rowB at *
  refine Reads.body (rs := [.tmp 4]) Tryz.func63 rfl Tryz.ntmps63 rfl (by simp) ?_
  generalize hQr : retQ _ _ _ = Qr
  -- block 6
  -- region 0
  refine AW.sg [0,3] [3] trivial ?_
  -- region 1
  refine AW.sg [0,3,5] [3] trivial ?_
  refine AW.seq fun K1 hK1 => ?_
  -- region 2
  refine AW.sg [3,5,8,9,10] [3] trivial ?_
  refine AW.block ?_
  refine AW.nilOwn 5 200 1 (by simp only [go_sem, reduceIte, Nat.reduceEqDiff]) ?_
  refine AW.keep [3, 5, 8, 9, 10] [3, 200] ?_
  simp only [go_sem, reduceIte, Nat.reduceEqDiff]
  -- loop 1
  refine AW.loopE (fun mm ee ss kk => ∃ (i g3 v3 g v : Nat), b.length - i = mm ∧ ee = [(3, .ptr ⟨3, g3, none⟩ 0 0), (5, .sl ⟨200, g, none⟩ 0 (nextU u b i).length none), (8, .rsl 2 (tabR u)), (9, .int .i64 b.length), (10, .int .i64 (i : Nat))] ∧ ss = [(3, some ⟨g3, v3, 2, [[.int .i64 b.length, .rsl 1 (words (setW b b.length))]]⟩), (200, some ⟨g, v, 1, ints (nats (nextU u b i))⟩)] ∧ (i ≤ b.length)) ?_ ?_
  -- init 1
  · exact ⟨_, 0, _, _, _, _, rfl, eD, eD, eT⟩
  rintro mm ee ss kk ⟨i, g3, v3, g, v, rfl, rfl, rfl, hI⟩
  generalize hQl1 : thenQ _ _ = Ql1
  -- region 3
  refine AW.sg [3,5,8,9,10,11] [3,200] trivial ?_
  refine AW.seq fun K2 hK2 => ?_
  -- cond 1
  refine AW.cn ?_ ?_
  · intro hb
    have hbr := hh i (by omega)
    have hsr := hsub i (by omega)
    have hg := hget i (by omega)
    have hms := nextU_succ u b i
    have hml := nextU_le u b i
    have htk : (ints (nats (nextU u b i))).take (nextU u b i).length = ints (nats (nextU u b i)) := List.take_of_length_le (by rw [ints_len, nats_len]; exact Nat.le_refl _)
    generalize nextU u b i = M at *
    refine AW.skip ?_
    refine hK2 _ _ _ ?_; clear hK2
    refine AW.seq fun K3 hK3 => ?_
    refine AW.block ?_
    -- region 4
    refine AW.sg [3,5,6,7,8,9,10] [3,7,200] (e3 @hg @hul @hu) ?_
    -- region 5
    refine AW.so 0 (fun ii => if ii = 2 then some (.reads false (.bool (b.getD i false))) else if ii = 7 then some (.reads false (.bool (subB (u.getD i []) b))) else none) [3,5,6,8,9,10,23] [3,200] trivial ?_
    repeat with_reducible refine cj ?_ ?_
    all_goals try first | (first | exact hbr | exact hsr | (intro hq; exact ⟨hq, hsr⟩)) | (intros; (repeat' apply And.intro) <;> first | assumption | (first | exact hbr | exact hsr | (intro hq; exact ⟨hq, hsr⟩))) | omega | exact ent (by kernel_rfl) | (intro hgd; exact absurd hgd (by decide)) | rfl | exact gD | (intro _hgd; simp_all [go_sem]; done)
    -- cond 2
    refine AW.cn ?_ ?_
    · intro hb
      rw [if_pos (by simpa using hb)] at hms
      -- region 6
      refine AW.regionK 0 (fun _ => none) [3, 5, 8, 9, 10] [3, 200] ?_
      simp only [go_sem, reduceIte, reduceCtorEq, Nat.reduceAdd, Nat.reduceMul, Nat.reduceEqDiff, Nat.reduceLT, Nat.reduceLeDiff, Nat.reduceSub, Nat.reducePow, Nat.reduceBEq, Int.reduceToNat, List.reduceReplicate, htk, ints_app, nats_app, nats_len, ints_len]
      repeat with_reducible refine cj ?_ ?_
      all_goals try first | omega | (simp [scP, scalar]; done) | exact scP_words _ | exact scP_ints _ | exact scP_bools _
      refine hK3 _ _ _ ?_; clear hK3
      -- region 7
      refine AW.rg [3,5,8,9,10] [3,200] trivial ?_
      -- again 1
      rw [← hQl1]; change Exists _
      refine ⟨_, ?hm, i + 1, ?_, ?_, ?_, ?_, rfl, ?henv, ?hstore, ?hst⟩
      case henv =>
        repeat' (first | rfl | refine env_cons ?_ ?_ | refine st_cons ?_ ?_ ?_ ?_ | refine int_eq ?_ | refine bool_eq ?_ | refine rsl_eq ?_ | refine osl_eq ?_ | refine sl_eq ?_ ?_ ?_ | refine ptr_eq ?_ ?_ ?_ | refine agg_eq ?_ | refine es_cons ?_ ?_ | refine row_cons ?_ ?_)
        all_goals (rw [hms]; try simp)
      case hstore =>
        repeat' (first | rfl | refine env_cons ?_ ?_ | refine st_cons ?_ ?_ ?_ ?_ | refine int_eq ?_ | refine bool_eq ?_ | refine rsl_eq ?_ | refine osl_eq ?_ | refine sl_eq ?_ ?_ ?_ | refine ptr_eq ?_ ?_ ?_ | refine agg_eq ?_ | refine es_cons ?_ ?_ | refine row_cons ?_ ?_)
        all_goals (rw [hms])
      case hst =>
        first | trivial | omega | (simp; done) | (simp; omega)
      case hm => omega
    · intro hb
      rw [if_neg (by cases h1 : b.getD i false <;> cases h2 : subB (u.getD i []) b <;> simp_all)] at hms
      refine AW.skip ?_
      refine hK3 _ _ _ ?_; clear hK3
      -- region 7
      refine AW.rg [3,5,8,9,10] [3,200] trivial ?_
      -- again 1
      rw [← hQl1]; change Exists _
      refine ⟨_, ?hm, i + 1, ?_, ?_, ?_, ?_, rfl, ?henv, ?hstore, ?hst⟩
      case henv =>
        repeat' (first | rfl | refine env_cons ?_ ?_ | refine st_cons ?_ ?_ ?_ ?_ | refine int_eq ?_ | refine bool_eq ?_ | refine rsl_eq ?_ | refine osl_eq ?_ | refine sl_eq ?_ ?_ ?_ | refine ptr_eq ?_ ?_ ?_ | refine agg_eq ?_ | refine es_cons ?_ ?_ | refine row_cons ?_ ?_)
        all_goals (rw [hms]; try simp)
      case hstore =>
        repeat' (first | rfl | refine env_cons ?_ ?_ | refine st_cons ?_ ?_ ?_ ?_ | refine int_eq ?_ | refine bool_eq ?_ | refine rsl_eq ?_ | refine osl_eq ?_ | refine sl_eq ?_ ?_ ?_ | refine ptr_eq ?_ ?_ ?_ | refine agg_eq ?_ | refine es_cons ?_ ?_ | refine row_cons ?_ ?_)
        all_goals (rw [hms])
      case hst =>
        first | trivial | omega | (simp; done) | (simp; omega)
      case hm => omega
  · intro hb
    -- exit 0
    refine AW.exit ?_
    rw [← hQl1]
    refine hK1 _ _ _ ?_; clear hK1
    -- region 8
    refine AW.sg [4] [200] trivial ?_
    -- ret 1
    rw [← hQr]
    refine AW.rt trivial ?_
    have hi : i = b.length := by omega
    subst hi
    have htk : (ints (nats (nextU u b b.length))).take (nextU u b b.length).length = ints (nats (nextU u b b.length)) := List.take_of_length_le (by rw [ints_len, nats_len]; exact Nat.le_refl _)
    refine Wk.of_eq ?_
    rw [List.take_of_length_le (by rw [nats_len]; exact Nat.le_refl _)]
end Go.Proofs.I

namespace Go.Proofs.I
open Go.AM Go
set_option maxRecDepth 100000
set_option maxHeartbeats 2000000
theorem pempty_r (es : List (List AV)) (n : Nat) (he : es.length = n) (hn : n ≤ 512) : Reads Tryz.prog 112 false [.agg [.rsl 2 es]] (.agg (rowB (List.replicate n false))) := by
  have h0 := (ofRow_r n [] hn (by simp) (by simp)).wk (args := [.int .i64 n, .nilsl]) (.cons (Wk.refl _) (.cons (Wk.nil 1) .nil)) (Wk.refl _)
  rw [rowL_nil] at h0
  unfold rowB at *
  simp only [List.length_replicate] at h0 ⊢
  refine Reads.body (rs := [.cell 2 27]) Tryz.func112 rfl Tryz.ntmps112 rfl (by simp) ?_
  generalize hQr : retQ _ _ _ = Qr
  -- block 1
  -- region 0
  refine AW.sg [1,2] [1,2] (@he) ?_
  -- region 1
  refine AW.so 0 (fun ii => if ii = 3 then some (.reads true (.tup [.agg [.int .i64 n, .rsl 1 (words (setW (List.replicate n false) n))], .int .i64 ((0 : Nat) : Int)])) else none) [2,3] [2,3] (@he) ?_
  repeat with_reducible refine cj ?_ ?_
  all_goals try first | (exact h0) | omega | exact ent (by kernel_rfl)
  -- region 2
  refine AW.sg [2] [2] (@he) ?_
  -- ret 1
  rw [← hQr]
  refine AW.rt (@he) ?_
  exact Wk.refl _
theorem above_r (n : Nat) (t : List (List Bool)) (hs : Sq n t) (hn : n ≤ 512) (b : List Bool) (hb : b.length = n) : Reads Tryz.prog 94 false [relB t, .agg (rowB b)] (.agg (rowB (setR n (abvF n t b)))) := by
  have h0 := pempty_r (tabR t) n (by rw [tabR_len, hs.len]) hn
  have hm := members_b b (by omega)
  have hlt : (tabR t).length = n := by rw [tabR_len, hs.len]
  have hmm : ∀ j, j ∈ memB b → j < n := fun j hj => by have := (memB_mem.1 hj).1; omega
  have hml := memB_le b
  have hu := fun a c ha hl => union_r a c ha hl
  have hae := abv_eq hs hb
  have hal := fun l hl => abvL_len hs l hl
  have hgr := fun i hi => tabR_get (t := t) (i := i) hi
  have hlen := hs.len
  generalize hM : memB b = M at *
  unfold relB rowB at *
  simp only [List.length_replicate] at h0
  refine Reads.body (rs := [.cell 4 27]) Tryz.func94 rfl Tryz.ntmps94 rfl (by simp) ?_
  generalize hQr : retQ _ _ _ = Qr
  -- block 2
  -- region 0
  refine AW.sg [2,3,4] [2,3,4] (e2 @nats_len @ints_len) ?_
  -- region 1
  refine AW.so 0 (fun ii => if ii = 1 then some (.reads false (.agg [.int .i64 n, .rsl 1 (words (setW (List.replicate n false) n))])) else none) [2,3,4,5] [2,3,4,5] (e2 @nats_len @ints_len) ?_
  repeat with_reducible refine cj ?_ ?_
  all_goals try first | (exact h0) | omega | exact ent (by kernel_rfl)
  -- region 2
  refine AW.so 0 (fun ii => if ii = 1 then some (.reads false (.tup [.rsl 1 (ints (nats M)), .int .i64 ((0 : Nat) : Int)])) else none) [2,4,5,6] [2,4,5] (e2 @nats_len @ints_len) ?_
  repeat with_reducible refine cj ?_ ?_
  all_goals try first | (exact hm) | omega | exact ent (by kernel_rfl)
  refine AW.seq fun K1 hK1 => ?_
  -- region 3
  refine AW.sg [2,4,5,17,18,19] [2,4,5] (e2 @nats_len @ints_len) ?_
  refine AW.block ?_
  -- loop 1
  refine AW.loopE (fun mm ee ss kk => ∃ (k g2 v2 g4 v4 g5 v5 : Nat), M.length - k = mm ∧ ee = [(2, .ptr ⟨2, g2, none⟩ 0 0), (4, .ptr ⟨4, g4, none⟩ 0 0), (5, .ptr ⟨5, g5, none⟩ 0 0), (17, .rsl 1 (ints (nats M))), (18, .int .i64 M.length), (19, .int .i64 (k : Nat))] ∧ ss = [(2, some ⟨g2, v2, 1, [[.rsl 2 (tabR t)]]⟩), (4, some ⟨g4, v4, 2, [[.int .i64 0, .nilsl]]⟩), (5, some ⟨g5, v5, 2, [[.int .i64 (abvL n t (M.take k)).length, .rsl 1 (words (setW (abvL n t (M.take k)) (abvL n t (M.take k)).length))]]⟩)] ∧ (k ≤ M.length)) ?_ ?_
  -- init 1
  · refine ⟨_, 0, ?_, ?_, ?_, ?_, ?_, ?_, rfl, ?henv, ?hstore, ?hst⟩
    case henv =>
      repeat' (first | rfl | refine env_cons ?_ ?_ | refine st_cons ?_ ?_ ?_ ?_ | refine int_eq ?_ | refine bool_eq ?_ | refine rsl_eq ?_ | refine osl_eq ?_ | refine sl_eq ?_ ?_ ?_ | refine ptr_eq ?_ ?_ ?_ | refine agg_eq ?_ | refine es_cons ?_ ?_ | refine row_cons ?_ ?_)
      all_goals (first | (simp; done) | omega | (simp; omega))
    case hstore =>
      repeat' (first | rfl | refine env_cons ?_ ?_ | refine st_cons ?_ ?_ ?_ ?_ | refine int_eq ?_ | refine bool_eq ?_ | refine rsl_eq ?_ | refine osl_eq ?_ | refine sl_eq ?_ ?_ ?_ | refine ptr_eq ?_ ?_ ?_ | refine agg_eq ?_ | refine es_cons ?_ ?_ | refine row_cons ?_ ?_)
      all_goals (simp [abvL])
    case hst =>
      first | trivial | omega | (simp; done) | (simp; omega)
  rintro mm ee ss kk ⟨k, g2, v2, g4, v4, g5, v5, rfl, rfl, rfl, hI⟩
  generalize hQl1 : thenQ _ _ = Ql1
  -- region 4
  refine AW.sg [2,4,5,17,18,19,20] [2,4,5] (e2 @nats_len @ints_len) ?_
  refine AW.seq fun K2 hK2 => ?_
  -- cond 1
  refine AW.cn ?_ ?_
  · intro hb
    obtain ⟨q, hq⟩ := getI (l := M) (j := k) (by omega)
    have hgq : (ints (nats M)).getD k [] = [.int .i64 (q : Nat)] := ints_get (by simp [nats, hq])
    have hqn := hmm q (List.mem_of_getElem? hq)
    have hgt := hgr q (by omega)
    have hqr := hs.rowLen hqn
    have hak := hal (M.take k) (fun i hi => hmm i (List.mem_of_mem_take hi))
    have huk := hu (abvL n t (M.take k)) (rowT t q) (by omega) (by omega)
    have hts : M.take (k + 1) = M.take k ++ [q] := by obtain ⟨h1, h2⟩ := List.getElem?_eq_some_iff.1 hq; rw [List.take_succ_eq_append_getElem h1, h2]
    have hsn := abvL_snoc n t (M.take k) q
    rw [← hts] at hsn
    rw [← hsn] at huk
    refine AW.skip ?_
    refine hK2 _ _ _ ?_; clear hK2
    refine AW.seq fun K3 hK3 => ?_
    refine AW.block ?_
    -- region 5
    refine AW.sg [2,4,5,9,17,18,19] [2,4,5] (e3 @nats_len @ints_len @hgq) ?_
    -- region 6
    refine AW.rd mixed 0 (fun ii => if ii = 6 then some (.reads false (.tup [.agg [.int .i64 (abvL n t (M.take (k + 1))).length, .rsl 1 (words (setW (abvL n t (M.take (k + 1))) (abvL n t (M.take (k + 1))).length))], .int .i64 ((0 : Nat) : Int)])) else none) [2,4,5,17,18,19] [2,4,5] (e3 @nats_len @ints_len @hgt) ?_
    repeat with_reducible refine cj ?_ ?_
    all_goals try first | (first | exact huk | exact ⟨rfl, huk⟩) | omega | exact chk (by kernel_rfl) | exact ent (by kernel_rfl)
    refine hK3 _ _ _ ?_; clear hK3
    -- region 7
    refine AW.rg [2,4,5,17,18,19] [2,4,5] (e2 @nats_len @ints_len) ?_
    -- again 1
    rw [← hQl1]; change Exists _
    exact ⟨_, eO, k + 1, _, _, _, _, _, _, rfl, eD, eD, eT⟩
  · intro hb
    -- exit 0
    refine AW.kx [4,5] [4,5] ?_
    rw [← hQl1]
    refine hK1 _ _ _ ?_; clear hK1
    -- region 8
    refine AW.sg [4] [4] (e2 @nats_len @ints_len) ?_
    -- ret 1
    rw [← hQr]
    refine AW.rt (e2 @nats_len @ints_len) ?_
    have hk : k = M.length := by omega
    subst hk
    rw [List.take_of_length_le (Nat.le_refl _), hae]
    exact Wk.refl _
theorem up_g (n : Nat) (t : List (List Bool)) (hs : Sq n t) (hn : n ≤ 512) (hp : poB n t = true) (b : List Bool) (hb : b.length = n) : Reads Tryz.prog 68 false [relB t, .agg (rowB b)] (.tup [.agg (rowB (upT n t b)), .int .i64 ((0 : Nat) : Int)]) := by
  have h := pmatch_t n t hs hn hp b hb
  have ha := above_r n t hs hn b hb
  have hu := union_r b (setR n (abvF n t b)) (by omega) (by rw [setR_len, hb])
  rw [up_eq hb] at hu
  unfold relB rowB at *
  refine Reads.body (rs := [.cell 4 27, .tmp 5]) Tryz.func68 rfl Tryz.ntmps68 rfl (by simp) ?_
  generalize hQr : retQ _ _ _ = Qr
  -- block 5
  -- region 0
  refine AW.sg [2,3,4] [2,3,4] trivial ?_
  refine AW.seq fun K1 hK1 => ?_
  -- region 1
  refine AW.so 0 (fun ii => if ii = 2 then some (.reads false (.bool true)) else none) [2,3,4,9] [2,3,4] trivial ?_
  repeat with_reducible refine cj ?_ ?_
  all_goals try first | (exact h) | omega | exact ent (by kernel_rfl)
  -- cond 1
  refine AW.cn ?_ ?_
  · intro hb
    simp at hb
  · intro hb
    refine AW.skip ?_
    refine hK1 _ _ _ ?_; clear hK1
    -- region 3
    refine AW.sd mixed 0 (fun ii => if ii = 3 then some (.reads false (.agg [.int .i64 (setR n (abvF n t b)).length, .rsl 1 (words (setW (setR n (abvF n t b)) (setR n (abvF n t b)).length))])) else if ii = 4 then some (.reads false (.tup [.agg [.int .i64 (upT n t b).length, .rsl 1 (words (setW (upT n t b) (upT n t b).length))], .int .i64 ((0 : Nat) : Int)])) else none) [4,5] [4] trivial ?_
    repeat with_reducible refine cj ?_ ?_
    all_goals try first | (first | exact ha | exact hu | exact ⟨rfl, ha⟩ | exact ⟨rfl, hu⟩) | omega | exact chk (by kernel_rfl) | exact ent (by kernel_rfl)
    -- ret 2
    rw [← hQr]
    refine AW.rt trivial ?_
    exact Wk.refl _
theorem down_g (n : Nat) (t : List (List Bool)) (hs : Sq n t) (hn : n ≤ 512) (hp : poB n t = true) (b : List Bool) (hb : b.length = n) : Reads Tryz.prog 36 false [relB t, .agg (rowB b)] (.tup [.agg (rowB (upT n (invT n t) b)), .int .i64 ((0 : Nat) : Int)]) := by
  have h := pmatch_t n t hs hn hp b hb
  have hi := inverse_g n t hs hn
  have hu := up_g n (invT n t) Sq.inv hn ((poB_iff Sq.inv).2 ((poB_iff hs).1 hp).inv) b hb
  unfold relB rowB at *
  refine Reads.body (rs := [.cell 4 27, .tmp 5]) Tryz.func36 rfl Tryz.ntmps36 rfl (by simp) ?_
  generalize hQr : retQ _ _ _ = Qr
  -- block 6
  -- region 0
  refine AW.sg [2,3,4] [2,3,4] trivial ?_
  refine AW.seq fun K1 hK1 => ?_
  -- region 1
  refine AW.so 0 (fun ii => if ii = 2 then some (.reads false (.bool true)) else none) [2,3,4,11] [2,3,4] trivial ?_
  repeat with_reducible refine cj ?_ ?_
  all_goals try first | (exact h) | omega | exact ent (by kernel_rfl)
  -- cond 1
  refine AW.cn ?_ ?_
  · intro hb
    simp at hb
  · intro hb
    refine AW.skip ?_
    refine hK1 _ _ _ ?_; clear hK1
    -- region 3
    refine AW.so 0 (fun ii => if ii = 1 then some (.reads false (.tup [.agg [.rsl 2 (tabR (invT n t))], .int .i64 ((0 : Nat) : Int)])) else none) [3,4,6] [3,4,6] trivial ?_
    repeat with_reducible refine cj ?_ ?_
    all_goals try first | (exact hi) | omega | exact ent (by kernel_rfl)
    -- region 4
    refine AW.so 0 (fun ii => if ii = 2 then some (.reads false (.tup [.agg [.int .i64 (upT n (invT n t) b).length, .rsl 1 (words (setW (upT n (invT n t) b) (upT n (invT n t) b).length))], .int .i64 ((0 : Nat) : Int)])) else none) [4,5] [4] trivial ?_
    repeat with_reducible refine cj ?_ ?_
    all_goals try first | (exact hu) | omega | exact ent (by kernel_rfl)
    -- ret 2
    rw [← hQr]
    refine AW.rt trivial ?_
    exact Wk.refl _
end Go.Proofs.I

/- A set's text belongs to it alone. -/
namespace Go.Proofs.I
open Go.AM Go
theorem hexc_inj : ∀ a b : Fin 16, I.hexc a.1 = I.hexc b.1 → a = b := by decide
theorem hexc_ne : ∀ a : Fin 16, I.hexc a.1 ≠ 46 := by decide
theorem hexL_val : ∀ (k x y : Nat), x < 16 ^ (k + 1) → y < 16 ^ (k + 1) → (∀ j, j ≤ k → x / 16 ^ j % 16 = y / 16 ^ j % 16) → x = y
  | 0, x, y, hx, hy, h => by
    have := h 0 (Nat.le_refl _)
    simp at hx hy this
    omega
  | k + 1, x, y, hx, hy, h => by
    have h0 := h 0 (Nat.zero_le _)
    have ih := hexL_val k (x / 16) (y / 16) (by rw [Nat.pow_succ] at hx; omega) (by rw [Nat.pow_succ] at hy; omega) fun j hj => by
      have := h (j + 1) (by omega)
      rwa [Nat.pow_succ, Nat.mul_comm, ← Nat.div_div_eq_div_mul, ← Nat.div_div_eq_div_mul] at this
    simp at h0
    omega
theorem hexK_lt : ∀ (n x : Nat), x < 16 ^ n → x < 16 ^ (I.hexK n x + 1)
  | 0, x, h => by simp at h; subst h; simp [I.hexK]
  | n + 1, x, h => by
    unfold I.hexK
    split
    · simpa
    · have := hexK_lt n (x / 16) (by rw [Nat.pow_succ] at h; omega)
      rw [Nat.pow_succ]
      omega
theorem hexT_inj {x y : Nat} (hx : x < 18446744073709551616) (hy : y < 18446744073709551616) (h : I.hexT x = I.hexT y) : x = y := by
  unfold I.hexT at h
  have h1 := hexK_lt 17 x (Nat.lt_of_lt_of_le hx (by decide))
  have h2 := hexK_lt 17 y (Nat.lt_of_lt_of_le hy (by decide))
  have hl := congrArg List.length h
  simp only [I.hexL, List.length_map, List.length_range] at hl
  have hk : I.hexK 17 x = I.hexK 17 y := by omega
  rw [← hk] at h h2
  generalize I.hexK 17 x = k at *
  refine hexL_val k x y h1 h2 fun j hj => ?_
  have := congrArg (fun l => l[k - j]?) h
  simp only [I.hexL, List.getElem?_map, List.getElem?_range (show k - j < k + 1 by omega), Option.map_some, Option.some.injEq, show k - (k - j) = j by omega] at this
  have := hexc_inj ⟨x / 16 ^ j % 16, Nat.mod_lt _ (by decide)⟩ ⟨y / 16 ^ j % 16, Nat.mod_lt _ (by decide)⟩ this
  exact congrArg Fin.val this
theorem hexT_dot (x : Nat) : ∀ c ∈ I.hexT x, c ≠ 46 := fun c hc => by
  unfold I.hexT I.hexL at hc
  obtain ⟨j, _, rfl⟩ := List.mem_map.1 hc
  exact hexc_ne ⟨_, Nat.mod_lt _ (by decide)⟩
theorem dot_split : ∀ {a b r s : List UInt8} (_ : ∀ c ∈ a, c ≠ 46) (_ : ∀ c ∈ b, c ≠ 46), a ++ 46 :: r = b ++ 46 :: s → a = b ∧ r = s
  | [], [], r, s, _, _, h => by simp at h; exact ⟨rfl, h⟩
  | [], y :: b, r, s, _, hb, h => by simp at h; exact absurd h.1.symm (hb y (by simp))
  | x :: a, [], r, s, ha, _, h => by simp at h; exact absurd h.1 (ha x (by simp))
  | x :: a, y :: b, r, s, ha, hb, h => by
    simp only [List.cons_append, List.cons.injEq] at h
    obtain ⟨h1, h2⟩ := dot_split (fun c hc => ha c (by simp [hc])) (fun c hc => hb c (by simp [hc])) h.2
    exact ⟨by rw [h.1, h1], h2⟩
theorem textL_cons (x : Nat) (ws : List Nat) : I.textL (x :: ws) = I.hexT x ++ 46 :: I.textL ws := by simp [I.textL]
theorem textL_inj : ∀ {ws vs : List Nat} (_ : ∀ x ∈ ws, x < 18446744073709551616) (_ : ∀ x ∈ vs, x < 18446744073709551616), I.textL ws = I.textL vs → ws = vs
  | [], [], _, _, _ => rfl
  | [], y :: vs, _, _, h => by rw [textL_cons] at h; simp [I.textL] at h
  | x :: ws, [], _, _, h => by rw [textL_cons] at h; simp [I.textL] at h
  | x :: ws, y :: vs, hw, hv, h => by
    rw [textL_cons, textL_cons] at h
    obtain ⟨h1, h2⟩ := dot_split (hexT_dot x) (hexT_dot y) h
    rw [hexT_inj (hw x (by simp)) (hv y (by simp)) h1, textL_inj (fun z hz => hw z (by simp [hz])) (fun z hz => hv z (by simp [hz])) h2]
def keyB (b : List Bool) : ByteArray := ⟨(I.textL ((setW b b.length).map Int.toNat)).toArray⟩
theorem keyB_inj {a b : List Bool} (hl : b.length = a.length) (h : keyB a = keyB b) : a = b := by
  unfold keyB at h
  have h1 : I.textL ((setW a a.length).map Int.toNat) = I.textL ((setW b b.length).map Int.toNat) := by
    have := congrArg (fun z : ByteArray => z.data.toList) h
    simpa using this
  have hlt : ∀ c : List Bool, ∀ x ∈ (setW c c.length).map Int.toNat, x < 18446744073709551616 := fun c x hx => by
    obtain ⟨y, hy, rfl⟩ := List.mem_map.1 hx
    have := okW_mem (setW_ok c) hy
    omega
  have h2 := textL_inj (hlt a) (hlt b) h1
  refine row_words hl (List.ext_getElem (by have := congrArg List.length h2; simpa using this) fun i h3 h4 => ?_)
  have h5 := congrArg (fun l => l[i]?) h2
  simp only [List.getElem?_map, List.getElem?_eq_getElem h3, List.getElem?_eq_getElem h4, Option.map_some, Option.some.injEq] at h5
  have := okW_mem (setW_ok a) (List.getElem_mem h3)
  have := okW_mem (setW_ok b) (List.getElem_mem h4)
  omega
def kvS (fs : List (List Bool)) : List (ByteArray × List Bool) := fs.map fun b => (keyB b, b)
def foundT (fs : List (List Bool)) : List (List AV) := mapS (kvS fs)
theorem foundT_put {n : Nat} {b : List Bool} (hb : b.length = n) : ∀ {fs : List (List Bool)} (_ : ∀ a ∈ fs, a.length = n), mapPut (foundT fs) (.str (keyB b)) (.agg (rowB b)) = foundT (addB fs b)
  | [], _ => by simp [foundT, mapS, kvS, mapPut, addB]
  | a :: fs, h => by
    have ha := h a (by simp)
    have ih := foundT_put hb (fs := fs) fun x hx => h x (by simp [hx])
    show (if keyEq (.str (keyB b)) (.str (keyB a)) = true then _ else _) = _
    by_cases e : a = b
    · subst e
      rw [if_pos (show keyEq (.str (keyB a)) (.str (keyB a)) = true from (MapKept.bytes_beq _ _).2 rfl)]
      simp [foundT, mapS, kvS, addB]
    · have hk : keyEq (.str (keyB b)) (.str (keyB a)) = false := by
        show (keyB b == keyB a) = false
        cases hk : keyB b == keyB a
        · rfl
        · exact absurd (keyB_inj (by omega) ((MapKept.bytes_beq _ _).1 hk).symm) e
      rw [hk, if_neg (by simp)]
      have e2 : addB (a :: fs) b = a :: addB fs b := by
        unfold addB
        by_cases hm : b ∈ fs
        · rw [if_pos (by simp [hm]), if_pos hm]
        · rw [if_neg (by simp [hm]; exact fun h => e h.symm), if_neg hm]; rfl
      rw [e2]
      show _ :: _ = _ :: _
      congr 1
theorem foundT_len (fs : List (List Bool)) : (foundT fs).length = fs.length := by simp [foundT, mapS, kvS]
theorem foundT_keys (fs : List (List Bool)) : keysWf Tryz.prog 9 (foundT fs) := by
  have h9 : Tryz.prog.underlying 9 = some .string := by kernel_rfl
  intro row hr
  obtain ⟨p, _, rfl⟩ := List.mem_map.1 hr
  exact ⟨_, _, rfl, by simp [keyOk, h9]⟩
theorem kvS_snd (fs : List (List Bool)) : (kvS fs).map (·.2) = fs := by simp [kvS, Function.comp_def]
end Go.Proofs.I

namespace Go.Proofs.I
open Go.AM Go
set_option maxRecDepth 100000
set_option maxHeartbeats 4000000
theorem flt_found (fs : List (List Bool)) : (foundT fs).map (fun row => row.map flt) = foundT fs := map_flt fun row hr c hc => by
  obtain ⟨p, _, rfl⟩ := List.mem_map.1 hr
  simp only [List.mem_cons, List.not_mem_nil, or_false] at hc
  rcases hc with rfl | rfl
  · rfl
  · unfold rowB; simp [isMv, isMv1]
theorem values_u (fs : List (List Bool)) (g v : Nat) : Upd Tryz.prog 85 [(0, some ⟨g, v, mapSz, foundT fs⟩)] [.mp ⟨0, g, none⟩] (fun k => .fn 107 [.ptr ⟨1, k, none⟩ 0 0])
    (fun k => [(0, some ⟨g, k, mapSz, foundT fs⟩), (1, some ⟨k, k, 1, [[.mp ⟨0, g, none⟩]]⟩)]) := by
  refine Upd.of_body (rs := [.tmp 2]) Tryz.func85 rfl Tryz.ntmps85 rfl (by simp) ?_
  intro k0 k hk0 hk1
  generalize hQr : retQ _ _ _ = Qr
  -- block 1
  -- region 0
  refine AW.so 100 (fun _ => none) [1] [0,101] trivial ?_
  -- region 1
  refine AW.so 100 (fun _ => none) [2] [0,101] trivial ?_
  -- ret 1
  rw [← hQr]
  refine AW.rt trivial ?_
  refine ⟨[(0, 0, false), (101, 1, true)], ?_⟩
  simp only [go_sem, reduceIte, Nat.reduceEqDiff, flt_found]
  exact ⟨rfl, rfl⟩
theorem textB_r (b : List Bool) (hb : b.length ≤ 512) : Reads Tryz.prog 83 false [.agg (rowB b)] (.str (keyB b)) := by
  have h := text_r b.length (setW b b.length) (setW_ok b) (by rw [setW_len']; have := wordsN_rng (n := (b.length : Int)) (by omega); omega)
  exact h
/-- All ideals, level by level; none if there are more than 5000. -/
def levV (u : List (List Bool)) (n : Nat) : AV := if (allU u n).length ≤ 5000 then .tup [.rsl 2 (tabR (allU u n)), .bool true] else .tup [.nilsl, .bool false]
theorem sortedF_u (n : Nat) (hn : n ≤ 512) (fs : List (List Bool)) (hlen : ∀ b ∈ fs, b.length = n) (hnd : fs.Nodup) (hl : fs.length ≤ 1000000) (g0 v0 g1 v1 : Nat) :
    Upd Tryz.prog 84 [(0, some ⟨g0, v0, 1, [[.mp ⟨1, g1, none⟩]]⟩), (1, some ⟨g1, v1, mapSz, foundT fs⟩)] [.fn 107 [.ptr ⟨0, g0, none⟩ 0 0], .fn 86 []] (fun _ => .rsl 2 (tabR (sortS fs))) (fun _ => []) := by
  have h := sorted_u n hn (kvS fs) (fun p hp => by obtain ⟨b, hb, rfl⟩ := List.mem_map.1 hp; exact hlen b hb) (by rw [kvS_snd]; exact hnd) (by simpa [kvS] using hl) g0 v0 g1 v1
  rw [kvS_snd] at h
  exact h
theorem levels_r (n : Nat) (t : List (List Bool)) (hs : Sq n t) (hn : n ≤ 512) : Reads Tryz.prog 56 false [relB t] (levV (invT n t) n) := by
  have hbel := below_r n t hs hn
  have hu : Sq n (invT n t) := Sq.inv
  have hul := hu.len
  have htl := tabR_len t
  have htn := hs.len
  have h0 := (ofRow_r n [] hn (by simp) (by simp)).wk (args := [.int .i64 n, .nilsl]) (.cons (Wk.refl _) (.cons (Wk.nil 1) .nil)) (Wk.refl _)
  rw [rowL_nil] at h0
  have hur : ∀ i, i < n → ((invT n t).getD i []).length = n := fun i hi => hu.rowLen hi
  generalize invT n t = u at *
  have hlL := lvlK_len u n
  unfold relB at *
  unfold rowB at h0
  rw [List.length_replicate] at h0
  refine Reads.body (rs := [.tmp 2, .tmp 3]) Tryz.func56 rfl Tryz.ntmps56 rfl (by simp) ?_
  generalize hQr : retQ _ _ _ = Qr
  -- block 2
  -- region 0
  refine AW.sg [1] [1] trivial ?_
  -- region 1
  refine AW.so 0 (fun ii => if ii = 1 then some (.reads false (.rsl 2 (tabR u))) else none) [1,4] [1] trivial ?_
  repeat with_reducible refine cj ?_ ?_
  all_goals try first | (exact hbel) | omega | exact ent (by kernel_rfl)
  -- region 2
  refine AW.so 0 (fun ii => if ii = 3 then some (.reads true (.tup [.agg [.int .i64 n, .rsl 1 (words (setW (List.replicate n false) n))], .int .i64 ((0 : Nat) : Int)])) else none) [4,5] [5] (e2 @htl @htn) ?_
  repeat with_reducible refine cj ?_ ?_
  all_goals try first | (exact h0) | omega | exact ent (by kernel_rfl)
  -- region 3
  refine AW.sg [4,7] [26] trivial ?_
  -- region 4
  refine AW.sg [4,7,8] [26] trivial ?_
  refine AW.seq fun K1 hK1 => ?_
  refine AW.block ?_
  refine AW.nilOwn 8 200 2 (by simp only [go_sem, reduceIte, Nat.reduceEqDiff]) ?_
  refine AW.freezeK [26] [7] [4, 7, 8] [200] ?_
  simp only [go_sem, reduceIte, Nat.reduceEqDiff]
  refine AW.keep [4, 7, 8] [200] ?_
  simp only [go_sem, reduceIte, Nat.reduceEqDiff]
  -- loop 1
  refine AW.loopE (fun mm ee ss kk => ∃ (k g v : Nat), n + 1 - k = mm ∧ ee = [(4, .rsl 2 (tabR u)), (7, .rsl 2 (tabR (lvlK u n k))), (8, .sl ⟨200, g, none⟩ 0 (outK u n k).length none)] ∧ ss = [(200, some ⟨g, v, 2, tabR (outK u n k)⟩)] ∧ ((outK u n (k + 1)).length ≤ 5000)) ?_ ?_
  -- init 1
  · refine ⟨_, 0, ?_, ?_, rfl, ?henv, ?hstore, ?hst⟩
    case henv =>
      repeat' (first | rfl | refine env_cons ?_ ?_ | refine st_cons ?_ ?_ ?_ ?_ | refine int_eq ?_ | refine bool_eq ?_ | refine rsl_eq ?_ | refine osl_eq ?_ | refine sl_eq ?_ ?_ ?_ | refine ptr_eq ?_ ?_ ?_ | refine agg_eq ?_ | refine es_cons ?_ ?_ | refine row_cons ?_ ?_)
      all_goals (first | (simp [lvlK, tabR, rowB, outK]; done) | skip)
    case hstore =>
      repeat' (first | rfl | refine env_cons ?_ ?_ | refine st_cons ?_ ?_ ?_ ?_ | refine int_eq ?_ | refine bool_eq ?_ | refine rsl_eq ?_ | refine osl_eq ?_ | refine sl_eq ?_ ?_ ?_ | refine ptr_eq ?_ ?_ ?_ | refine agg_eq ?_ | refine es_cons ?_ ?_ | refine row_cons ?_ ?_)
      all_goals (first | (simp; done) | omega | (simp; omega))
    case hst =>
      simp [outK, lvlK]
  rintro mm ee ss kk ⟨k, g, v, rfl, rfl, rfl, hI⟩
  generalize hQl1 : thenQ _ _ = Ql1
  have hLl := tabR_len (lvlK u n k)
  have hok := outK_succ u n k
  have hkl := congrArg List.length hok
  rw [List.length_append] at hkl
  have hOl := tabR_len (outK u n k)
  have htk : (tabR (outK u n k)).take (outK u n k).length = tabR (outK u n k) := List.take_of_length_le (by rw [hOl]; exact Nat.le_refl _)
  have hap : tabR (outK u n k) ++ tabR (lvlK u n k) = tabR (outK u n (k + 1)) := by rw [hok]; simp [tabR]
  refine AW.seq fun K2 hK2 => ?_
  -- region 5
  refine AW.sg [4,7,8,29] [200] (@hLl) ?_
  -- cond 1
  refine AW.cn ?_ ?_
  · intro hb
    obtain ⟨b0, hb0⟩ := List.exists_mem_of_length_pos (l := lvlK u n k) (by omega)
    have hkn : k ≤ n := lvlK_le hb0
    have hge := allU_ge u n (k + 2)
    rw [outK_succ, List.length_append] at hge
    have hO1 := tabR_len (outK u n (k + 1))
    refine AW.skip ?_
    refine hK2 _ _ _ ?_; clear hK2
    refine AW.block ?_
    -- region 6
    refine AW.sg [4,7,8] [200] (e3 @htk @hap @hLl) ?_
    repeat with_reducible refine cj ?_ ?_
    all_goals try first | (exact scP_tabS _) | omega | (simp [scP, scalar]; done) | exact scP_words _ | exact scP_ints _ | exact scP_bools _
    -- region 7
    refine AW.sg [4,7,8,9] [33,200] trivial ?_
    refine AW.seq fun K3 hK3 => ?_
    -- region 8
    refine AW.sg [4,8,9,34,35,36] [33,200] (@hLl) ?_
    refine AW.block ?_
    -- loop 2
    refine AW.loopE (fun mm ee ss kk => ∃ (i g v m mv : Nat), (lvlK u n k).length - i = mm ∧ ee = [(4, .rsl 2 (tabR u)), (8, .sl ⟨200, g, none⟩ 0 (outK u n (k + 1)).length none), (9, .mp ⟨33, m, none⟩), (34, .rsl 2 (tabR (lvlK u n k))), (35, .int .i64 (lvlK u n k).length), (36, .int .i64 (i : Nat))] ∧ ss = [(33, some ⟨m, mv, mapSz, foundT (fnd u (lvlK u n k) i)⟩), (200, some ⟨g, v, 2, tabR (outK u n (k + 1))⟩)] ∧ (i ≤ (lvlK u n k).length ∧ (outK u n (k + 1)).length + (fnd u (lvlK u n k) i).length ≤ 5000)) ?_ ?_
    -- init 2
    · refine ⟨_, 0, ?_, ?_, ?_, ?_, rfl, ?henv, ?hstore, ?hst⟩
      case henv =>
        repeat' (first | rfl | refine env_cons ?_ ?_ | refine st_cons ?_ ?_ ?_ ?_ | refine int_eq ?_ | refine bool_eq ?_ | refine rsl_eq ?_ | refine osl_eq ?_ | refine sl_eq ?_ ?_ ?_ | refine ptr_eq ?_ ?_ ?_ | refine agg_eq ?_ | refine es_cons ?_ ?_ | refine row_cons ?_ ?_)
        all_goals (first | omega | (simp; omega))
      case hstore =>
        repeat' (first | rfl | refine env_cons ?_ ?_ | refine st_cons ?_ ?_ ?_ ?_ | refine int_eq ?_ | refine bool_eq ?_ | refine rsl_eq ?_ | refine osl_eq ?_ | refine sl_eq ?_ ?_ ?_ | refine ptr_eq ?_ ?_ ?_ | refine agg_eq ?_ | refine es_cons ?_ ?_ | refine row_cons ?_ ?_)
        all_goals (first | (simp; done) | omega | (simp; omega))
      case hst =>
        refine ⟨Nat.zero_le _, ?_⟩; simp [fnd, dedF]; exact hI
    rintro mm ee ss kk ⟨i, g, v, m, mv, rfl, rfl, rfl, hI⟩
    generalize hQl2 : thenQ _ _ = Ql2
    -- region 9
    refine AW.sg [4,8,9,34,35,36,37] [33,200] trivial ?_
    refine AW.seq fun K4 hK4 => ?_
    -- cond 2
    refine AW.cn ?_ ?_
    · intro hb
      obtain ⟨b, hbi⟩ : ∃ b, (lvlK u n k)[i]? = some b := ⟨_, List.getElem?_eq_getElem (by omega)⟩
      have hbn : b.length = n := lvlK_len u n k b (List.mem_of_getElem? hbi)
      have hgi : (tabR (lvlK u n k)).getD i [] = rowB b := by rw [tabR_get (by omega)]; show rowB ((lvlK u n k).getD i []) = _; rw [List.getD_eq_getElem?_getD, hbi]; rfl
      have hnx := next_r u b (by omega) (by omega) (by rw [hbn]; exact hur)
      have hil : i < (lvlK u n k).length := by omega
      unfold rowB at *
      refine AW.skip ?_
      refine hK4 _ _ _ ?_; clear hK4
      refine AW.seq fun K5 hK5 => ?_
      refine AW.block ?_
      -- region 10
      refine AW.sg [4,8,9,11,34,35,36] [11,33,200] (e2 @hgi @hLl) ?_
      -- region 11
      refine AW.so 0 (fun ii => if ii = 2 then some (.reads false (.rsl 1 (ints (nats (nextU u b b.length))))) else none) [4,8,9,11,34,35,36,42,43,44] [11,33,200] (e2 @nats_len @ints_len) ?_
      repeat with_reducible refine cj ?_ ?_
      all_goals try first | (exact hnx) | omega | exact ent (by kernel_rfl)
      refine AW.block ?_
      -- loop 3
      refine AW.loopE (fun mm ee ss kk => ∃ (j g v m mv p pv : Nat), (nextU u b b.length).length - j = mm ∧ ee = [(4, .rsl 2 (tabR u)), (8, .sl ⟨200, g, none⟩ 0 (outK u n (k + 1)).length none), (9, .mp ⟨33, m, none⟩), (11, .ptr ⟨11, p, none⟩ 0 0), (34, .rsl 2 (tabR (lvlK u n k))), (35, .int .i64 (lvlK u n k).length), (36, .int .i64 (i : Nat)), (42, .rsl 1 (ints (nats (nextU u b b.length)))), (43, .int .i64 (nextU u b b.length).length), (44, .int .i64 (j : Nat))] ∧ ss = [(11, some ⟨p, pv, 2, [[.int .i64 b.length, .rsl 1 (words (setW b b.length))]]⟩), (33, some ⟨m, mv, mapSz, foundT (fnd2 u (lvlK u n k) i j b)⟩), (200, some ⟨g, v, 2, tabR (outK u n (k + 1))⟩)] ∧ (j ≤ (nextU u b b.length).length ∧ (outK u n (k + 1)).length + (fnd2 u (lvlK u n k) i j b).length ≤ 5000)) ?_ ?_
      -- init 3
      · refine ⟨_, 0, ?_, ?_, ?_, ?_, ?_, ?_, rfl, ?henv, ?hstore, ?hst⟩
        case henv =>
          repeat' (first | rfl | refine env_cons ?_ ?_ | refine st_cons ?_ ?_ ?_ ?_ | refine int_eq ?_ | refine bool_eq ?_ | refine rsl_eq ?_ | refine osl_eq ?_ | refine sl_eq ?_ ?_ ?_ | refine ptr_eq ?_ ?_ ?_ | refine agg_eq ?_ | refine es_cons ?_ ?_ | refine row_cons ?_ ?_)
          all_goals (first | (simp; done) | omega | (simp; omega))
        case hstore =>
          repeat' (first | rfl | refine env_cons ?_ ?_ | refine st_cons ?_ ?_ ?_ ?_ | refine int_eq ?_ | refine bool_eq ?_ | refine rsl_eq ?_ | refine osl_eq ?_ | refine sl_eq ?_ ?_ ?_ | refine ptr_eq ?_ ?_ ?_ | refine agg_eq ?_ | refine es_cons ?_ ?_ | refine row_cons ?_ ?_)
          all_goals (rw [fnd2_zero])
        case hst =>
          refine ⟨Nat.zero_le _, ?_⟩; rw [fnd2_zero]; exact hI.2
      rintro mm ee ss kk ⟨j, g, v, m, mv, p, pv, rfl, rfl, rfl, hI⟩
      generalize hQl3 : thenQ _ _ = Ql3
      -- region 12
      refine AW.sg [4,8,9,11,34,35,36,42,43,44,45] [11,33,200] trivial ?_
      refine AW.seq fun K6 hK6 => ?_
      -- cond 3
      refine AW.cn ?_ ?_
      · intro hb
        obtain ⟨e, hej⟩ : ∃ e, (nextU u b b.length)[j]? = some e := ⟨_, List.getElem?_eq_getElem (by omega)⟩
        have hel : e < b.length := nextU_lt (List.mem_of_getElem? hej)
        have hgj : (ints (nats (nextU u b b.length))).getD j [] = [.int .i64 (e : Nat)] := by simp [ints, nats, List.getD_eq_getElem?_getD, hej]
        have hw := with_r b (by omega) e hel
        have hcl : (b.set e true).length = n := by rw [List.length_set]; exact hbn
        have hfl := fnd2_len (u := u) (lvlK_len u n k) i j hbn
        have hput := foundT_put hcl hfl
        have hkw := foundT_keys (fnd2 u (lvlK u n k) i j b)
        have hte := textB_r (b.set e true) (by omega)
        have hs2 : fnd2 u (lvlK u n k) i (j + 1) b = addB (fnd2 u (lvlK u n k) i j b) (b.set e true) := fnd2_succ (by unfold kids; rw [List.getElem?_map, hej]; rfl)
        have hle2 := fnd2_le (u := u) (n := n) (k := k) (j := j + 1) hbi
        rw [hs2] at hle2
        have hadl := addB_len (fnd2 u (lvlK u n k) i j b) (b.set e true)
        have hnl := nextU_le u b b.length
        have hfl2 := foundT_len (addB (fnd2 u (lvlK u n k) i j b) (b.set e true))
        rw [show (b.set e true).length = b.length from List.length_set] at *
        unfold rowB at *
        rw [show (b.set e true).length = b.length from List.length_set] at *
        refine AW.skip ?_
        refine hK6 _ _ _ ?_; clear hK6
        refine AW.seq fun K7 hK7 => ?_
        refine AW.block ?_
        -- region 13
        refine AW.sg [4,8,9,11,13,34,35,36,42,43,44] [11,33,200] (e3 @hgj @ints_len @nats_len) ?_
        -- region 14
        refine AW.so 0 (fun ii => if ii = 2 then some (.reads true (.tup [.agg [.int .i64 b.length, .rsl 1 (words (setW (b.set e true) b.length))], .int .i64 ((0 : Nat) : Int)])) else none) [4,8,9,11,14,34,35,36,42,43,44] [11,14,33,200] trivial ?_
        repeat with_reducible refine cj ?_ ?_
        all_goals try first | (exact hw) | omega | exact ent (by kernel_rfl)
        -- region 15
        refine AW.sd mixed 0 (fun ii => if ii = 2 then some (.reads false (.str (keyB (b.set e true)))) else none) [4,8,9,11,34,35,36,42,43,44] [11,33,200] (@hput) ?_
        repeat with_reducible refine cj ?_ ?_
        all_goals try first | (first | exact hte | exact hkw) | omega | exact chk (by kernel_rfl) | exact ent (by kernel_rfl)
        -- region 16
        refine AW.sg [4,8,9,11,34,35,36,42,43,44,63] [11,33,200] (@hfl2) ?_
        -- cond 4
        refine AW.cn ?_ ?_
        · intro hb
          -- region 17
          refine AW.sg [2,3] [] trivial ?_
          -- ret 1
          rw [← hQl3, ← hQl2, ← hQl1, ← hQr]
          refine AW.rt trivial ?_
          unfold levV
          rw [if_neg (by omega)]
          exact Wk.refl _
        · intro hb
          refine AW.skip ?_
          refine hK7 _ _ _ ?_; clear hK7
          -- region 18
          refine AW.rg [4,8,9,11,34,35,36,42,43,44] [11,33,200] trivial ?_
          -- again 3
          rw [← hQl3]; change Exists _
          refine ⟨_, ?hm, j + 1, ?_, ?_, ?_, ?_, ?_, ?_, rfl, ?henv, ?hstore, ?hst⟩
          case henv =>
            repeat' (first | rfl | refine env_cons ?_ ?_ | refine st_cons ?_ ?_ ?_ ?_ | refine int_eq ?_ | refine bool_eq ?_ | refine rsl_eq ?_ | refine osl_eq ?_ | refine sl_eq ?_ ?_ ?_ | refine ptr_eq ?_ ?_ ?_ | refine agg_eq ?_ | refine es_cons ?_ ?_ | refine row_cons ?_ ?_)
            all_goals (try simp)
          case hstore =>
            repeat' (first | rfl | refine env_cons ?_ ?_ | refine st_cons ?_ ?_ ?_ ?_ | refine int_eq ?_ | refine bool_eq ?_ | refine rsl_eq ?_ | refine osl_eq ?_ | refine sl_eq ?_ ?_ ?_ | refine ptr_eq ?_ ?_ ?_ | refine agg_eq ?_ | refine es_cons ?_ ?_ | refine row_cons ?_ ?_)
            all_goals (rw [hs2])
          case hst =>
            refine ⟨by omega, ?_⟩; rw [hs2]; omega
          case hm => omega
      · intro hb
        have hj : (kids u b).length ≤ j := by unfold kids; rw [List.length_map]; omega
        have hend := fnd2_end (u := u) hbi hj
        have hI3 := hI.2
        rw [hend] at hI3 ⊢
        -- exit 4
        refine AW.kx [4,8,9,34,35,36] [33,200] ?_
        rw [← hQl3]
        refine hK5 _ _ _ ?_; clear hK5
        -- region 19
        refine AW.rg [4,8,9,34,35,36] [33,200] trivial ?_
        -- again 2
        rw [← hQl2]; change Exists _
        exact ⟨_, eO, i + 1, _, _, _, _, rfl, eD, eD, eT⟩
    · intro hb
      have hi : i = (lvlK u n k).length := by omega
      subst hi
      have hfn := fnd_nodup u (lvlK u n k) (lvlK u n k).length
      have hfl := fnd_len (u := u) (lvlK_len u n k) (lvlK u n k).length
      have hsu := sortedF_u n hn _ hfl hfn (by omega)
      -- exit 2
      refine AW.kx [4,8,9] [33,200] ?_
      rw [← hQl2]
      refine hK3 _ _ _ ?_; clear hK3
      -- region 20
      refine AW.ro 0 (fun ii => if ii = 1 then some (.upd [33] (fun kk => [(0, some ⟨m, kk, mapSz, foundT (fnd u (lvlK u n k) (lvlK u n k).length)⟩), (1, some ⟨kk, kk, 1, [[.mp ⟨0, m, none⟩]]⟩)]) (fun kk => .fn 107 [.ptr ⟨1, kk, none⟩ 0 0])) else if ii = 2 then some (.upd [67, 33] (fun _ => []) (fun _ => .rsl 2 (tabR (sortS (fnd u (lvlK u n k) (lvlK u n k).length))))) else none) [4,7,8] [200] (@flt_found) ?_
      repeat with_reducible refine cj ?_ ?_
      all_goals try first | (first | exact values_u _ _ _ | exact hsu _ _ _ _) | omega | exact ent (by kernel_rfl)
      -- again 1
      rw [← hQl1]; change Exists _
      refine ⟨_, eO, k + 1, _, _, rfl, eD, eD, ?_⟩
      show (outK u n (k + 2)).length ≤ 5000; rw [outK_succ, List.length_append]; show _ + (lvlN u (lvlK u n k)).length ≤ _; rw [lvlN_length (lvlK_len u n k)]; omega
  · intro hb
    -- exit 0
    refine AW.kx [8] [200] ?_
    rw [← hQl1]
    refine hK1 _ _ _ ?_; clear hK1
    -- region 21
    refine AW.sg [2,3] [200] trivial ?_
    -- ret 2
    rw [← hQr]
    refine AW.rt trivial ?_
    have hnil : lvlK u n k = [] := List.eq_nil_of_length_eq_zero (by omega)
    have hall := allU_stop hnil
    unfold levV
    rw [if_pos (by rw [← hall]; omega), ← hall]
    exact Wk.of_eq (by simp only [go_sem, reduceIte, Nat.reduceEqDiff, htk, vwc_tabR])
end Go.Proofs.I

namespace Go.Proofs.I
open Go.AM Go
set_option maxRecDepth 100000
set_option maxHeartbeats 4000000
theorem setW_eqB {a b : List Bool} (hl : b.length = a.length) : (setW a a.length == setW b b.length) = decide (a = b) := by
  rw [Bool.eq_iff_iff, beq_iff_eq, decide_eq_true_eq]
  exact ⟨fun h => row_words hl h, fun h => by rw [h]⟩
theorem upT_len (n : Nat) (t : List (List Bool)) (b : List Bool) : (upT n t b).length = n := setR_len ..
theorem is_g (n : Nat) (t : List (List Bool)) (hs : Sq n t) (hn : n ≤ 512) (hp : poB n t = true) (b : List Bool) (hb : b.length = n) : Reads Tryz.prog 13 false [relB t, .agg (rowB b)] (.bool (idB n t b)) := by
  have h := down_g n t hs hn hp b hb
  have hul := upT_len n (invT n t) b
  have he := eqw_r (setW (upT n (invT n t) b) n) (setW b n) (by have := setB_len (b := upT n (invT n t) b) (by omega); rw [hul] at this; omega)
  have hq : (setW (upT n (invT n t) b) n == setW b n) = idB n t b := by
    have := setW_eqB (a := upT n (invT n t) b) (b := b) (by omega)
    rw [hul, hb] at this
    exact this
  rw [hq] at he
  unfold relB rowB at *
  rw [hul] at h
  rw [hb] at *
  generalize upT n (invT n t) b = u at *
  refine Reads.body (rs := [.tmp 4]) Tryz.func13 rfl Tryz.ntmps13 rfl (by simp) ?_
  generalize hQr : retQ _ _ _ = Qr
  -- block 1
  -- region 0
  refine AW.sg [2,3] [2,3] trivial ?_
  -- region 1
  refine AW.so 0 (fun ii => if ii = 2 then some (.reads false (.tup [.agg [.int .i64 n, .rsl 1 (words (setW u n))], .int .i64 ((0 : Nat) : Int)])) else none) [3,5,6] [3,5] trivial ?_
  repeat with_reducible refine cj ?_ ?_
  all_goals try first | (exact h) | omega | exact ent (by kernel_rfl)
  -- region 2
  refine AW.so 0 (fun ii => if ii = 7 then some (.reads false (.bool (idB n t b))) else none) [4] [] trivial ?_
  repeat with_reducible refine cj ?_ ?_
  all_goals try first | (first | exact he | exact ⟨rfl, he⟩ | (intro hh; exact ⟨hh, he⟩)) | (intros; (repeat' apply And.intro) <;> first | assumption | (first | exact he | exact ⟨rfl, he⟩ | (intro hh; exact ⟨hh, he⟩))) | omega | exact ent (by kernel_rfl) | (intro hgd; exact absurd hgd (by decide)) | rfl | exact gD | (intro _hgd; simp_all [go_sem]; done)
  -- ret 1
  rw [← hQr]
  refine AW.rt trivial ?_
  exact Wk.refl _
theorem list_ok (n : Nat) (t : List (List Bool)) (hs : Sq n t) (hn : n ≤ 512) (hp : poB n t = true) (hb : (allU (invT n t) n).length ≤ 5000) : Reads Tryz.prog 18 false [relB t] (.tup [.rsl 2 (tabR (allU (invT n t) n)), .int .i64 ((0 : Nat) : Int)]) := by
  have h := pvalid_g n t hs hn
  have hl := levels_r n t hs hn
  rw [hp] at h
  unfold levV at hl
  rw [if_pos hb] at hl
  unfold relB at *
  refine Reads.body (rs := [.tmp 2, .tmp 3]) Tryz.func18 rfl Tryz.ntmps18 rfl (by simp) ?_
  generalize hQr : retQ _ _ _ = Qr
  -- block 3
  -- region 0
  refine AW.sg [1] [1] trivial ?_
  refine AW.seq fun K1 hK1 => ?_
  -- region 1
  refine AW.so 0 (fun ii => if ii = 1 then some (.reads false (.bool true)) else none) [1,8] [1] trivial ?_
  repeat with_reducible refine cj ?_ ?_
  all_goals try first | (exact h) | omega | exact ent (by kernel_rfl)
  -- cond 1
  refine AW.cn ?_ ?_
  · intro hb
    simp at hb
  · intro hb
    refine AW.skip ?_
    refine hK1 _ _ _ ?_; clear hK1
    -- region 3
    refine AW.so 0 (fun ii => if ii = 1 then some (.reads false (.tup [.rsl 2 (tabR (allU (invT n t) n)), .bool true])) else none) [4,5] [] trivial ?_
    repeat with_reducible refine cj ?_ ?_
    all_goals try first | (exact hl) | omega | exact ent (by kernel_rfl)
    refine AW.seq fun K2 hK2 => ?_
    -- region 4
    refine AW.sg [4,15] [] trivial ?_
    -- cond 2
    refine AW.cn ?_ ?_
    · intro hb
      simp at hb
    · intro hb
      refine AW.skip ?_
      refine hK2 _ _ _ ?_; clear hK2
      -- region 6
      refine AW.sg [2,3] [] trivial ?_
      -- ret 3
      rw [← hQr]
      refine AW.rt trivial ?_
      exact Wk.refl _
theorem list_big (n : Nat) (t : List (List Bool)) (hs : Sq n t) (hn : n ≤ 512) (hp : poB n t = true) (hb : ¬ (allU (invT n t) n).length ≤ 5000) : Reads Tryz.prog 18 false [relB t] (.tup [.nilsl, .int .i64 ((16 : Nat) : Int)]) := by
  have h := pvalid_g n t hs hn
  have hl := levels_r n t hs hn
  rw [hp] at h
  unfold levV at hl
  rw [if_neg hb] at hl
  unfold relB at *
  refine Reads.body (rs := [.tmp 2, .tmp 3]) Tryz.func18 rfl Tryz.ntmps18 rfl (by simp) ?_
  generalize hQr : retQ _ _ _ = Qr
  -- block 4
  -- region 0
  refine AW.sg [1] [1] trivial ?_
  refine AW.seq fun K1 hK1 => ?_
  -- region 1
  refine AW.so 0 (fun ii => if ii = 1 then some (.reads false (.bool true)) else none) [1,8] [1] trivial ?_
  repeat with_reducible refine cj ?_ ?_
  all_goals try first | (exact h) | omega | exact ent (by kernel_rfl)
  -- cond 1
  refine AW.cn ?_ ?_
  · intro hb
    simp at hb
  · intro hb
    refine AW.skip ?_
    refine hK1 _ _ _ ?_; clear hK1
    -- region 3
    refine AW.so 0 (fun ii => if ii = 1 then some (.reads false (.tup [.nilsl, .bool false])) else none) [4,5] [] trivial ?_
    repeat with_reducible refine cj ?_ ?_
    all_goals try first | (exact hl) | omega | exact ent (by kernel_rfl)
    refine AW.seq fun K2 hK2 => ?_
    -- region 4
    refine AW.sg [4,15] [] trivial ?_
    -- cond 2
    refine AW.cn ?_ ?_
    · intro hb
      -- region 5
      refine AW.sg [2,3] [] trivial ?_
      -- ret 2
      rw [← hQr]
      refine AW.rt trivial ?_
      exact Wk.refl _
    · intro hb
      simp at hb
theorem list_e (es : List (List AV)) (h : Reads Tryz.prog 55 false [.agg [.rsl 2 es]] (.bool false)) : Reads Tryz.prog 18 false [.agg [.rsl 2 es]] (.tup [.nilsl, .int .i64 ((1 : Nat) : Int)]) := by
  refine Reads.body (rs := [.tmp 2, .tmp 3]) Tryz.func18 rfl Tryz.ntmps18 rfl (by simp) ?_
  generalize hQr : retQ _ _ _ = Qr
  -- block 5
  -- region 0
  refine AW.sg [1] [1] trivial ?_
  refine AW.seq fun K1 hK1 => ?_
  -- region 1
  refine AW.so 0 (fun ii => if ii = 1 then some (.reads false (.bool false)) else none) [1,8] [1] trivial ?_
  repeat with_reducible refine cj ?_ ?_
  all_goals try first | (exact h) | omega | exact ent (by kernel_rfl)
  -- cond 1
  refine AW.cn ?_ ?_
  · intro hb
    -- region 2
    refine AW.sg [2,3] [] trivial ?_
    -- ret 1
    rw [← hQr]
    refine AW.rt trivial ?_
    exact Wk.refl _
  · intro hb
    simp at hb
theorem countI_ok (es : List (List AV)) (L : List (List Bool)) (e : Int) (h : Reads Tryz.prog 18 false [.agg [.rsl 2 es]] (.tup [.rsl 2 (tabR L), .int .i64 e])) : Reads Tryz.prog 17 false [.agg [.rsl 2 es]] (.tup [.int .i64 L.length, .int .i64 e]) := by
  have hl := tabR_len L
  refine Reads.body (rs := [.tmp 2, .tmp 3]) Tryz.func17 rfl Tryz.ntmps17 rfl (by simp) ?_
  generalize hQr : retQ _ _ _ = Qr
  -- block 6
  -- region 0
  refine AW.sg [1] [1] trivial ?_
  -- region 1
  refine AW.so 0 (fun ii => if ii = 1 then some (.reads false (.tup [.rsl 2 (tabR L), .int .i64 e])) else none) [4,5] [] trivial ?_
  repeat with_reducible refine cj ?_ ?_
  all_goals try first | (exact h) | omega | exact ent (by kernel_rfl)
  -- region 2
  refine AW.sg [2,3] [] (@hl) ?_
  -- ret 1
  rw [← hQr]
  refine AW.rt trivial ?_
  exact Wk.refl _
theorem countI_nil (es : List (List AV)) (e : Int) (h : Reads Tryz.prog 18 false [.agg [.rsl 2 es]] (.tup [.nilsl, .int .i64 e])) : Reads Tryz.prog 17 false [.agg [.rsl 2 es]] (.tup [.int .i64 0, .int .i64 e]) := by
  refine Reads.body (rs := [.tmp 2, .tmp 3]) Tryz.func17 rfl Tryz.ntmps17 rfl (by simp) ?_
  generalize hQr : retQ _ _ _ = Qr
  -- block 7
  -- region 0
  refine AW.sg [1] [1] trivial ?_
  -- region 1
  refine AW.so 0 (fun ii => if ii = 1 then some (.reads false (.tup [.nilsl, .int .i64 e])) else none) [4,5] [] trivial ?_
  repeat with_reducible refine cj ?_ ?_
  all_goals try first | (exact h) | omega | exact ent (by kernel_rfl)
  -- region 2
  refine AW.sg [2,3] [] trivial ?_
  -- ret 1
  rw [← hQr]
  refine AW.rt trivial ?_
  exact Wk.refl _
theorem nextI_g (n : Nat) (t : List (List Bool)) (hs : Sq n t) (hn : n ≤ 512) (hp : poB n t = true) (b : List Bool) (hb : b.length = n) (hi : idB n t b = true) : Reads Tryz.prog 30 false [relB t, .agg (rowB b)] (.tup [.rsl 1 (ints (nats (nextU (invT n t) b n))), .int .i64 ((0 : Nat) : Int)]) := by
  have h := is_g n t hs hn hp b hb
  rw [hi] at h
  have hu : Sq n (invT n t) := Sq.inv
  have hul := hu.len
  have hbl := below_r n t hs hn
  have hx := next_r (invT n t) b (by omega) (by omega) (by rw [hb]; exact fun i hi => hu.rowLen hi)
  unfold relB rowB at *
  rw [hb] at *
  refine Reads.body (rs := [.tmp 4, .tmp 5]) Tryz.func30 rfl Tryz.ntmps30 rfl (by simp) ?_
  generalize hQr : retQ _ _ _ = Qr
  -- block 9
  -- region 0
  refine AW.sg [2,3] [2,3] trivial ?_
  refine AW.seq fun K1 hK1 => ?_
  -- region 1
  refine AW.so 0 (fun ii => if ii = 2 then some (.reads false (.bool true)) else none) [2,3,9] [2,3] trivial ?_
  repeat with_reducible refine cj ?_ ?_
  all_goals try first | (exact h) | omega | exact ent (by kernel_rfl)
  -- cond 1
  refine AW.cn ?_ ?_
  · intro hb
    simp at hb
  · intro hb
    refine AW.skip ?_
    refine hK1 _ _ _ ?_; clear hK1
    -- region 3
    refine AW.sd mixed 0 (fun ii => if ii = 1 then some (.reads false (.rsl 2 (tabR (invT n t)))) else if ii = 3 then some (.reads false (.rsl 1 (ints (nats (nextU (invT n t) b n))))) else none) [4,5] [] trivial ?_
    repeat with_reducible refine cj ?_ ?_
    all_goals try first | (first | exact hbl | exact hx) | omega | exact chk (by kernel_rfl) | exact ent (by kernel_rfl)
    -- ret 2
    rw [← hQr]
    refine AW.rt trivial ?_
    exact Wk.refl _
theorem frontier_g (n : Nat) (t : List (List Bool)) (hs : Sq n t) (hn : n ≤ 512) (hp : poB n t = true) (b : List Bool) (hbn : b.length = n) (hi : idB n t b = true) : Reads Tryz.prog 32 false [relB t, .agg (rowB b)] (.tup [.agg (rowB (frB n t b)), .int .i64 ((0 : Nat) : Int)]) := by
  have h := is_g n t hs hn hp b hbn
  rw [hi] at h
  have hm := members_b b (by omega)
  have hmm : ∀ j, j ∈ memB b → j < n := fun j hj => by have := (memB_mem.1 hj).1; omega
  have hml := memB_le b
  have hgr := fun i hi => tabR_get (t := t) (i := i) hi
  have hlen := hs.len
  have htl := tabR_len t
  have hof := ofRow_r n (nats (frN t b)) hn (by rw [nats_len]; have := List.length_filter_le (frP t b) (memB b); unfold frN; omega) (fun i hi => by
    obtain ⟨a, h1, rfl⟩ := List.mem_map.1 hi
    have := frN_lt h1
    omega)
  rw [show rowL n (nats (frN t b)) = frB n t b from rfl] at hof
  have hrow : ∀ i, i < n → (rowT t i).length = n := fun i hi => hs.rowLen hi
  have hin := fun i (hi : i < n) => inter_r (rowT t i) b (by rw [hrow i hi]; exact hn) (by rw [hrow i hi, hbn])
  have hct := fun i (hi : i < n) => count_b (List.zipWith (· && ·) (rowT t i) b) (by rw [List.length_zipWith, hrow i hi]; omega)
  have hzl : ∀ i, i < n → (List.zipWith (· && ·) (rowT t i) b).length = n := fun i hi => by rw [List.length_zipWith, hrow i hi, hbn, Nat.min_self]
  have hfe : frN t b = (memB b).filter (frP t b) := rfl
  generalize hM : memB b = M at *
  unfold relB rowB at *
  rw [hbn] at *
  refine Reads.body (rs := [.cell 4 27, .tmp 5]) Tryz.func32 rfl Tryz.ntmps32 rfl (by simp) ?_
  generalize hQr : retQ _ _ _ = Qr
  -- block 11
  -- region 0
  refine AW.sg [2,3,4] [2,3,4] trivial ?_
  refine AW.seq fun K1 hK1 => ?_
  -- region 1
  refine AW.so 0 (fun ii => if ii = 2 then some (.reads false (.bool true)) else none) [2,3,4,16] [2,3,4] trivial ?_
  repeat with_reducible refine cj ?_ ?_
  all_goals try first | (exact h) | omega | exact ent (by kernel_rfl)
  -- cond 1
  refine AW.cn ?_ ?_
  · intro hb
    simp at hb
  · intro hb
    refine AW.skip ?_
    refine hK1 _ _ _ ?_; clear hK1
    -- region 3
    refine AW.so 0 (fun ii => if ii = 1 then some (.reads false (.tup [.rsl 1 (ints (nats M)), .int .i64 ((0 : Nat) : Int)])) else none) [2,3,4,6] [2,3,4] trivial ?_
    repeat with_reducible refine cj ?_ ?_
    all_goals try first | (exact hm) | omega | exact ent (by kernel_rfl)
    -- region 4
    refine AW.sg [2,3,4,6,8] [2,3,4] trivial ?_
    refine AW.seq fun K2 hK2 => ?_
    -- region 5
    refine AW.sg [2,3,4,8,23,24,25] [2,3,4] (e2 @nats_len @ints_len) ?_
    refine AW.block ?_
    refine AW.nilOwn 8 200 1 (by simp only [go_sem, reduceIte, Nat.reduceEqDiff]) ?_
    refine AW.keep [2, 3, 4, 8, 23, 24, 25] [2, 3, 4, 200] ?_
    simp only [go_sem, reduceIte, Nat.reduceEqDiff]
    -- loop 1
    refine AW.loopE (fun mm ee ss kk => ∃ (k g2 v2 g3 v3 g4 v4 g v : Nat), M.length - k = mm ∧ ee = [(2, .ptr ⟨2, g2, none⟩ 0 0), (3, .ptr ⟨3, g3, none⟩ 0 0), (4, .ptr ⟨4, g4, none⟩ 0 0), (8, .sl ⟨200, g, none⟩ 0 ((M.take k).filter (frP t b)).length none), (23, .rsl 1 (ints (nats M))), (24, .int .i64 M.length), (25, .int .i64 (k : Nat))] ∧ ss = [(2, some ⟨g2, v2, 1, [[.rsl 2 (tabR t)]]⟩), (3, some ⟨g3, v3, 2, [[.int .i64 n, .rsl 1 (words (setW b n))]]⟩), (4, some ⟨g4, v4, 2, [[.int .i64 0, .nilsl]]⟩), (200, some ⟨g, v, 1, ints (nats ((M.take k).filter (frP t b)))⟩)] ∧ (k ≤ M.length)) ?_ ?_
    -- init 1
    · exact ⟨_, 0, _, _, _, _, _, _, _, _, rfl, eD, eD, eT⟩
    rintro mm ee ss kk ⟨k, g2, v2, g3, v3, g4, v4, g, v, rfl, rfl, rfl, hI⟩
    generalize hQl1 : thenQ _ _ = Ql1
    -- region 6
    refine AW.sg [2,3,4,8,23,24,25,26] [2,3,4,200] trivial ?_
    refine AW.seq fun K3 hK3 => ?_
    -- cond 2
    refine AW.cn ?_ ?_
    · intro hb
      obtain ⟨q, hq⟩ := getI (l := M) (j := k) (by omega)
      have hgq : (ints (nats M)).getD k [] = [.int .i64 (q : Nat)] := ints_get (by simp [nats, hq])
      have hqn := hmm q (List.mem_of_getElem? hq)
      have hgt := hgr q (by omega)
      have hzq := hzl q hqn
      have hiq := hin q hqn
      have hcq := hct q hqn
      have hrq := hrow q hqn
      have hts := take_filter_succ (p := frP t b) hq
      have hfl := List.length_filter_le (frP t b) (M.take k)
      rw [List.length_take] at hfl
      have hfp : frP t b q = decide ((memB (List.zipWith (· && ·) (rowT t q) b)).length = 0) := rfl
      rw [hzq] at hiq hcq
      rw [hrq] at *
      generalize List.zipWith (· && ·) (rowT t q) b = z at *
      generalize hFF : (M.take k).filter (frP t b) = FF at *
      have htk : (ints (nats FF)).take FF.length = ints (nats FF) := List.take_of_length_le (by rw [ints_len, nats_len]; exact Nat.le_refl _)
      refine AW.skip ?_
      refine hK3 _ _ _ ?_; clear hK3
      refine AW.seq fun K4 hK4 => ?_
      refine AW.block ?_
      -- region 7
      refine AW.sg [2,3,4,8,10,23,24,25] [2,3,4,200] (e3 @hgq @nats_len @ints_len) ?_
      -- region 8
      refine AW.sd mixed 0 (fun ii => if ii = 6 then some (.reads false (.tup [.agg [.int .i64 n, .rsl 1 (words (setW z n))], .int .i64 ((0 : Nat) : Int)])) else none) [2,3,4,8,10,11,23,24,25] [2,3,4,11,200] (e4 @hgt @htl @hlen @hrq) ?_
      repeat with_reducible refine cj ?_ ?_
      all_goals try first | (exact hiq) | omega | exact chk (by kernel_rfl) | exact ent (by kernel_rfl)
      -- region 9
      refine AW.so 0 (fun ii => if ii = 1 then some (.reads false (.int .i64 ((memB z).length : Nat))) else none) [2,3,4,8,10,23,24,25,41] [2,3,4,200] trivial ?_
      repeat with_reducible refine cj ?_ ?_
      all_goals try first | (exact hcq) | omega | exact ent (by kernel_rfl)
      -- cond 3
      refine AW.cn ?_ ?_
      · intro hb
        rw [if_pos (by rw [hfp, decide_eq_true_eq]; omega)] at hts
        -- region 10
        refine AW.regionK 0 (fun _ => none) [2, 3, 4, 8, 23, 24, 25] [2, 3, 4, 200] ?_
        simp only [go_sem, reduceIte, reduceCtorEq, Nat.reduceAdd, Nat.reduceMul, Nat.reduceEqDiff, Nat.reduceLT, Nat.reduceLeDiff, Nat.reduceSub, Nat.reducePow, Nat.reduceBEq, Int.reduceToNat, List.reduceReplicate, htk, ints_app, nats_app, nats_len, ints_len]
        repeat with_reducible refine cj ?_ ?_
        all_goals try first | omega | (simp [scP, scalar]; done) | exact scP_words _ | exact scP_ints _ | exact scP_bools _
        refine hK4 _ _ _ ?_; clear hK4
        -- region 11
        refine AW.rg [2,3,4,8,23,24,25] [2,3,4,200] trivial ?_
        -- again 1
        rw [← hQl1]; change Exists _
        refine ⟨_, ?hm, k + 1, ?_, ?_, ?_, ?_, ?_, ?_, ?_, ?_, rfl, ?henv, ?hstore, ?hst⟩
        case henv =>
          repeat' (first | rfl | refine env_cons ?_ ?_ | refine st_cons ?_ ?_ ?_ ?_ | refine int_eq ?_ | refine bool_eq ?_ | refine rsl_eq ?_ | refine osl_eq ?_ | refine sl_eq ?_ ?_ ?_ | refine ptr_eq ?_ ?_ ?_ | refine agg_eq ?_ | refine es_cons ?_ ?_ | refine row_cons ?_ ?_)
          all_goals (rw [hts]; try simp)
        case hstore =>
          repeat' (first | rfl | refine env_cons ?_ ?_ | refine st_cons ?_ ?_ ?_ ?_ | refine int_eq ?_ | refine bool_eq ?_ | refine rsl_eq ?_ | refine osl_eq ?_ | refine sl_eq ?_ ?_ ?_ | refine ptr_eq ?_ ?_ ?_ | refine agg_eq ?_ | refine es_cons ?_ ?_ | refine row_cons ?_ ?_)
          all_goals (rw [hts])
        case hst =>
          first | trivial | omega | (simp; done) | (simp; omega)
        case hm => omega
      · intro hb
        rw [if_neg (by rw [hfp, decide_eq_true_eq]; omega)] at hts
        refine AW.skip ?_
        refine hK4 _ _ _ ?_; clear hK4
        -- region 11
        refine AW.rg [2,3,4,8,23,24,25] [2,3,4,200] trivial ?_
        -- again 1
        rw [← hQl1]; change Exists _
        refine ⟨_, ?hm, k + 1, ?_, ?_, ?_, ?_, ?_, ?_, ?_, ?_, rfl, ?henv, ?hstore, ?hst⟩
        case henv =>
          repeat' (first | rfl | refine env_cons ?_ ?_ | refine st_cons ?_ ?_ ?_ ?_ | refine int_eq ?_ | refine bool_eq ?_ | refine rsl_eq ?_ | refine osl_eq ?_ | refine sl_eq ?_ ?_ ?_ | refine ptr_eq ?_ ?_ ?_ | refine agg_eq ?_ | refine es_cons ?_ ?_ | refine row_cons ?_ ?_)
          all_goals (rw [hts]; try simp)
        case hstore =>
          repeat' (first | rfl | refine env_cons ?_ ?_ | refine st_cons ?_ ?_ ?_ ?_ | refine int_eq ?_ | refine bool_eq ?_ | refine rsl_eq ?_ | refine osl_eq ?_ | refine sl_eq ?_ ?_ ?_ | refine ptr_eq ?_ ?_ ?_ | refine agg_eq ?_ | refine es_cons ?_ ?_ | refine row_cons ?_ ?_)
          all_goals (rw [hts])
        case hst =>
          first | trivial | omega | (simp; done) | (simp; omega)
        case hm => omega
    · intro hb
      have hk : k = M.length := by omega
      subst hk
      rw [List.take_of_length_le (Nat.le_refl _), ← hfe]
      have htk : (ints (nats (frN t b))).take (frN t b).length = ints (nats (frN t b)) := List.take_of_length_le (by rw [ints_len, nats_len]; exact Nat.le_refl _)
      rw [frB_len] at *
      -- exit 0
      refine AW.exit ?_
      rw [← hQl1]
      refine hK2 _ _ _ ?_; clear hK2
      -- region 12
      refine AW.so 0 (fun ii => if ii = 3 then some (.reads true (.tup [.agg [.int .i64 n, .rsl 1 (words (setW (frB n t b) n))], .int .i64 ((0 : Nat) : Int)])) else none) [4,5] [4] (@htk) ?_
      repeat with_reducible refine cj ?_ ?_
      all_goals try first | (exact hof) | omega | exact ent (by kernel_rfl)
      -- ret 2
      rw [← hQr]
      refine AW.rt trivial ?_
      exact Wk.refl _
theorem irr_g (n : Nat) (t : List (List Bool)) (hs : Sq n t) (hn : n ≤ 512) (hp : poB n t = true) (b : List Bool) (hbn : b.length = n) (hi : idB n t b = true) : Reads Tryz.prog 14 false [relB t, .agg (rowB b)] (.bool (decide ((frN t b).length = 1))) := by
  have h := frontier_g n t hs hn hp b hbn hi
  have hm := count_b (frB n t b) (by rw [frB_len]; exact hn)
  rw [memB_frB hbn] at hm
  unfold relB rowB at *
  rw [frB_len] at *
  refine Reads.body (rs := [.tmp 4]) Tryz.func14 rfl Tryz.ntmps14 rfl (by simp) ?_
  generalize hQr : retQ _ _ _ = Qr
  -- block 15
  -- region 0
  refine AW.sg [2,3] [2,3] trivial ?_
  -- region 1
  refine AW.so 0 (fun ii => if ii = 2 then some (.reads false (.tup [.agg [.int .i64 n, .rsl 1 (words (setW (frB n t b) n))], .int .i64 ((0 : Nat) : Int)])) else none) [5,6] [5] trivial ?_
  repeat with_reducible refine cj ?_ ?_
  all_goals try first | (exact h) | omega | exact ent (by kernel_rfl)
  -- region 2
  refine AW.so 0 (fun ii => if ii = 4 then some (.reads false (.int .i64 ((frN t b).length : Nat))) else none) [4] [] trivial ?_
  repeat with_reducible refine cj ?_ ?_
  all_goals try first | (first | exact hm | exact ⟨rfl, hm⟩ | (intro hh; exact ⟨hh, hm⟩)) | (intros; (repeat' apply And.intro) <;> first | assumption | (first | exact hm | exact ⟨rfl, hm⟩ | (intro hh; exact ⟨hh, hm⟩))) | omega | exact ent (by kernel_rfl) | (intro hgd; exact absurd hgd (by decide)) | rfl | exact gD | (intro _hgd; simp_all [go_sem]; done)
  -- ret 1
  rw [← hQr]
  refine AW.rt trivial ?_
  exact Wk.of_eq (congrArg AV.bool (decide_eq_decide.2 (by omega)))
end Go.Proofs.I

namespace Go.Proofs.I
open Go.AM Go
set_option maxRecDepth 100000
set_option maxHeartbeats 4000000
def exI : List (List Bool) := [[false, true, false], [false, false, false], [false, false, false]]
def exL : List (List Bool) := [[false, false, false], [true, false, false], [false, false, true], [true, true, false], [true, false, true], [true, true, true]]
def Y3 (a b c : Bool) : List (List AV) := words (setW [a, b, c] 3)
theorem rowB3 (a b c : Bool) : rowB [a, b, c] = [.int .i64 3, .rsl 1 (Y3 a b c)] := rfl
theorem exI_sq : Sq 3 exI := ⟨rfl, by decide⟩
theorem exI_po : poB 3 exI = true := by decide +kernel
theorem exI_all : allU (invT 3 exI) 3 = exL := by decide +kernel
theorem exI_next : nextU (invT 3 exI) [true, false, false] 3 = [1, 2] := by decide +kernel
theorem exI_id1 : idB 3 exI [true, false, false] = true := by decide +kernel
theorem exI_id2 : idB 3 exI [true, true, false] = true := by decide +kernel
theorem exI_id3 : idB 3 exI [true, false, true] = true := by decide +kernel
theorem exI_fr2 : frN exI [true, true, false] = [1] := by decide +kernel
theorem exI_fr3 : frN exI [true, false, true] = [0, 2] := by decide +kernel
theorem exL_long : longR (exL.map SB) := ⟨by decide, by decide +kernel⟩
theorem awake_r : Reads Tryz.prog 10 false [] (.bool true) := by
  have s1 := set_r [1] (by decide) (by decide)
  have s00 := set_r [0] (by decide) (by decide)
  have s2 := set_r [2] (by decide) (by decide)
  have s01 := set_r [0, 1] (by decide) (by decide)
  have s02 := set_r [0, 2] (by decide) (by decide)
  have s012 := set_r [0, 1, 2] (by decide) (by decide)
  have sn := (set_r [] (by decide) (by simp)).wk (args := [.nilsl]) (.cons (Wk.nil 1) .nil) (Wk.refl _)
  rw [show rowL 3 [1] = [false, true, false] from rfl] at s1
  rw [show rowL 3 [0] = [true, false, false] from rfl] at s00
  rw [show rowL 3 [2] = [false, false, true] from rfl] at s2
  rw [show rowL 3 [0, 1] = [true, true, false] from rfl] at s01
  rw [show rowL 3 [0, 2] = [true, false, true] from rfl] at s02
  rw [show rowL 3 [0, 1, 2] = [true, true, true] from rfl] at s012
  rw [show rowL 3 [] = [false, false, false] from rfl] at sn
  have hl := list_ok 3 exI exI_sq (by decide) exI_po (by rw [exI_all]; decide)
  rw [exI_all] at hl
  have hc := countI_ok _ _ _ hl
  have hx := nextI_g 3 exI exI_sq (by decide) exI_po [true, false, false] rfl exI_id1
  rw [exI_next] at hx
  have hi1 := irr_g 3 exI exI_sq (by decide) exI_po [true, true, false] rfl exI_id2
  rw [exI_fr2] at hi1
  have hi2 := irr_g 3 exI exI_sq (by decide) exI_po [true, false, true] rfl exI_id3
  rw [exI_fr3] at hi2
  have hsm := Reads.flat (rsameall_r (exL.map SB) exL_long) rfl
  rw [← tabR_SB] at hsm
  have heq := Reads.flat (eqi_refl [1, 2] (by decide)) rfl
  simp only [relB, exI, exL, tabR, List.map_cons, List.map_nil, rowB3, ints, nats] at s1 s00 s2 s01 s02 s012 sn hl hc hx hi1 hi2 hsm heq
  refine Reads.body (rs := [.tmp 0]) Tryz.func10 rfl Tryz.ntmps10 rfl (by simp) ?_
  generalize hQr : retQ _ _ _ = Qr
  -- block 1
  -- region 0
  refine AW.sg [] [] trivial ?_
  refine AW.seq fun K1 hK1 => ?_
  -- region 1
  refine AW.regionG 0 (fun ii => if ii = 1 then some (.reads true (.agg [.int .i64 3, .rsl 1 (Y3 false true false)])) else if ii = 2 then some (.reads true (.agg [.int .i64 3, .rsl 1 (Y3 false false false)])) else if ii = 3 then some (.reads true (.agg [.int .i64 3, .rsl 1 (Y3 false false false)])) else none) (fun ii => if ii = 5 then some ([12], [12]) else none) [1] [1, 12] ?_
  simp only [go_sem, reduceIte, reduceCtorEq, Nat.reduceAdd, Nat.reduceMul, Nat.reduceEqDiff, Nat.reduceLT, Nat.reduceLeDiff, Nat.reduceSub, Nat.reducePow, Nat.reduceBEq, Int.reduceToNat, List.reduceReplicate]
  repeat with_reducible refine cj ?_ ?_
  all_goals try first | (first | exact s1 | exact sn) | omega | exact ent (by kernel_rfl)
  refine hK1 _ _ _ ?_; clear hK1
  -- region 2
  refine AW.so 0 (fun ii => if ii = 1 then some (.reads false (.tup [.int .i64 6, .int .i64 ((0 : Nat) : Int)])) else none) [1,2,3] [1,12] trivial ?_
  repeat with_reducible refine cj ?_ ?_
  all_goals try first | (exact hc) | omega | exact ent (by kernel_rfl)
  -- region 3
  refine AW.so 0 (fun ii => if ii = 1 then some (.reads false (.tup [.rsl 2 [[.int .i64 3, .rsl 1 (Y3 false false false)], [.int .i64 3, .rsl 1 (Y3 true false false)], [.int .i64 3, .rsl 1 (Y3 false false true)], [.int .i64 3, .rsl 1 (Y3 true true false)], [.int .i64 3, .rsl 1 (Y3 true false true)], [.int .i64 3, .rsl 1 (Y3 true true true)]], .int .i64 ((0 : Nat) : Int)])) else none) [1,2,3,4,5] [1,12] trivial ?_
  repeat with_reducible refine cj ?_ ?_
  all_goals try first | (exact hl) | omega | exact ent (by kernel_rfl)
  -- region 4
  refine AW.sd mixed 0 (fun ii => if ii = 2 then some (.upd [26] (fun _ => []) (fun _ => .agg [.int .i64 3, .rsl 1 (Y3 true false false)])) else if ii = 3 then some (.reads false (.tup [.rsl 1 [[.int .i64 1], [.int .i64 2]], .int .i64 ((0 : Nat) : Int)])) else none) [1,2,3,4,5,6,7] [1,12] trivial ?_
  repeat with_reducible refine cj ?_ ?_
  all_goals try first | (first | exact s00.upd rfl | exact hx) | omega | exact chk (by kernel_rfl) | exact ent (by kernel_rfl)
  -- region 5
  refine AW.sd mixed 0 (fun ii => if ii = 8 then some (.reads false (.agg [.int .i64 3, .rsl 1 (Y3 false false false)])) else if ii = 10 then some (.upd [40] (fun _ => []) (fun _ => .agg [.int .i64 3, .rsl 1 (Y3 true false false)])) else if ii = 12 then some (.upd [42] (fun _ => []) (fun _ => .agg [.int .i64 3, .rsl 1 (Y3 false false true)])) else if ii = 14 then some (.upd [44] (fun _ => []) (fun _ => .agg [.int .i64 3, .rsl 1 (Y3 true true false)])) else if ii = 16 then some (.upd [46] (fun _ => []) (fun _ => .agg [.int .i64 3, .rsl 1 (Y3 true false true)])) else if ii = 18 then some (.upd [48] (fun _ => []) (fun _ => .agg [.int .i64 3, .rsl 1 (Y3 true true true)])) else if ii = 20 then some (.upd [50] (fun _ => []) (fun _ => .bool true)) else if ii = 29 then some (.upd [59] (fun _ => []) (fun _ => .bool true)) else if ii = 38 then some (.upd [68] (fun _ => []) (fun _ => .agg [.int .i64 3, .rsl 1 (Y3 true true false)])) else if ii = 39 then some (.reads false (.bool true)) else if ii = 44 then some (.upd [74] (fun _ => []) (fun _ => .agg [.int .i64 3, .rsl 1 (Y3 true false true)])) else if ii = 45 then some (.reads false (.bool false)) else none) [0] [] trivial ?_
  repeat with_reducible refine cj ?_ ?_
  all_goals try first | (first | exact sn.old | (intro hh; exact ⟨hh, sn.old⟩) | exact s00.upd rfl | exact s2.upd rfl | exact s01.upd rfl | exact s02.upd rfl | exact s012.upd rfl | exact hsm.upd rfl | exact heq.upd rfl | (intro hh; exact ⟨hh, hi1⟩) | (intro hh; exact ⟨hh, hi2⟩) | exact hi1 | exact hi2) | (intros; (repeat' apply And.intro) <;> first | assumption | (first | exact sn.old | (intro hh; exact ⟨hh, sn.old⟩) | exact s00.upd rfl | exact s2.upd rfl | exact s01.upd rfl | exact s02.upd rfl | exact s012.upd rfl | exact hsm.upd rfl | exact heq.upd rfl | (intro hh; exact ⟨hh, hi1⟩) | (intro hh; exact ⟨hh, hi2⟩) | exact hi1 | exact hi2)) | omega | exact chk (by kernel_rfl) | exact ent (by kernel_rfl) | (intro hgd; exact absurd hgd (by decide)) | rfl | exact gD | (intro _hgd; simp_all [go_sem]; done)
  -- ret 1
  rw [← hQr]
  refine AW.rt trivial ?_
  exact Wk.refl _
end Go.Proofs.I

namespace Go.Proofs.I
open Go.AM Go
set_option maxRecDepth 100000
set_option maxHeartbeats 4000000
def alone (n : Nat) (t : List (List Bool)) (i : Nat) : Bool := (!(!(minT n (invT n t)).getD i false)) && !((List.range n).any fun k => atT t k i)
def dblN (n : Nat) (t : List (List Bool)) (i : Nat) : Nat := 2 ^ ((List.range i).filter (alone n t)).length
theorem dblN_succ (n : Nat) (t : List (List Bool)) (i : Nat) : dblN n t (i + 1) = if alone n t i = true then dblN n t i * 2 else dblN n t i := by
  unfold dblN; rw [List.range_succ, List.filter_append]; simp only [List.filter_cons, List.filter_nil]; split <;> simp [Nat.pow_succ]
theorem dblN_le (n : Nat) (t : List (List Bool)) (i : Nat) (h : i ≤ 12) : dblN n t i ≤ 4096 := by
  unfold dblN
  have h1 := List.length_filter_le (alone n t) (List.range i)
  rw [List.length_range] at h1
  exact Nat.le_trans (Nat.pow_le_pow_right (by decide) (Nat.le_trans h1 h)) (by decide)
theorem bounded_r (n : Nat) (t : List (List Bool)) (hs : Sq n t) (hn : n ≤ 512) : Reads Tryz.prog 19 false [relB t] (.bool (decide (n ≤ 12) && decide (dblN n t n ≤ 512))) := by
  have hlt : (tabR t).length = n := by rw [tabR_len, hs.len]
  have ha := fun i hi => rabove_r n t hs hn i hi
  have hb0 := fun i hi => rbelow_r n t hs hn i hi
  have h00 : dblN n t 0 = 1 := rfl
  unfold relB at *
  refine Reads.body (rs := [.tmp 2]) Tryz.func19 rfl Tryz.ntmps19 rfl (by simp) ?_
  generalize hQr : retQ _ _ _ = Qr
  -- block 1
  -- region 0
  refine AW.sg [1] [1] trivial ?_
  refine AW.seq fun K1 hK1 => ?_
  -- region 1
  refine AW.sg [1,8] [1] (@hlt) ?_
  -- cond 1
  refine AW.cn ?_ ?_
  · intro hb
    -- region 2
    refine AW.sg [2] [] trivial ?_
    -- ret 1
    rw [← hQr]
    refine AW.rt trivial ?_
    exact Wk.of_eq (by rw [decide_eq_false (by omega)]; rfl)
  · intro hb
    refine AW.skip ?_
    refine hK1 _ _ _ ?_; clear hK1
    -- region 3
    refine AW.sg [1,3] [1] trivial ?_
    refine AW.seq fun K2 hK2 => ?_
    -- region 4
    refine AW.sg [1,3,11,12] [1] (@hlt) ?_
    refine AW.block ?_
    -- loop 1
    refine AW.loopE (fun mm ee ss kk => ∃ (i g v : Nat), n - i = mm ∧ ee = [(1, .ptr ⟨1, g, none⟩ 0 0), (3, .int .i64 (dblN n t i : Nat)), (11, .int .i64 n), (12, .int .i64 (i : Nat))] ∧ ss = [(1, some ⟨g, v, 1, [[.rsl 2 (tabR t)]]⟩)] ∧ (i ≤ n)) ?_ ?_
    -- init 1
    · refine ⟨_, 0, ?_, ?_, rfl, ?henv, ?hstore, ?hst⟩
      case henv =>
        repeat' (first | rfl | refine env_cons ?_ ?_ | refine st_cons ?_ ?_ ?_ ?_ | refine int_eq ?_ | refine bool_eq ?_ | refine rsl_eq ?_ | refine osl_eq ?_ | refine sl_eq ?_ ?_ ?_ | refine ptr_eq ?_ ?_ ?_ | refine agg_eq ?_ | refine es_cons ?_ ?_ | refine row_cons ?_ ?_)
        all_goals (first | (rw [h00]; done) | (rw [h00]; rfl) | (simp; done) | omega)
      case hstore =>
        repeat' (first | rfl | refine env_cons ?_ ?_ | refine st_cons ?_ ?_ ?_ ?_ | refine int_eq ?_ | refine bool_eq ?_ | refine rsl_eq ?_ | refine osl_eq ?_ | refine sl_eq ?_ ?_ ?_ | refine ptr_eq ?_ ?_ ?_ | refine agg_eq ?_ | refine es_cons ?_ ?_ | refine row_cons ?_ ?_)
        all_goals (first | (simp; done) | omega | (simp; omega))
      case hst =>
        first | trivial | omega | (simp; done) | (simp; omega)
    rintro mm ee ss kk ⟨i, g, v, rfl, rfl, rfl, hI⟩
    generalize hQl1 : thenQ _ _ = Ql1
    -- region 5
    refine AW.sg [1,3,11,12,13] [1] trivial ?_
    refine AW.seq fun K3 hK3 => ?_
    -- cond 2
    refine AW.cn ?_ ?_
    · intro hb
      have hai := ha i (by omega)
      have hbi := hb0 i (by omega)
      have hss := dblN_succ n t i
      have hle := dblN_le n t i (by omega)
      refine AW.skip ?_
      refine hK3 _ _ _ ?_; clear hK3
      refine AW.seq fun K4 hK4 => ?_
      refine AW.block ?_
      -- region 6
      refine AW.sg [1,3,4,11,12] [1] trivial ?_
      -- region 7
      refine AW.so 0 (fun ii => if ii = 2 then some (.reads false (.bool (!(minT n (invT n t)).getD i false))) else if ii = 7 then some (.reads false (.bool ((List.range n).any fun k => atT t k i))) else none) [1,3,11,12,24] [1] trivial ?_
      repeat with_reducible refine cj ?_ ?_
      all_goals try first | (first | exact hai | exact hbi | (intro hh; exact ⟨hh, hbi⟩)) | (intros; (repeat' apply And.intro) <;> first | assumption | (first | exact hai | exact hbi | (intro hh; exact ⟨hh, hbi⟩))) | omega | exact ent (by kernel_rfl) | (intro hgd; exact absurd hgd (by decide)) | rfl | exact gD | (intro _hgd; simp_all [go_sem]; done)
      -- cond 3
      refine AW.cn ?_ ?_
      · intro hb
        rw [if_pos (by unfold alone; rw [hb.1, hb.2]; rfl)] at hss
        -- region 8
        refine AW.rg [1,3,11,12] [1] trivial ?_
        refine hK4 _ _ _ ?_; clear hK4
        -- region 9
        refine AW.rg [1,3,11,12] [1] trivial ?_
        -- again 1
        rw [← hQl1]; change Exists _
        refine ⟨_, ?hm, i + 1, ?_, ?_, rfl, ?henv, ?hstore, ?hst⟩
        case henv =>
          repeat' (first | rfl | refine env_cons ?_ ?_ | refine st_cons ?_ ?_ ?_ ?_ | refine int_eq ?_ | refine bool_eq ?_ | refine rsl_eq ?_ | refine osl_eq ?_ | refine sl_eq ?_ ?_ ?_ | refine ptr_eq ?_ ?_ ?_ | refine agg_eq ?_ | refine es_cons ?_ ?_ | refine row_cons ?_ ?_)
          all_goals (first | (rw [hss]; done) | (rw [hss]; simp; done) | (rw [hss]; push_cast; rfl) | (simp; done) | omega)
        case hstore =>
          repeat' (first | rfl | refine env_cons ?_ ?_ | refine st_cons ?_ ?_ ?_ ?_ | refine int_eq ?_ | refine bool_eq ?_ | refine rsl_eq ?_ | refine osl_eq ?_ | refine sl_eq ?_ ?_ ?_ | refine ptr_eq ?_ ?_ ?_ | refine agg_eq ?_ | refine es_cons ?_ ?_ | refine row_cons ?_ ?_)
          all_goals (first | (simp; done) | omega | (simp; omega))
        case hst =>
          first | trivial | omega | (simp; done) | (simp; omega)
        case hm => omega
      · intro hb
        rw [if_neg (by unfold alone; rcases hb with hb | hb <;> rw [hb] <;> simp)] at hss
        refine AW.skip ?_
        refine hK4 _ _ _ ?_; clear hK4
        -- region 9
        refine AW.rg [1,3,11,12] [1] trivial ?_
        -- again 1
        rw [← hQl1]; change Exists _
        refine ⟨_, ?hm, i + 1, ?_, ?_, rfl, ?henv, ?hstore, ?hst⟩
        case henv =>
          repeat' (first | rfl | refine env_cons ?_ ?_ | refine st_cons ?_ ?_ ?_ ?_ | refine int_eq ?_ | refine bool_eq ?_ | refine rsl_eq ?_ | refine osl_eq ?_ | refine sl_eq ?_ ?_ ?_ | refine ptr_eq ?_ ?_ ?_ | refine agg_eq ?_ | refine es_cons ?_ ?_ | refine row_cons ?_ ?_)
          all_goals (first | (rw [hss]; done) | (rw [hss]; simp; done) | (rw [hss]; push_cast; rfl) | (simp; done) | omega)
        case hstore =>
          repeat' (first | rfl | refine env_cons ?_ ?_ | refine st_cons ?_ ?_ ?_ ?_ | refine int_eq ?_ | refine bool_eq ?_ | refine rsl_eq ?_ | refine osl_eq ?_ | refine sl_eq ?_ ?_ ?_ | refine ptr_eq ?_ ?_ ?_ | refine agg_eq ?_ | refine es_cons ?_ ?_ | refine row_cons ?_ ?_)
          all_goals (first | (simp; done) | omega | (simp; omega))
        case hst =>
          first | trivial | omega | (simp; done) | (simp; omega)
        case hm => omega
    · intro hb
      have hi : i = n := by omega
      subst hi
      have hle := dblN_le i t i (by omega)
      -- exit 0
      refine AW.kx [3] [] ?_
      rw [← hQl1]
      refine hK2 _ _ _ ?_; clear hK2
      -- region 10
      refine AW.sg [2] [] trivial ?_
      -- ret 2
      rw [← hQr]
      refine AW.rt trivial ?_
      exact Wk.of_eq (by rw [decide_eq_true (show i ≤ 12 by omega), Bool.true_and]; exact congrArg AV.bool (decide_eq_decide.2 (by omega)))
theorem lists_0 (rs : List USet) (hl : longR rs) (h : fewB rs = false) : Reads Tryz.prog 4 false [relV rs] (.bool true) := by
  have ha := awake_r
  have hw := few_r rs hl
  rw [h] at hw
  unfold relV at *
  refine Reads.body (rs := [.tmp 2]) Tryz.func4 rfl Tryz.ntmps4 rfl (by simp) ?_
  generalize hQr : retQ _ _ _ = Qr
  -- block 2
  -- region 0
  refine AW.sg [1] [1] trivial ?_
  refine AW.seq fun K1 hK1 => ?_
  -- region 1
  refine AW.so 0 (fun ii => if ii = 0 then some (.reads false (.bool true)) else if ii = 4 then some (.reads false (.bool false)) else none) [1,19] [1] trivial ?_
  repeat with_reducible refine cj ?_ ?_
  all_goals try first | (first | exact ha | (intro hh; exact ⟨hh, hw⟩)) | (intros; (repeat' apply And.intro) <;> first | assumption | (first | exact ha | (intro hh; exact ⟨hh, hw⟩))) | omega | exact ent (by kernel_rfl) | (intro hgd; exact absurd hgd (by decide)) | rfl | exact gD | (intro _hgd; simp_all [go_sem]; done)
  -- cond 1
  refine AW.cn ?_ ?_
  · intro hb
    -- region 2
    refine AW.so 0 (fun ii => if ii = 0 then some (.reads false (.bool true)) else none) [2] [] trivial ?_
    repeat with_reducible refine cj ?_ ?_
    all_goals try first | (exact ha) | omega | exact ent (by kernel_rfl)
    -- ret 1
    rw [← hQr]
    refine AW.rt trivial ?_
    exact Wk.refl _
  · intro hb
    exfalso; simp at hb
theorem lists_e (rs : List USet) (hl : longR rs) (h : fewB rs = true) (hp1 : Reads Tryz.prog 55 false [relV rs] (.bool false)) (hp2 : Reads Tryz.prog 16 false [relV rs] (.bool false)) : Reads Tryz.prog 4 false [relV rs] (.bool true) := by
  have ha := awake_r
  have hw := few_r rs hl
  rw [h] at hw
  unfold relV at *
  have hls := list_e _ hp1
  have hct := countI_nil _ _ hls
  refine Reads.body (rs := [.tmp 2]) Tryz.func4 rfl Tryz.ntmps4 rfl (by simp) ?_
  generalize hQr : retQ _ _ _ = Qr
  -- block 3
  -- region 0
  refine AW.sg [1] [1] trivial ?_
  refine AW.seq fun K1 hK1 => ?_
  -- region 1
  refine AW.so 0 (fun ii => if ii = 0 then some (.reads false (.bool true)) else if ii = 4 then some (.reads false (.bool true)) else none) [1,19] [1] trivial ?_
  repeat with_reducible refine cj ?_ ?_
  all_goals try first | (first | exact ha | (intro hh; exact ⟨hh, hw⟩)) | (intros; (repeat' apply And.intro) <;> first | assumption | (first | exact ha | (intro hh; exact ⟨hh, hw⟩))) | omega | exact ent (by kernel_rfl) | (intro hgd; exact absurd hgd (by decide)) | rfl | exact gD | (intro _hgd; simp_all [go_sem]; done)
  -- cond 1
  refine AW.cn ?_ ?_
  · intro hb
    exfalso; simp at hb
  · intro hb
    refine AW.skip ?_
    refine hK1 _ _ _ ?_; clear hK1
    refine AW.seq fun K2 hK2 => ?_
    -- region 3
    refine AW.so 0 (fun ii => if ii = 1 then some (.reads false (.bool false)) else none) [1,23] [1] trivial ?_
    repeat with_reducible refine cj ?_ ?_
    all_goals try first | (exact hp2) | omega | exact ent (by kernel_rfl)
    -- cond 2
    refine AW.cn ?_ ?_
    · intro hb
      -- region 4
      refine AW.so 0 (fun ii => if ii = 1 then some (.reads false (.tup [.int .i64 0, .int .i64 ((1 : Nat) : Int)])) else none) [1,3,4] [1] trivial ?_
      repeat with_reducible refine cj ?_ ?_
      all_goals try first | (exact hct) | omega | exact ent (by kernel_rfl)
      -- region 5
      refine AW.so 0 (fun ii => if ii = 1 then some (.reads false (.tup [.nilsl, .int .i64 ((1 : Nat) : Int)])) else none) [3,4,5,6] [] trivial ?_
      repeat with_reducible refine cj ?_ ?_
      all_goals try first | (exact hls) | omega | exact ent (by kernel_rfl)
      -- region 6
      refine AW.sg [2] [] trivial ?_
      repeat with_reducible refine cj ?_ ?_
      all_goals try first | omega | (intros; (repeat' apply And.intro) <;> first | assumption | omega | decide) | (intro hgd; exact absurd hgd (by decide)) | rfl | exact gD | (intro _hgd; simp_all [go_sem]; done)
      -- ret 2
      rw [← hQr]
      refine AW.rt trivial ?_
      exact Wk.refl _
    · intro hb
      exfalso; simp at hb
theorem lists_u (n : Nat) (t : List (List Bool)) (hs : Sq n t) (hn : n ≤ 512) (hf : fewB (t.map SB) = true) (hp : poB n t = true) (hb0 : (decide (n ≤ 12) && decide (dblN n t n ≤ 512)) = false) : Reads Tryz.prog 4 false [relB t] (.bool true) := by
  have ha := awake_r
  have hw := few_r (t.map SB) (longR_SB hs hn)
  rw [hf, ← relB_SB] at hw
  have hv := rpvalid_g n t hs hn
  rw [hp] at hv
  have hbd := bounded_r n t hs hn
  rw [hb0] at hbd
  unfold relB at *
  refine Reads.body (rs := [.tmp 2]) Tryz.func4 rfl Tryz.ntmps4 rfl (by simp) ?_
  generalize hQr : retQ _ _ _ = Qr
  -- block 4
  -- region 0
  refine AW.sg [1] [1] trivial ?_
  refine AW.seq fun K1 hK1 => ?_
  -- region 1
  refine AW.so 0 (fun ii => if ii = 0 then some (.reads false (.bool true)) else if ii = 4 then some (.reads false (.bool true)) else none) [1,19] [1] trivial ?_
  repeat with_reducible refine cj ?_ ?_
  all_goals try first | (first | exact ha | (intro hh; exact ⟨hh, hw⟩)) | (intros; (repeat' apply And.intro) <;> first | assumption | (first | exact ha | (intro hh; exact ⟨hh, hw⟩))) | omega | exact ent (by kernel_rfl) | (intro hgd; exact absurd hgd (by decide)) | rfl | exact gD | (intro _hgd; simp_all [go_sem]; done)
  -- cond 1
  refine AW.cn ?_ ?_
  · intro hb
    exfalso; simp at hb
  · intro hb
    refine AW.skip ?_
    refine hK1 _ _ _ ?_; clear hK1
    refine AW.seq fun K2 hK2 => ?_
    -- region 3
    refine AW.so 0 (fun ii => if ii = 1 then some (.reads false (.bool true)) else none) [1,23] [1] trivial ?_
    repeat with_reducible refine cj ?_ ?_
    all_goals try first | (exact hv) | omega | exact ent (by kernel_rfl)
    -- cond 2
    refine AW.cn ?_ ?_
    · intro hb
      exfalso; simp at hb
    · intro hb
      refine AW.skip ?_
      refine hK2 _ _ _ ?_; clear hK2
      refine AW.seq fun K3 hK3 => ?_
      -- region 7
      refine AW.so 0 (fun ii => if ii = 1 then some (.reads false (.bool false)) else none) [1,51] [1] trivial ?_
      repeat with_reducible refine cj ?_ ?_
      all_goals try first | (exact hbd) | omega | exact ent (by kernel_rfl)
      -- cond 3
      refine AW.cn ?_ ?_
      · intro hb
        -- region 8
        refine AW.sg [2] [] trivial ?_
        -- ret 3
        rw [← hQr]
        refine AW.rt trivial ?_
        exact Wk.refl _
      · intro hb
        exfalso; simp at hb
theorem lists_big (n : Nat) (t : List (List Bool)) (hs : Sq n t) (hn : n ≤ 512) (hf : fewB (t.map SB) = true) (hp : poB n t = true) (hb0 : (decide (n ≤ 12) && decide (dblN n t n ≤ 512)) = true) (hbig : ¬ (allU (invT n t) n).length ≤ 5000) : Reads Tryz.prog 4 false [relB t] (.bool true) := by
  have ha := awake_r
  have hw := few_r (t.map SB) (longR_SB hs hn)
  rw [hf, ← relB_SB] at hw
  have hv := rpvalid_g n t hs hn
  rw [hp] at hv
  have hbd := bounded_r n t hs hn
  rw [hb0] at hbd
  have hls := list_big n t hs hn hp hbig
  have hrl := rlist_r n t hs hn
  rw [show levV' (invT n t) n = .tup [.nilsl, .bool false] from if_neg hbig] at hrl
  unfold relB at *
  have hct := countI_nil _ _ hls
  refine Reads.body (rs := [.tmp 2]) Tryz.func4 rfl Tryz.ntmps4 rfl (by simp) ?_
  generalize hQr : retQ _ _ _ = Qr
  -- block 5
  -- region 0
  refine AW.sg [1] [1] trivial ?_
  refine AW.seq fun K1 hK1 => ?_
  -- region 1
  refine AW.so 0 (fun ii => if ii = 0 then some (.reads false (.bool true)) else if ii = 4 then some (.reads false (.bool true)) else none) [1,19] [1] trivial ?_
  repeat with_reducible refine cj ?_ ?_
  all_goals try first | (first | exact ha | (intro hh; exact ⟨hh, hw⟩)) | (intros; (repeat' apply And.intro) <;> first | assumption | (first | exact ha | (intro hh; exact ⟨hh, hw⟩))) | omega | exact ent (by kernel_rfl) | (intro hgd; exact absurd hgd (by decide)) | rfl | exact gD | (intro _hgd; simp_all [go_sem]; done)
  -- cond 1
  refine AW.cn ?_ ?_
  · intro hb
    exfalso; simp at hb
  · intro hb
    refine AW.skip ?_
    refine hK1 _ _ _ ?_; clear hK1
    refine AW.seq fun K2 hK2 => ?_
    -- region 3
    refine AW.so 0 (fun ii => if ii = 1 then some (.reads false (.bool true)) else none) [1,23] [1] trivial ?_
    repeat with_reducible refine cj ?_ ?_
    all_goals try first | (exact hv) | omega | exact ent (by kernel_rfl)
    -- cond 2
    refine AW.cn ?_ ?_
    · intro hb
      exfalso; simp at hb
    · intro hb
      refine AW.skip ?_
      refine hK2 _ _ _ ?_; clear hK2
      refine AW.seq fun K3 hK3 => ?_
      -- region 7
      refine AW.so 0 (fun ii => if ii = 1 then some (.reads false (.bool true)) else none) [1,51] [1] trivial ?_
      repeat with_reducible refine cj ?_ ?_
      all_goals try first | (exact hbd) | omega | exact ent (by kernel_rfl)
      -- cond 3
      refine AW.cn ?_ ?_
      · intro hb
        exfalso; simp at hb
      · intro hb
        refine AW.skip ?_
        refine hK3 _ _ _ ?_; clear hK3
        -- region 9
        refine AW.so 0 (fun ii => if ii = 1 then some (.reads false (.tup [.int .i64 0, .int .i64 ((16 : Nat) : Int)])) else none) [1,7,8] [1] trivial ?_
        repeat with_reducible refine cj ?_ ?_
        all_goals try first | (exact hct) | omega | exact ent (by kernel_rfl)
        -- region 10
        refine AW.so 0 (fun ii => if ii = 1 then some (.reads false (.tup [.nilsl, .int .i64 ((16 : Nat) : Int)])) else none) [1,7,8,9,10] [1] trivial ?_
        repeat with_reducible refine cj ?_ ?_
        all_goals try first | (exact hls) | omega | exact ent (by kernel_rfl)
        -- region 11
        refine AW.so 0 (fun ii => if ii = 1 then some (.reads false (.tup [.nilsl, .bool false])) else none) [7,8,9,10,11,12] [] trivial ?_
        repeat with_reducible refine cj ?_ ?_
        all_goals try first | (exact hrl) | omega | exact ent (by kernel_rfl)
        refine AW.seq fun K4 hK4 => ?_
        -- region 12
        refine AW.sg [7,8,9,10,11,68] [] trivial ?_
        -- cond 4
        refine AW.cn ?_ ?_
        · intro hb
          -- region 13
          refine AW.sg [2] [] trivial ?_
          repeat with_reducible refine cj ?_ ?_
          all_goals try first | omega | (intros; (repeat' apply And.intro) <;> first | assumption | omega | decide) | (intro hgd; exact absurd hgd (by decide)) | rfl | exact gD | (intro _hgd; simp_all [go_sem]; done)
          -- ret 4
          rw [← hQr]
          refine AW.rt trivial ?_
          exact Wk.refl _
        · intro hb
          exfalso; simp at hb
theorem lists_ok (n : Nat) (t : List (List Bool)) (hs : Sq n t) (hn : n ≤ 512) (hf : fewB (t.map SB) = true) (hp : poB n t = true) (hb0 : (decide (n ≤ 12) && decide (dblN n t n ≤ 512)) = true) (hok : (allU (invT n t) n).length ≤ 5000) : Reads Tryz.prog 4 false [relB t] (.bool true) := by
  have ha := awake_r
  have hw := few_r (t.map SB) (longR_SB hs hn)
  rw [hf, ← relB_SB] at hw
  have hv := rpvalid_g n t hs hn
  rw [hp] at hv
  have hbd := bounded_r n t hs hn
  rw [hb0] at hbd
  have hls := list_ok n t hs hn hp hok
  have hrl := rlist_r n t hs hn
  rw [show levV' (invT n t) n = .tup [.rsl 2 (tabR (allU (invT n t) n)), .bool true] from if_pos hok] at hrl
  have hlen := tabR_len (allU (invT n t) n)
  have hsm := rsameall_r ((allU (invT n t) n).map SB) ⟨by rw [List.length_map]; omega, fun x hx => by
    obtain ⟨b, hb, rfl⟩ := List.mem_map.1 hx
    have hbl := allU_len b hb
    have := setB_len (b := b) (by omega)
    show (setW b b.length).length ≤ _; omega⟩
  rw [← tabR_SB] at hsm
  unfold relB at *
  have hct := countI_ok _ _ _ hls
  refine Reads.body (rs := [.tmp 2]) Tryz.func4 rfl Tryz.ntmps4 rfl (by simp) ?_
  generalize hQr : retQ _ _ _ = Qr
  -- block 6
  -- region 0
  refine AW.sg [1] [1] trivial ?_
  refine AW.seq fun K1 hK1 => ?_
  -- region 1
  refine AW.so 0 (fun ii => if ii = 0 then some (.reads false (.bool true)) else if ii = 4 then some (.reads false (.bool true)) else none) [1,19] [1] trivial ?_
  repeat with_reducible refine cj ?_ ?_
  all_goals try first | (first | exact ha | (intro hh; exact ⟨hh, hw⟩)) | (intros; (repeat' apply And.intro) <;> first | assumption | (first | exact ha | (intro hh; exact ⟨hh, hw⟩))) | omega | exact ent (by kernel_rfl) | (intro hgd; exact absurd hgd (by decide)) | rfl | exact gD | (intro _hgd; simp_all [go_sem]; done)
  -- cond 1
  refine AW.cn ?_ ?_
  · intro hb
    exfalso; simp at hb
  · intro hb
    refine AW.skip ?_
    refine hK1 _ _ _ ?_; clear hK1
    refine AW.seq fun K2 hK2 => ?_
    -- region 3
    refine AW.so 0 (fun ii => if ii = 1 then some (.reads false (.bool true)) else none) [1,23] [1] trivial ?_
    repeat with_reducible refine cj ?_ ?_
    all_goals try first | (exact hv) | omega | exact ent (by kernel_rfl)
    -- cond 2
    refine AW.cn ?_ ?_
    · intro hb
      exfalso; simp at hb
    · intro hb
      refine AW.skip ?_
      refine hK2 _ _ _ ?_; clear hK2
      refine AW.seq fun K3 hK3 => ?_
      -- region 7
      refine AW.so 0 (fun ii => if ii = 1 then some (.reads false (.bool true)) else none) [1,51] [1] trivial ?_
      repeat with_reducible refine cj ?_ ?_
      all_goals try first | (exact hbd) | omega | exact ent (by kernel_rfl)
      -- cond 3
      refine AW.cn ?_ ?_
      · intro hb
        exfalso; simp at hb
      · intro hb
        refine AW.skip ?_
        refine hK3 _ _ _ ?_; clear hK3
        -- region 9
        refine AW.so 0 (fun ii => if ii = 1 then some (.reads false (.tup [.int .i64 (allU (invT n t) n).length, .int .i64 ((0 : Nat) : Int)])) else none) [1,7,8] [1] trivial ?_
        repeat with_reducible refine cj ?_ ?_
        all_goals try first | (exact hct) | omega | exact ent (by kernel_rfl)
        -- region 10
        refine AW.so 0 (fun ii => if ii = 1 then some (.reads false (.tup [.rsl 2 (tabR (allU (invT n t) n)), .int .i64 ((0 : Nat) : Int)])) else none) [1,7,8,9,10] [1] trivial ?_
        repeat with_reducible refine cj ?_ ?_
        all_goals try first | (exact hls) | omega | exact ent (by kernel_rfl)
        -- region 11
        refine AW.so 0 (fun ii => if ii = 1 then some (.reads false (.tup [.rsl 2 (tabR (allU (invT n t) n)), .bool true])) else none) [7,8,9,10,11,12] [] trivial ?_
        repeat with_reducible refine cj ?_ ?_
        all_goals try first | (exact hrl) | omega | exact ent (by kernel_rfl)
        refine AW.seq fun K4 hK4 => ?_
        -- region 12
        refine AW.sg [7,8,9,10,11,68] [] trivial ?_
        -- cond 4
        refine AW.cn ?_ ?_
        · intro hb
          exfalso; simp at hb
        · intro hb
          refine AW.skip ?_
          refine hK4 _ _ _ ?_; clear hK4
          -- region 14
          refine AW.so 0 (fun ii => if ii = 11 then some (.reads false (.bool true)) else none) [2] [] (@hlen) ?_
          repeat with_reducible refine cj ?_ ?_
          all_goals try first | (first | exact hsm | (intro hh; exact ⟨hh, hsm⟩)) | (intros; (repeat' apply And.intro) <;> first | assumption | (first | exact hsm | (intro hh; exact ⟨hh, hsm⟩))) | omega | exact ent (by kernel_rfl) | (intro hgd; exact absurd hgd (by decide)) | rfl | (simp only [go_sem, reduceIte, reduceCtorEq, Nat.reduceAdd, Nat.reduceMul, Nat.reduceEqDiff, Nat.reduceLT, Nat.reduceLeDiff, Nat.reduceSub, Nat.reducePow, Nat.reduceBEq, Int.reduceToNat, List.reduceReplicate, hlen]; done) | (intro _hgd; simp_all [go_sem]; done)
          -- ret 5
          rw [← hQr]
          refine AW.rt trivial ?_
          exact Wk.of_eq (by simp)
theorem law_lists (rs : List USet) (hl : longR rs) (hok : ∀ x ∈ rs, okW x.W) : Reads Tryz.prog 4 false [relV rs] (.bool true) := by
  cases hf : fewB rs
  · exact lists_0 rs hl hf
  · rcases rel_cases rs hok with ⟨t, ht, hs, hn, hp⟩ | hb
    · rw [ht] at hf
      rw [ht, ← relB_SB]
      cases hb : (decide (rs.length ≤ 12) && decide (dblN rs.length t rs.length ≤ 512))
      · exact lists_u _ t hs hn hf hp hb
      · by_cases h : (allU (invT rs.length t) rs.length).length ≤ 5000
        · exact lists_ok _ t hs hn hf hp hb h
        · exact lists_big _ t hs hn hf hp hb h
    · exact lists_e rs hl hf (bad_valid rs hl hok hb).1 (bad_valid rs hl hok hb).2
end Go.Proofs.I

/- The shapes of arguments. -/
namespace Go.AM
theorem fit_int {P : Program} {t : TypeId} {k : IntKind} (hu : P.underlying t = some (.int k)) {f : Nat} {x : List AV} (h : Fit P f t x) : ∃ n, x = [.int k n] ∧ k.min ≤ n ∧ n ≤ k.max := by
  cases f with
  | zero => exact h.elim
  | succ f => unfold Fit at h; rw [hu] at h; exact h
theorem fit_slice {P : Program} {t e : TypeId} {m : Nat} (hu : P.underlying t = some (.slice e)) (hm : P.cellsOf e = m) (h0 : m ≠ 0) {f : Nat} {x : List AV} (h : Fit P f t x) : ∃ es f', x = [.rsl m es] ∧ es.length ≤ maxLen ∧ ∀ y ∈ es, Fit P f' e y := by
  cases f with
  | zero => exact h.elim
  | succ f =>
    unfold Fit at h; rw [hu] at h
    rcases h with h | ⟨es, h1, h2, h3⟩
    · exact absurd (hm ▸ h) h0
    · rw [hm] at h1; exact ⟨es, f, h1, h2, fun y hy => (h3 y hy).2⟩
theorem fit_struct {P : Program} {t : TypeId} {fs : Array Field} (hu : P.underlying t = some (.struct fs)) {f : Nat} {x : List AV} (h : Fit P f t x) : ∃ f' parts, x = List.flatten parts ∧ F2 (fun (fl : Field) p => Fit P f' fl.type p) fs.toList parts := by
  cases f with
  | zero => exact h.elim
  | succ f =>
    unfold Fit at h; rw [hu] at h
    obtain ⟨parts, h1, h2⟩ := h
    exact ⟨f, parts, h1, forall2_imp (fun _ _ h => h.2) h2⟩
theorem F2.two {α β : Type} {R : α → β → Prop} {a b : α} {l : List β} (h : F2 R [a, b] l) : ∃ x y, l = [x, y] ∧ R a x ∧ R b y := by
  cases h with | cons h1 t => cases t with | cons h2 t => cases t with | nil => exact ⟨_, _, rfl, h1, h2⟩
theorem exists_mapP {α β : Type} {f : α → β} {p : α → Prop} : ∀ {l : List β}, (∀ x ∈ l, ∃ a, x = f a ∧ p a) → ∃ m : List α, l = m.map f ∧ ∀ a ∈ m, p a
  | [], _ => ⟨[], rfl, fun _ h => by cases h⟩
  | x :: l, h => by
    obtain ⟨a, rfl, ha⟩ := h x (List.mem_cons_self ..)
    obtain ⟨m, rfl, hm⟩ := exists_mapP fun y hy => h y (List.mem_cons_of_mem _ hy)
    exact ⟨a :: m, rfl, fun b hb => by rcases List.mem_cons.1 hb with rfl | hb; exact ha; exact hm b hb⟩
theorem okW_of {W : List Int} (h : ∀ w ∈ W, 0 ≤ w ∧ w ≤ 18446744073709551615) : okW W := fun i => by
  by_cases hi : i < W.length
  · have := h _ (mem_getD hi 0); omega
  · rw [List.getD_eq_getElem?_getD, List.getElem?_eq_none (by omega)]; simp
end Go.AM

/- A laid table, as the machine's package variable. -/
namespace Go.AM
theorem rptr_of_laid {P : Program} {n : String} {g : Nat} {t e : TypeId} {k : IntKind} {L : List Int} {W : World} (hg : P.globalNamed n = some g) (ht : (P.globals[g]?).map (·.type) = some t) (hu : P.underlying t = some (.array L.length e))
    (hc : P.cellsOf e = 1) (hc2 : P.cellsOf t = L.length) (hu2 : P.underlying e = some (.int k)) (hL : L ≠ []) (h : laidMet P [(n, .agg (L.map fun i => .lit (.int k i)))] W) : RelP (immF W fun _ => False) W (.rptr (L.map (AV.int k))) (.pointer (some ⟨g, 0, none⟩)) := by
  obtain ⟨ps, ⟨g0, t0, cs0, f0, p0, q0, hg0, ht0, hv0, hd0, _, _⟩, _, _⟩ := h
  obtain rfl := Option.some.inj (hg.symm.trans hg0)
  obtain rfl := Option.some.inj (ht.symm.trans ht0)
  obtain ⟨xs, m, rfl, hx, hlen, hn, hel⟩ := DataW.trod_array hu hd0
  have hcell : ∀ j, j < L.length → W.cell? ⟨g, j, none⟩ = some (.int k (L.getD j 0)) := fun j hj => by
    have h0 := hel j hj
    rw [hc, Nat.mul_one] at h0
    have hjx : j < xs.length := by omega
    rw [List.getElem?_eq_getElem hjx] at h0
    obtain ⟨z, e1, e2, _⟩ := DataW.trod_int hu2 h0
    have hxs : xs.map (·.1) = L.map fun i => .lit (.int k i) := by
      simp only [Prod.mk.injEq, DataW.agg.injEq] at hx
      exact hx.1.symm
    have hzj : (xs.map (·.1))[j]? = (L.map fun i => (.lit (.int k i) : DataW Unit))[j]? := by rw [hxs]
    rw [List.getElem?_map, List.getElem?_map, List.getElem?_eq_getElem hjx, List.getElem?_eq_getElem hj, e2] at hzj
    simp only [Option.map_some, Option.some.injEq, DataW.lit.injEq, Lit.int.injEq] at hzj
    have hz : z = L.getD j 0 := by rw [hzj.2]; simp [List.getD_eq_getElem?_getD, hj]
    have hcs : cs0[j]? = some (.int k z) := by
      have hl : cs0.toList.length = L.length := by rw [hlen, hc2]
      have hd : cs0.toList.drop j = cs0.toList[j]'(by omega) :: cs0.toList.drop (j + 1) := List.drop_eq_getElem_cons (by omega)
      rw [hd] at e1
      simp only [List.take_succ_cons, List.take_zero, List.cons.injEq, and_true] at e1
      rw [← Array.getElem?_toList, List.getElem?_eq_getElem (by omega), e1]
    rw [World.var?_cell hg hv0 j, hcs, hz]
  have hlt : g < W.heap.size := by
    cases L with
    | nil => exact absurd rfl hL
    | cons a l =>
      have := hcell 0 (by simp)
      unfold World.cell? at this
      cases hh : W.heap[g]? with
      | none => simp [hh] at this
      | some o => exact heap_lt hh
  refine .rptr _ g 0 (fun j => .int k (L.getD j 0)) ⟨hlt, fun h => h⟩ (fun j hj => ?_) (fun j hj => ?_)
  · rw [List.length_map] at hj
    rw [Nat.zero_add]
    exact hcell j hj
  · rw [List.length_map] at hj
    have e : (L.map (AV.int k)).getD j .any = .int k (L.getD j 0) := by simp [List.getD_eq_getElem?_getD, hj]
    rw [e]
    exact .int _ _
end Go.AM

/- The shapes of the ideal laws' arguments. -/
namespace Go.AM
open Go.Proofs
theorem fit_words {f : Nat} {x : List AV} (h : Fit Tryz.prog f 25 x) : ∃ W : List Int, x = [.rsl 1 (words W)] ∧ W.length ≤ 9223372036854775807 ∧ okW W := by
  obtain ⟨es, f2, rfl, h5, h6⟩ := fit_slice (m := 1) Tryz.underlying25 (by kernel_rfl) (by decide) h
  obtain ⟨ws, rfl, hw⟩ := exists_mapP (f := fun x : Int => [AV.int .u64 x]) (p := fun w => 0 ≤ w ∧ w ≤ 18446744073709551615) fun y hy => by
    obtain ⟨n, e, h1, h2⟩ := fit_int Tryz.underlying65 (h6 y hy)
    exact ⟨n, e, by simpa [IntKind.min, IntKind.signed] using h1, by simpa [IntKind.max, IntKind.signed, IntKind.bits] using h2⟩
  exact ⟨ws, rfl, by simpa [maxLen] using h5, okW_of hw⟩
theorem fit_set {f : Nat} {x : List AV} (h : Fit Tryz.prog f 27 x) : ∃ y : USet, x = rowV y ∧ y.W.length ≤ 9223372036854775807 ∧ okW y.W := by
  obtain ⟨f', parts, rfl, h2⟩ := fit_struct Tryz.underlying27 h
  obtain ⟨a, b, rfl, h3, h4⟩ := F2.two h2
  obtain ⟨i, rfl, _⟩ := fit_int Tryz.underlying3 h3
  obtain ⟨W, rfl, h5, h6⟩ := fit_words h4
  exact ⟨⟨i, W⟩, rfl, h5, h6⟩
theorem F2.one {α β : Type} {R : α → β → Prop} {a : α} {l : List β} (h : F2 R [a] l) : ∃ x, l = [x] ∧ R a x := by
  cases h with | cons h1 t => cases t with | nil => exact ⟨_, rfl, h1⟩
theorem fit_rel {f : Nat} {x : List AV} (h : Fit Tryz.prog f 24 x) : ∃ rs : List USet, x = [.rsl 2 (rs.map rowV)] ∧ (rs.length ≤ 9223372036854775807 ∧ ∀ y ∈ rs, y.W.length ≤ 9223372036854775807) ∧ ∀ y ∈ rs, okW y.W := by
  obtain ⟨f', parts, rfl, h2⟩ := fit_struct Tryz.underlying24 h
  obtain ⟨a, rfl, h3⟩ := F2.one h2
  obtain ⟨es, f2, rfl, h5, h6⟩ := fit_slice (m := 2) Tryz.underlying22 (by kernel_rfl) (by decide) h3
  obtain ⟨rs, rfl, hr⟩ := exists_mapP (f := rowV) (p := fun y => y.W.length ≤ 9223372036854775807 ∧ okW y.W) fun y hy => fit_set (h6 y hy)
  exact ⟨rs, rfl, ⟨by simpa [maxLen] using h5, fun y hy => (hr y hy).1⟩, fun y hy => (hr y hy).2⟩
theorem laidMet_tail {P : Program} {W : World} {x : String × DataW Unit} {l : List (String × DataW Unit)} (h : laidMet P (x :: l) W) : laidMet P l W := by
  obtain ⟨ps, ⟨g, t, cs, f, p, q, hg, ht, hv, hd, hr, rfl⟩, hn, hc⟩ := h
  exact ⟨q, hr, (List.nodup_append.1 hn).2.1, fun b off hm => hc b off (List.mem_append.2 (.inr hm))⟩
theorem laidMet_head {P : Program} {W : World} {x : String × DataW Unit} {l : List (String × DataW Unit)} (h : laidMet P (x :: l) W) : laidMet P [x] W := by
  obtain ⟨ps, ⟨g, t, cs, f, p, q, hg, ht, hv, hd, hr, rfl⟩, hn, hc⟩ := h
  refine ⟨MemPlace.row ⟨g, 0, none⟩ cs.size ++ p ++ [], ⟨g, t, cs, f, p, [], hg, ht, hv, hd, rfl, rfl⟩, ?_, fun b off hm => ?_⟩
  · rw [List.append_nil]; exact (List.nodup_append.1 hn).1
  · rw [List.append_nil] at hm; exact hc b off (List.mem_append.2 (.inl hm))
theorem pgl {W : World} (h : laidMetH Tryz.prog [("math/bits.deBruijn32tab", YtloonkbfooddiaaGreatDoor.Rows.laid_math_bits_deBruijn32tab), ("math/bits.deBruijn64tab", YtloonkbfooddiaaGreatDoor.Rows.laid_math_bits_deBruijn64tab), ("internal/strconv.uint64pow10", YtloonkbfooddiaaGreatDoor.Rows.laid_internal_strconv_uint64pow10)] W) : GL (immF W fun _ => False) W := fun g cs e => by
  rw [MakeChecks.laidMetH_plain _ _ _ (by rfl)] at h
  have h2 := laidMet_head (laidMet_tail h)
  cases g with
  | zero =>
    rw [globA_aux] at e
    obtain rfl := Option.some.inj e
    exact rptr_of_laid (L := tzTab) (by kernel_rfl : Tryz.prog.globalNamed "math/bits.deBruijn64tab" = some 0) (by kernel_rfl : (Tryz.prog.globals[0]?).map (·.type) = some 98) (e := 5) Tryz.underlying98 (by kernel_rfl) (by kernel_rfl) Tryz.underlying5 (by decide) h2
  | succ g => cases e
theorem pmet (os : Os) (args : Array Value) : laidMetH Tryz.prog [("math/bits.deBruijn32tab", YtloonkbfooddiaaGreatDoor.Rows.laid_math_bits_deBruijn32tab), ("math/bits.deBruijn64tab", YtloonkbfooddiaaGreatDoor.Rows.laid_math_bits_deBruijn64tab), ("internal/strconv.uint64pow10", YtloonkbfooddiaaGreatDoor.Rows.laid_internal_strconv_uint64pow10)] ((World.doorLaid Tryz.prog 400 os).forCall (fun _ _ => 0) ⟨#[], args, []⟩).memory :=
  laidMetH_of_parts3 (fuel := 8) (laidMet_of_run' 8 (by kernel_rfl) (by kernel_rfl)) (by kernel_rfl) (by kernel_rfl)
end Go.AM

