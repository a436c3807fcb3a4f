/- Lemmas and contracts, part 5: an abstract machine over the model, and the functions that the statement reaches. -/
import Derived.Test.YtljcffhjpcdpeaaDoorExtensionRanksP4
set_option linter.unusedVariables false
set_option linter.unusedSimpArgs false
open Nat renaming reduceAdd → zA, reduceMul → zM, reduceEqDiff → zE, reduceLT → zL, reduceLeDiff → zD, reduceSub → zS, reducePow → zP, reduceBEq → zB
open Int renaming reduceToNat → zI
open List renaming reduceReplicate → zR
namespace Go.Proofs.X
open Go.AM Go
set_option maxRecDepth 100000
set_option maxHeartbeats 4000000
theorem table_e (rs : List USet) (hv : Reads Tryd.prog 37 false [relV rs] (.bool false)) : Reads Tryd.prog 67 false [relV rs] (.tup [.any, .int .i64 1]) := by
 unfold relV at *
 refine Reads.body (rs := [.tmp 2, .tmp 3]) Tryd.func67 rfl Tryd.ntmps67 rfl (by simp) ?_
 generalize hQr : retQ _ _ _ = Qr
 refine AW.seq fun K1 hK1 => ?_
 refine AW.regionK 0 (fun _ => none) [1] [1] ?_
 simp only [go_sem, reduceIte, reduceCtorEq, zA, zM, zE, zL, zD, zS, zP, zB, zI, zR]
 repeat with_reducible refine cj ?_ ?_
 all_goals try first | omega
 refine hK1 _ _ _ ?_; clear hK1
 refine AW.seq fun K2 hK2 => ?_
 refine AW.seq fun K3 hK3 => ?_
 refine AW.regionK 0 (fun ii => if ii = 1 then some (.reads false (.bool false)) else none) [1, 21] [1] ?_
 simp only [go_sem, reduceIte, reduceCtorEq, zA, zM, zE, zL, zD, zS, zP, zB, zI, zR]
 repeat with_reducible refine cj ?_ ?_
 all_goals try first | (exact hv) | omega | exact ent (by kernel_rfl)
 refine hK3 _ _ _ ?_; clear hK3
 refine AW.cond rfl (by simp only [go_sem, reduceIte, reduceCtorEq, zA, zM, zE, zL, zD, zS, zP, zB, zI, zR]) ?_ ?_
 ·intro hb
  try simp only [hB, decide_eq_true_eq, decide_eq_false_iff_not] at hb
  refine AW.seq fun K4 hK4 => ?_
  refine AW.regionK 0 (fun _ => none) [2, 3] [] ?_
  simp only [go_sem, reduceIte, reduceCtorEq, zA, zM, zE, zL, zD, zS, zP, zB, zI, zR]
  repeat with_reducible refine cj ?_ ?_
  all_goals try first | omega
  refine hK4 _ _ _ ?_; clear hK4
  refine AW.ret ?_
  rw [← hQr]
  simp only [go_sem, reduceIte, reduceCtorEq, zA, zM, zE, zL, zD, zS, zP, zB, zI, zR]
  exact Wk.refl _
 ·intro hb
  try simp only [hB, decide_eq_true_eq, decide_eq_false_iff_not] at hb
  exfalso; simp at hb
theorem ynk (es : List (List AV)) (e : Int) (he : e ≠ 0) (hv : Reads Tryd.prog 67 false [.agg [.rsl 2 es]] (.tup [.any, .int .i64 e])) : Reads Tryd.prog 42 false [.agg [.rsl 2 es]] (.tup [.any, .int .i64 0, .int .i64 e]) := by
 refine Reads.body (rs := [.tmp 2, .tmp 3, .tmp 4]) Tryd.func42 rfl Tryd.ntmps42 rfl (by simp) ?_
 generalize hQr : retQ _ _ _ = Qr
 refine AW.seq fun K1 hK1 => ?_
 refine AW.regionK 0 (fun _ => none) [1] [1] ?_
 simp only [go_sem, reduceIte, reduceCtorEq, zA, zM, zE, zL, zD, zS, zP, zB, zI, zR]
 repeat with_reducible refine cj ?_ ?_
 all_goals try first | omega
 refine hK1 _ _ _ ?_; clear hK1
 refine AW.seq fun K2 hK2 => ?_
 refine AW.regionK 0 (fun ii => if ii = 1 then some (.reads false (.tup [.any, .int .i64 e])) else none) [1, 2, 4] [1] ?_
 simp only [go_sem, reduceIte, reduceCtorEq, zA, zM, zE, zL, zD, zS, zP, zB, zI, zR]
 repeat with_reducible refine cj ?_ ?_
 all_goals try first | (exact hv) | omega | exact ent (by kernel_rfl)
 refine hK2 _ _ _ ?_; clear hK2
 refine AW.seq fun K3 hK3 => ?_
 refine AW.seq fun K4 hK4 => ?_
 refine AW.regionK 0 (fun _ => none) [1, 2, 4, 11] [1] ?_
 simp only [go_sem, reduceIte, reduceCtorEq, zA, zM, zE, zL, zD, zS, zP, zB, zI, zR]
 repeat with_reducible refine cj ?_ ?_
 all_goals try first | omega
 refine hK4 _ _ _ ?_; clear hK4
 refine AW.cond rfl (by simp only [go_sem, reduceIte, reduceCtorEq, zA, zM, zE, zL, zD, zS, zP, zB, zI, zR]) ?_ ?_
 ·intro hb
  try simp only [hB, decide_eq_true_eq, decide_eq_false_iff_not] at hb
  refine AW.seq fun K5 hK5 => ?_
  refine AW.regionK 0 (fun _ => none) [2, 3, 4] [] ?_
  simp only [go_sem, reduceIte, reduceCtorEq, zA, zM, zE, zL, zD, zS, zP, zB, zI, zR]
  repeat with_reducible refine cj ?_ ?_
  all_goals try first | omega
  refine hK5 _ _ _ ?_; clear hK5
  refine AW.ret ?_
  rw [← hQr]
  simp only [go_sem, reduceIte, reduceCtorEq, zA, zM, zE, zL, zD, zS, zP, zB, zI, zR]
  exact Wk.refl _
 ·intro hb
  try simp only [hB, decide_eq_true_eq, decide_eq_false_iff_not] at hb
  exfalso; exact he hb
def allW (n : Nat) (t : List (List Bool)) : Int := mapI (yiz (belL n t) n) (.str (keyS (List.replicate n false)))
theorem yhu (n : Nat) (t : List (List Bool)) (hs : Sq n t) (hn : n ≤ 512) (hp : poB n t = true) (hbud : cntL (belL n t) n n ≤ 5000) (hbig : allW n t ≤ 1125899906842624) :
  Upd Tryd.prog 42 [] [relB t] (fun k => .tup [.mp ⟨0, k, none⟩, .int .i64 (allW n t), .int .i64 0]) (fun k => [(0, some ⟨k, k, ya0, yiz (belL n t) n⟩)]) := by
 have ht := yrf n t hs hn hp hbud
 have ho := yhp n t hs hn
 have hkey := Reads.flat (yp9 n (belL n t) (List.replicate n false) (by simp) hn) rfl
 have hWk := ydq (belL n t) n (n + 1)
 have hmw := hWk.mapWf (P := Tryd.prog) ygj
 have hflt := hWk.flt
 unfold allW yiz at *
 unfold stO stV relB at *
 generalize downW (belL n t) n (n + 1) = E at *
 generalize belL n t = bel at *
 refine Upd.of_body (rs := [.tmp 2, .tmp 3, .tmp 4]) Tryd.func42 rfl Tryd.ntmps42 rfl (by simp) ?_
 intro k0 k hk0 hk1
 generalize hQr : retQ _ _ _ = Qr
 refine AW.seq fun K1 hK1 => ?_
 refine AW.regionK 100 (fun _ => none) [1] [101, 107] ?_
 simp only [go_sem, reduceIte, reduceCtorEq, zA, zM, zE, zL, zD, zS, zP, zB, zI, zR]
 repeat with_reducible refine cj ?_ ?_
 all_goals try first | omega
 refine hK1 _ _ _ ?_; clear hK1
 refine AW.seq fun K2 hK2 => ?_
 refine AW.regionK 100 (fun ii => if ii = 1 then some (.upd [] (fun k => [(0, some ⟨k, k, ya0, E⟩)]) (fun k => .tup [.mp ⟨0, k, none⟩, .int .i64 0])) else none) [1, 2, 4] [101, 107] ?_
 simp only [go_sem, reduceIte, reduceCtorEq, zA, zM, zE, zL, zD, zS, zP, zB, zI, zR, hflt]
 repeat with_reducible refine cj ?_ ?_
 all_goals try first | (exact ht) | omega | exact ent (by kernel_rfl)
 refine hK2 _ _ _ ?_; clear hK2
 refine AW.seq fun K3 hK3 => ?_
 refine AW.seq fun K4 hK4 => ?_
 refine AW.regionK 100 (fun _ => none) [1, 2, 4, 11] [101, 107] ?_
 simp only [go_sem, reduceIte, reduceCtorEq, zA, zM, zE, zL, zD, zS, zP, zB, zI, zR]
 repeat with_reducible refine cj ?_ ?_
 all_goals try first | omega
 refine hK4 _ _ _ ?_; clear hK4
 refine AW.cond rfl (by simp only [go_sem, reduceIte, reduceCtorEq, zA, zM, zE, zL, zD, zS, zP, zB, zI, zR]) ?_ ?_
 ·intro hb
  try simp only [hB, decide_eq_true_eq, decide_eq_false_iff_not] at hb
  exfalso; simp at hb
 ·intro hb
  try simp only [hB, decide_eq_true_eq, decide_eq_false_iff_not] at hb
  refine AW.skip ?_
  refine hK3 _ _ _ ?_; clear hK3
  refine AW.seq fun K5 hK5 => ?_
  refine AW.regionK 100 (fun ii => if ii = 2 then some (.upd [] (fun k => [(0, some ⟨k, k, 3, [[.int .i64 n, .rsl 1 (lisR bel), .osl 1 (yar (List.replicate n false))]]⟩)]) (fun k => .ptr ⟨0, k, none⟩ 0 0)) else if ii = 3 then some (.reads true (.str (keyS (List.replicate n false)))) else none) [2, 3] [107] ?_
  simp only [go_sem, reduceIte, reduceCtorEq, zA, zM, zE, zL, zD, zS, zP, zB, zI, zR]
  repeat with_reducible refine cj ?_ ?_
  all_goals try first | (first | exact ho | exact hkey | exact hmw) | omega | exact ent (by kernel_rfl)
  refine hK5 _ _ _ ?_; clear hK5
  refine AW.seq fun K6 hK6 => ?_
  refine AW.seq fun K7 hK7 => ?_
  refine AW.regionK 100 (fun _ => none) [2, 3, 19] [107] ?_
  simp only [go_sem, reduceIte, reduceCtorEq, zA, zM, zE, zL, zD, zS, zP, zB, zI, zR]
  repeat with_reducible refine cj ?_ ?_
  all_goals try first | omega
  refine hK7 _ _ _ ?_; clear hK7
  refine AW.cond rfl (by simp only [go_sem, reduceIte, reduceCtorEq, zA, zM, zE, zL, zD, zS, zP, zB, zI, zR]) ?_ ?_
  ·intro hb
   try simp only [hB, decide_eq_true_eq, decide_eq_false_iff_not] at hb
   exfalso; omega
  ·intro hb
   try simp only [hB, decide_eq_true_eq, decide_eq_false_iff_not] at hb
   refine AW.skip ?_
   refine hK6 _ _ _ ?_; clear hK6
   refine AW.seq fun K8 hK8 => ?_
   refine AW.regionK 100 (fun _ => none) [2, 3, 4] [107] ?_
   simp only [go_sem, reduceIte, reduceCtorEq, zA, zM, zE, zL, zD, zS, zP, zB, zI, zR]
   repeat with_reducible refine cj ?_ ?_
   all_goals try first | omega
   refine hK8 _ _ _ ?_; clear hK8
   refine AW.ret ?_
   rw [← hQr]
   simp only [go_sem, reduceIte, reduceCtorEq, zA, zM, zE, zL, zD, zS, zP, zB, zI, zR]
   refine ⟨[(107, 0, true)], ?_⟩
   simp only [go_sem, reduceIte, zE, hflt]
theorem counted_g (n : Nat) (t : List (List Bool)) (hs : Sq n t) (hn : n ≤ 512) (hp : poB n t = true) (hbud : cntL (belL n t) n n ≤ 5000) (hbig : 1125899906842624 < allW n t) :
  Reads Tryd.prog 42 false [relB t] (.tup [.any, .int .i64 0, .int .i64 9]) := by
 have ht := yrf n t hs hn hp hbud
 have ho := yhp n t hs hn
 have hkey := Reads.flat (yp9 n (belL n t) (List.replicate n false) (by simp) hn) rfl
 have hWk := ydq (belL n t) n (n + 1)
 have hflt := hWk.flt
 have hmw := hWk.mapWf (P := Tryd.prog) ygj
 unfold allW yiz at *
 unfold stO stV relB at *
 generalize downW (belL n t) n (n + 1) = E at *
 generalize belL n t = bel at *
 refine Reads.body (rs := [.tmp 2, .tmp 3, .tmp 4]) Tryd.func42 rfl Tryd.ntmps42 rfl (by simp) ?_
 generalize hQr : retQ _ _ _ = Qr
 refine AW.seq fun K1 hK1 => ?_
 refine AW.regionK 0 (fun _ => none) [1] [1, 7] ?_
 simp only [go_sem, reduceIte, reduceCtorEq, zA, zM, zE, zL, zD, zS, zP, zB, zI, zR]
 repeat with_reducible refine cj ?_ ?_
 all_goals try first | omega
 refine hK1 _ _ _ ?_; clear hK1
 refine AW.seq fun K2 hK2 => ?_
 refine AW.regionK 0 (fun ii => if ii = 1 then some (.upd [] (fun k => [(0, some ⟨k, k, ya0, E⟩)]) (fun k => .tup [.mp ⟨0, k, none⟩, .int .i64 0])) else none) [1, 2, 4] [1, 7] ?_
 simp only [go_sem, reduceIte, reduceCtorEq, zA, zM, zE, zL, zD, zS, zP, zB, zI, zR, hflt]
 repeat with_reducible refine cj ?_ ?_
 all_goals try first | (exact ht) | omega | exact ent (by kernel_rfl)
 refine hK2 _ _ _ ?_; clear hK2
 refine AW.seq fun K3 hK3 => ?_
 refine AW.seq fun K4 hK4 => ?_
 refine AW.regionK 0 (fun _ => none) [1, 2, 4, 11] [1, 7] ?_
 simp only [go_sem, reduceIte, reduceCtorEq, zA, zM, zE, zL, zD, zS, zP, zB, zI, zR]
 repeat with_reducible refine cj ?_ ?_
 all_goals try first | omega
 refine hK4 _ _ _ ?_; clear hK4
 refine AW.cond rfl (by simp only [go_sem, reduceIte, reduceCtorEq, zA, zM, zE, zL, zD, zS, zP, zB, zI, zR]) ?_ ?_
 ·intro hb
  try simp only [hB, decide_eq_true_eq, decide_eq_false_iff_not] at hb
  exfalso; simp at hb
 ·intro hb
  try simp only [hB, decide_eq_true_eq, decide_eq_false_iff_not] at hb
  refine AW.skip ?_
  refine hK3 _ _ _ ?_; clear hK3
  refine AW.seq fun K5 hK5 => ?_
  refine AW.regionK 0 (fun ii => if ii = 2 then some (.upd [] (fun k => [(0, some ⟨k, k, 3, [[.int .i64 n, .rsl 1 (lisR bel), .osl 1 (yar (List.replicate n false))]]⟩)]) (fun k => .ptr ⟨0, k, none⟩ 0 0)) else if ii = 3 then some (.reads true (.str (keyS (List.replicate n false)))) else none) [2, 3] [7] ?_
  simp only [go_sem, reduceIte, reduceCtorEq, zA, zM, zE, zL, zD, zS, zP, zB, zI, zR]
  repeat with_reducible refine cj ?_ ?_
  all_goals try first | (first | exact ho | exact hkey | exact hmw) | omega | exact ent (by kernel_rfl)
  refine hK5 _ _ _ ?_; clear hK5
  refine AW.seq fun K6 hK6 => ?_
  refine AW.seq fun K7 hK7 => ?_
  refine AW.regionK 0 (fun _ => none) [2, 3, 19] [7] ?_
  simp only [go_sem, reduceIte, reduceCtorEq, zA, zM, zE, zL, zD, zS, zP, zB, zI, zR]
  repeat with_reducible refine cj ?_ ?_
  all_goals try first | omega
  refine hK7 _ _ _ ?_; clear hK7
  refine AW.cond rfl (by simp only [go_sem, reduceIte, reduceCtorEq, zA, zM, zE, zL, zD, zS, zP, zB, zI, zR]) ?_ ?_
  ·intro hb
   try simp only [hB, decide_eq_true_eq, decide_eq_false_iff_not] at hb
   refine AW.seq fun K8 hK8 => ?_
   refine AW.regionK 0 (fun _ => none) [2, 3, 4] [7] ?_
   simp only [go_sem, reduceIte, reduceCtorEq, zA, zM, zE, zL, zD, zS, zP, zB, zI, zR]
   repeat with_reducible refine cj ?_ ?_
   all_goals try first | omega
   refine hK8 _ _ _ ?_; clear hK8
   refine AW.ret ?_
   rw [← hQr]
   simp only [go_sem, reduceIte, reduceCtorEq, zA, zM, zE, zL, zD, zS, zP, zB, zI, zR]
   exact Wk.refl _
  ·intro hb
   try simp only [hB, decide_eq_true_eq, decide_eq_false_iff_not] at hb
   exfalso; omega
theorem count_u (n : Nat) (t : List (List Bool)) (hs : Sq n t) (hn : n ≤ 512) (hp : poB n t = true) (hbud : cntL (belL n t) n n ≤ 5000) (hbig : allW n t ≤ 1125899906842624) : Reads Tryd.prog 13 false [relB t] (.tup [.int .i64 (allW n t), .int .i64 0]) := by
 have hc := yhu n t hs hn hp hbud hbig
 have hflt := (ydq (belL n t) n (n + 1)).flt
 unfold yiz at *
 generalize allW n t = a at *
 generalize downW (belL n t) n (n + 1) = E at *
 unfold relB at *
 refine Reads.body (rs := [.tmp 2, .tmp 3]) Tryd.func13 rfl Tryd.ntmps13 rfl (by simp) ?_
 generalize hQr : retQ _ _ _ = Qr
 refine AW.seq fun K1 hK1 => ?_
 refine AW.regionK 0 (fun _ => none) [1] [1] ?_
 simp only [go_sem, reduceIte, reduceCtorEq, zA, zM, zE, zL, zD, zS, zP, zB, zI, zR]
 repeat with_reducible refine cj ?_ ?_
 all_goals try first | omega
 refine hK1 _ _ _ ?_; clear hK1
 refine AW.seq fun K2 hK2 => ?_
 refine AW.regionK 0 (fun ii => if ii = 1 then some (.upd [] (fun k => [(0, some ⟨k, k, ya0, E⟩)]) (fun k => .tup [.mp ⟨0, k, none⟩, .int .i64 a, .int .i64 0])) else none) [5, 6] [] ?_
 simp only [go_sem, reduceIte, reduceCtorEq, zA, zM, zE, zL, zD, zS, zP, zB, zI, zR, hflt]
 repeat with_reducible refine cj ?_ ?_
 all_goals try first | (exact hc) | omega | exact ent (by kernel_rfl)
 refine hK2 _ _ _ ?_; clear hK2
 refine AW.seq fun K3 hK3 => ?_
 refine AW.regionK 0 (fun _ => none) [2, 3] [] ?_
 simp only [go_sem, reduceIte, reduceCtorEq, zA, zM, zE, zL, zD, zS, zP, zB, zI, zR]
 repeat with_reducible refine cj ?_ ?_
 all_goals try first | omega
 refine hK3 _ _ _ ?_; clear hK3
 refine AW.ret ?_
 rw [← hQr]
 simp only [go_sem, reduceIte, reduceCtorEq, zA, zM, zE, zL, zD, zS, zP, zB, zI, zR]
 exact Wk.refl _
end Go.Proofs.X

/- A region that ends in the compare of an empty slice with nil: both answers must do. -/
namespace Go.AM

theorem ypv {P : Program} {n base : Nat} {orc : Nat → Option Orc} {all tail : List Oper} {Q : AX → Post} {K : Post} : ∀ (rest : List Oper) (i : Nat) (e : Env) (s : yap) (k : Nat), arun P n base orc all rest i e s k K →
    ∀ x0, (∀ e s k ρ a w, K e s k → Goes x0 ⟨ρ, s, clk k, w, x0.F⟩ → St ⟨ρ, s, clk k, w, x0.F⟩ e n a → wpList P all.toArray (LiftX x0 n Q) tail a w) →
    ∀ ρ a w, Goes x0 ⟨ρ, s, clk k, w, x0.F⟩ → St ⟨ρ, s, clk k, w, x0.F⟩ e n a → wpList P all.toArray (LiftX x0 n Q) (rest ++ tail) a w
  | [], _, e, s, k, h, x0, hK, ρ, a, w, hg, hs => hK e s k ρ a w h hg hs
  | o :: rest, i, e, s, k, h, x0, hK, ρ, a, w, hg, hs => by
    have ih := ypv (P := P) (n := n) (base := base) (orc := orc) (all := all) (Q := Q) (tail := tail) (K := K) rest (i + 1)
    unfold arun at h
    rw [List.cons_append]
    split at h
    · exact h.elim
    · rename_i r hr
      split at h
      · rename_i hgd
        obtain ⟨hvc, hd, hrest⟩ := h
        unfold wpList
        rw [if_pos (by simp [Region.wanted, hgd])]
        refine .inl (yee (x := ⟨ρ, s, clk k, w, x0.F⟩) hs.ok hs.env hr hvc clk_fresh.1 clk_fresh.2 (B := k) (fun _ h => h) fun y u hgo hys hyc hru => ?_)
        have hgo2 := hgo.ok.goes_grow (s' := y.s) (c' := clk (k + 2)) (w' := y.w) (fun _ _ h => h) (fun g hg => by
          rcases hyc g hg with h1 | h1 | h1
          · exact Nat.lt_of_lt_of_le h1 (by omega)
          · simp [clk, h1]
          · simp [clk, h1]) (.refl _ _)
        have hall := hg.trans (hgo.trans hgo2)
        have hF : y.F = x0.F := hgo.F
        rw [← hys] at hrest
        rw [hF] at hall hgo2
        exact ih _ _ _ hrest x0 hK y.ρ _ y.w hall (yd6 ((hgo.trans hgo2).le) hs hgo2.ok hd (hru.mono hgo2.le))
      · rename_i j want hgd
        split at h
        · rename_i q b hy
          split at h
          rotate_left
          · rename_i c u hu
            obtain ⟨hq, hb, hvc, hd, hrest⟩ := h
            have hyd := yb3 hs hy hq
            unfold wpList
            rw [if_pos (by simp [Region.wanted, hgd, hyd, hb])]
            refine .inl (yee (x := ⟨ρ, s, clk k, w, x0.F⟩) hs.ok hs.env hr hvc clk_fresh.1 clk_fresh.2 (B := k) (fun _ h => h) fun y u' hgo hys hyc hru => ?_)
            have hgo2 := hgo.ok.goes_grow (s' := y.s) (c' := clk (k + 2)) (w' := y.w) (fun _ _ h => h) (fun g hg => by
              rcases hyc g hg with h1 | h1 | h1
              · exact Nat.lt_of_lt_of_le h1 (by omega)
              · simp [clk, h1]
              · simp [clk, h1]) (.refl _ _)
            have hall := hg.trans (hgo.trans hgo2)
            have hF : y.F = x0.F := hgo.F
            rw [hu] at hys
            rw [← hys] at hrest
            rw [hF] at hall hgo2
            exact ih _ _ _ hrest x0 hK y.ρ _ y.w hall (yd6 ((hgo.trans hgo2).le) hs hgo2.ok hd (hru.mono hgo2.le))
          rename_i hu
          obtain ⟨hvc, hd, hrest⟩ := h
          unfold wpList
          by_cases hq : q ∧ b = want
          · have hyd := yb3 hs hy hq.1
            rw [if_pos (by simp [Region.wanted, hgd, hyd, hq.2])]
            refine .inl (yee (x := ⟨ρ, s, clk k, w, x0.F⟩) hs.ok hs.env hr (hvc hq) clk_fresh.1 clk_fresh.2 (B := k) (fun _ h => h) fun y u' hgo hys hyc hru => ?_)
            have hgo2 := hgo.ok.goes_grow (s' := y.s) (c' := clk (k + 2)) (w' := y.w) (fun _ _ h => h) (fun g hg => by
              rcases hyc g hg with h1 | h1 | h1
              · exact Nat.lt_of_lt_of_le h1 (by omega)
              · simp [clk, h1]
              · simp [clk, h1]) (.refl _ _)
            have hall := hg.trans (hgo.trans hgo2)
            have hF : y.F = x0.F := hgo.F
            have hys : y.s = s := by rw [hu] at hys; exact hys
            rw [← hys] at hrest
            rw [hF] at hall hgo2
            exact ih _ _ _ hrest x0 hK y.ρ _ y.w hall (yd6 ((hgo.trans hgo2).le) hs hgo2.ok hd (Rel.opt _ _ _ (fun _ => hru.mono hgo2.le) (fun hn => absurd hq hn)))
          · have hyd : Region.wanted o (yielded all.toArray a.tmps) = false := by
              by_cases hq1 : q
              · have := yb3 hs hy hq1
                have hne : b ≠ want := fun e => hq ⟨hq1, e⟩
                simp [Region.wanted, hgd, this, hne]
              · have := yeu hs hy hq1
                simp [Region.wanted, hgd, this]
            rw [if_neg (by simp [hyd])]
            have hgo2 := hs.ok.goes_grow (s' := s) (c' := clk (k + 2)) (w' := w) (fun _ _ h => h) (fun g (hg : g < k) => show g < k + 2 by omega) (.refl _ _)
            exact ih _ _ _ hrest x0 hK ρ _ w (hg.trans hgo2) (yd6 hgo2.le hs hgo2.ok hd (.opt _ _ _ (fun h => absurd h hq) (fun _ => rfl)))
        · exact h.elim

/-- A region whose last operation holds a slice of length 0 against nil. -/
theorem AW.regionNil {P : Program} {n id : Nat} {l : List Oper} {d T T2 : Nat} {x : Operand} {ty : TypeId} {pos : String} {es : Array Edge} {Q : AX → Post} {e : Env} {s : yap} {k : Nat} (base : Nat) (orc : Nat → Option Orc) (hd : d < n) (hT : (slD P T).isSome = true)
    (h : arun P n base orc (l ++ [Oper.mk (some d) (.binOp .eql T x (.const (.slice none 0 0)) T2) ty pos es none]) l 0 e s k fun e s k => (ev e x).1 ∧ (∃ sz, (ev e x).2 = .rsl sz []) ∧ ∀ b, Q .normal ((d, .bool b) :: e) s k) :
    AW P n (.region id (l ++ [Oper.mk (some d) (.binOp .eql T x (.const (.slice none 0 0)) T2) ty pos es none]).toArray false) Q e s k := by
  intro x0 ρ a w hg hs
  refine wp_region_lit (ypv l 0 e s k h x0 ?_ ρ a w hg hs)
  intro e s k ρ a w hK hg hs
  obtain ⟨h1, ⟨sz, h2⟩, h3⟩ := hK
  unfold wpList
  rw [if_pos (by simp [Region.wanted])]
  have hr := ykn hs.ok.gl hs.env x h1
  rw [h2] at hr
  have hsl : ∃ ad len cap, a.eval x = .slice ad len cap := by
    have := hr.rsl_inv
    generalize a.eval x = u at this
    cases this
    · exact ⟨_, _, _, rfl⟩
    · exact ⟨_, _, _, rfl⟩
  obtain ⟨ad, len, cap, hev⟩ := hsl
  obtain ⟨y, hy⟩ := Option.isSome_iff_exists.1 hT
  refine .inl (ycs (w' := w) (s := do eqGuard .eql T x (.const (.slice none 0 0)) (a.eval x) (a.eval (.const (.slice none 0 0))); binOp .eql T (a.eval x) (a.eval (.const (.slice none 0 0)))) (u := .bool ad.isNone) (by simp only [execOp]) ?_ ?_)
  · rw [hev]
    have hg : (eqGuard .eql T x (.const (.slice none 0 0)) (.slice ad len cap) (.slice none 0 0)).run P w = .ok () w := by
      unfold eqGuard
      split <;> rfl
    show (do eqGuard .eql T x (.const (.slice none 0 0)) (.slice ad len cap) (.slice none 0 0); Go.binOp .eql T (.slice ad len cap) (.slice none 0 0)).run P w = _
    simp only [Sem.run_bind, hg, Result.andThen_ok, Go.binOp, yh9 hy, Sem.run_pure]
  · exact ⟨ρ, _, s, k, h3 ad.isNone, hg, yd6 (dst := some d) (.refl _) hs hs.ok hd (.bool _)⟩

end Go.AM

namespace Go.Proofs.X
open Go.AM Go
set_option maxRecDepth 100000
set_option maxHeartbeats 4000000
theorem clone_ne (l : List Int) (hl : l.length ≤ 100000) (hne : l ≠ []) :
  Upd Tryd.prog 51 [] [.rsl 1 (ints l)] (fun k => .sl ⟨0, k, none⟩ 0 l.length none) (fun k => [(0, some ⟨k, k, 1, ints l⟩)]) := by
 have hine : ints l ≠ [] := by cases l with | nil => exact absurd rfl hne | cons a l => simp [ints]
 refine Upd.of_body (rs := [.tmp 2]) Tryd.func51 rfl Tryd.ntmps51 rfl (by simp) ?_
 intro k0 k hk0 hk1
 generalize hQr : retQ _ _ _ = Qr
 refine AW.seq fun K1 hK1 => ?_
 refine AW.regionK 100 (fun _ => none) [0] [] ?_
 simp only [go_sem, reduceIte, reduceCtorEq, zA, zM, zE, zL, zD, zS, zP, zB, zI, zR, yaa]
 repeat with_reducible refine cj ?_ ?_
 all_goals try first | omega
 refine hK1 _ _ _ ?_; clear hK1
 refine AW.seq fun K2 hK2 => ?_
 refine AW.seq fun K3 hK3 => ?_
 refine AW.regionK 100 (fun _ => none) [0, 4] [] ?_
 simp only [go_sem, reduceIte, reduceCtorEq, zA, zM, zE, zL, zD, zS, zP, zB, zI, zR, yaa]
 repeat with_reducible refine cj ?_ ?_
 all_goals try first | (exact hine) | omega
 refine hK3 _ _ _ ?_; clear hK3
 refine AW.cond rfl (by simp only [go_sem, reduceIte, reduceCtorEq, zA, zM, zE, zL, zD, zS, zP, zB, zI, zR]) ?_ ?_
 ·intro hb
  try simp only [hB, decide_eq_true_eq, decide_eq_false_iff_not] at hb
  exfalso; simp at hb
 ·intro hb
  try simp only [hB, decide_eq_true_eq, decide_eq_false_iff_not] at hb
  refine AW.skip ?_
  refine hK2 _ _ _ ?_; clear hK2
  refine AW.seq fun K4 hK4 => ?_
  refine AW.regionK 100 (fun _ => none) [2] [107] ?_
  simp only [go_sem, reduceIte, reduceCtorEq, zA, zM, zE, zL, zD, zS, zP, zB, zI, zR, yaa]
  repeat with_reducible refine cj ?_ ?_
  all_goals try first | omega | (simp [scP, ybj]; done) | exact ybc _ | exact ybm _ | exact ybd _
  refine hK4 _ _ _ ?_; clear hK4
  refine AW.ret ?_
  rw [← hQr]
  simp only [go_sem, reduceIte, reduceCtorEq, zA, zM, zE, zL, zD, zS, zP, zB, zI, zR, yaa]
  refine ⟨[(107, 0, true)], ?_⟩
  simp only [go_sem, reduceIte, zE, yct]
theorem clone_nil :
  Upd Tryd.prog 51 [] [.rsl 1 []] (fun k => .sl ⟨0, k, none⟩ 0 0 none) (fun k => [(0, some ⟨k, k, 1, []⟩)]) := by
 refine Upd.of_body (rs := [.tmp 2]) Tryd.func51 rfl Tryd.ntmps51 rfl (by simp) ?_
 intro k0 k hk0 hk1
 generalize hQr : retQ _ _ _ = Qr
 refine AW.seq fun K1 hK1 => ?_
 refine AW.regionK 100 (fun _ => none) [0] [] ?_
 simp only [go_sem, reduceIte, reduceCtorEq, zA, zM, zE, zL, zD, zS, zP, zB, zI, zR]
 repeat with_reducible refine cj ?_ ?_
 all_goals try first | omega
 refine hK1 _ _ _ ?_; clear hK1
 refine AW.seq fun K2 hK2 => ?_
 refine AW.seq fun K3 hK3 => ?_
 refine AW.regionNil (l := [_]) 100 (fun _ => none) (by decide) (by rw [slD33]; rfl) ?_
 simp only [go_sem, reduceIte, zE]
 refine ⟨by decide, ⟨_, rfl⟩, fun b => ?_⟩
 try simp only [go_sem, reduceIte, reduceCtorEq, zA, zM, zE, zL, zD, zS, zP, zB, zI, zR]
 refine hK3 _ _ _ ?_; clear hK3
 refine AW.cond rfl (by simp only [go_sem, reduceIte, reduceCtorEq, zA, zM, zE, zL, zD, zS, zP, zB, zI, zR]) ?_ ?_
 ·intro hb
  try simp only [hB, decide_eq_true_eq, decide_eq_false_iff_not] at hb
  refine AW.seq fun K4 hK4 => ?_
  refine AW.regionK 100 (fun _ => none) [2] [] ?_
  simp only [go_sem, reduceIte, reduceCtorEq, zA, zM, zE, zL, zD, zS, zP, zB, zI, zR]
  repeat with_reducible refine cj ?_ ?_
  all_goals try first | omega
  refine hK4 _ _ _ ?_; clear hK4
  refine AW.nilOwn 2 107 1 rfl ?_
  simp only [go_sem, reduceIte, zE]
  refine AW.ret ?_
  rw [← hQr]
  simp only [go_sem, reduceIte, reduceCtorEq, zA, zM, zE, zL, zD, zS, zP, zB, zI, zR]
  refine ⟨[(107, 0, true)], ?_⟩
  simp only [go_sem, reduceIte, zE, yct]
 ·intro hb
  try simp only [hB, decide_eq_true_eq, decide_eq_false_iff_not] at hb
  refine AW.skip ?_
  refine hK2 _ _ _ ?_; clear hK2
  refine AW.seq fun K5 hK5 => ?_
  refine AW.regionK 100 (fun _ => none) [2] [107] ?_
  simp only [go_sem, reduceIte, reduceCtorEq, zA, zM, zE, zL, zD, zS, zP, zB, zI, zR]
  repeat with_reducible refine cj ?_ ?_
  all_goals try first | omega | (simp [scP, ybj]; done) | exact ybc _ | exact ybm _ | exact ybd _
  refine hK5 _ _ _ ?_; clear hK5
  refine AW.ret ?_
  rw [← hQr]
  simp only [go_sem, reduceIte, reduceCtorEq, zA, zM, zE, zL, zD, zS, zP, zB, zI, zR]
  refine ⟨[(107, 0, true)], ?_⟩
  simp only [go_sem, reduceIte, zE, yct]
theorem clone_u (l : List Int) (hl : l.length ≤ 100000) :
  Upd Tryd.prog 51 [] [.rsl 1 (ints l)] (fun k => .sl ⟨0, k, none⟩ 0 l.length none) (fun k => [(0, some ⟨k, k, 1, ints l⟩)]) := by
 by_cases h : l = []
 ·subst h; exact clone_nil
 ·exact clone_ne l hl h
end Go.Proofs.X

/- The next extension, as the program seeks it. -/
namespace Go.AM
def dAt (n : Nat) (l : List Int) (m : Nat) : List Bool := exD (List.replicate n false) (l.take m)
theorem ybg (n : Nat) (l : List Int) (m : Nat) : (dAt n l m).length = n := by unfold dAt; rw [yn9]; simp
theorem ycf {n : Nat} {l : List Int} {m : Nat} (h : m < l.length) : dAt n l (m + 1) = (dAt n l m).set (l.getD m 0).toNat true := by
  unfold dAt
  rw [List.take_add_one, List.getElem?_eq_getElem h, Option.toList_some, ypl]
  simp [List.getD_eq_getElem?_getD, List.getElem?_eq_getElem h]
theorem extGo_at {n : Nat} {bel : List (List Int)} {d : List Bool} {l : List Int} (h : yej n bel d l = true) {m : Nat} (hm : m < l.length) : exOk n bel (exD d (l.take m)) (l.getD m 0) = true := by
  have h1 := yfr n bel (l.take m) (l.drop m) d
  rw [List.take_append_drop, h] at h1
  have h2 : yej n bel (exD d (l.take m)) (l.drop m) = true := by
    cases e : yej n bel (exD d (l.take m)) (l.drop m) with
    | true => rfl
    | false => rw [e] at h1; simp at h1
  rw [List.drop_eq_getElem_cons hm] at h2
  unfold yej at h2
  simp only [Bool.and_eq_true] at h2
  have : l.getD m 0 = l[m] := by simp [List.getD_eq_getElem?_getD, List.getElem?_eq_getElem hm]
  rw [this]; exact h2.1
structure IsExt (n : Nat) (bel : List (List Int)) (l : List Int) : Prop where
  len : l.length = n
  rng : ∀ m, m < n → 0 ≤ l.getD m 0 ∧ l.getD m 0 < (n : Int)
  free : ∀ m, m < n → yaq bel (dAt n l m) (l.getD m 0).toNat = true
theorem extB_iff {n : Nat} {bel : List (List Int)} {l : List Int} : extB n bel l = true ↔ IsExt n bel l := by
  constructor
  · intro h
    unfold extB at h
    simp only [Bool.and_eq_true, decide_eq_true_eq] at h
    have key := fun m (hm : m < n) => extGo_at h.2 (m := m) (by omega)
    unfold exOk at key
    simp only [Bool.and_eq_true, decide_eq_true_eq] at key
    exact ⟨h.1, fun m hm => (key m hm).1, fun m hm => (key m hm).2⟩
  · intro h
    unfold extB
    simp only [Bool.and_eq_true, decide_eq_true_eq]
    refine ⟨h.len, ?_⟩
    have : ∀ m, m ≤ n → yej n bel (List.replicate n false) (l.take m) = true := by
      intro m
      induction m with
      | zero => intro _; simp [yej]
      | succ m ih =>
        intro hm
        rw [List.take_add_one, List.getElem?_eq_getElem (by rw [h.len]; omega), Option.toList_some, yfr, ih (by omega), Bool.true_and]
        have h1 := h.rng m (by omega)
        have h2 := h.free m (by omega)
        have e : l[m]'(by rw [h.len]; omega) = l.getD m 0 := by simp [List.getD_eq_getElem?_getD, List.getElem?_eq_getElem (show m < l.length by rw [h.len]; omega)]
        rw [e]
        unfold dAt at h2
        simp only [yej, exOk, h1.1, h1.2, h2, decide_true, Bool.and_self]
    have := this n (Nat.le_refl _)
    rwa [List.take_of_length_le (by rw [h.len]; exact Nat.le_refl _)] at this
theorem ybw {bel : List (List Int)} {d : List Bool} {i : Nat} (h : yaq bel d i = true) : d.getD i false = false := by
  unfold yaq at h
  cases e : d.getD i false with
  | false => rfl
  | true => rw [e] at h; simp at h
theorem IsExt.cnt {n : Nat} {bel : List (List Int)} {l : List Int} (h : IsExt n bel l) : ∀ m, m ≤ n → cntT (dAt n l m) = m
  | 0, _ => by simp [dAt, exD, yhq]
  | m + 1, hm => by
    have h1 := h.rng m (by omega)
    rw [ycf (by rw [h.len]; omega), ydp (by rw [ybg]; omega) (ybw (h.free m (by omega))), h.cnt m (by omega)]
theorem IsExt.back {n : Nat} {bel : List (List Int)} {l : List Int} (h : IsExt n bel l) {m : Nat} (hm : m < n) : (dAt n l (m + 1)).set (l.getD m 0).toNat false = dAt n l m := by
  have h1 := h.rng m hm
  rw [ycf (by rw [h.len]; omega), List.set_set]
  have h2 := ybw (h.free m hm)
  apply List.ext_getElem?
  intro x
  rw [List.getElem?_set]
  split
  · rename_i e
    subst e
    rw [if_pos (by rw [ybg]; omega), List.getElem?_eq_getElem (by rw [ybg]; omega)]
    rw [List.getD_eq_getElem?_getD, List.getElem?_eq_getElem (by rw [ybg]; omega)] at h2
    simpa using h2.symm
  · rfl
theorem yl3 {d : List Bool} (h : cntT d = d.length) : d = List.replicate d.length true := by
  unfold cntT at h
  rw [List.countP_eq_length] at h
  exact List.eq_replicate_iff.2 ⟨rfl, fun b hb => h b hb⟩
theorem IsExt.full {n : Nat} {bel : List (List Int)} {l : List Int} (h : IsExt n bel l) : dAt n l n = List.replicate n true := by
  have := yl3 (d := dAt n l n) (by rw [h.cnt n (Nat.le_refl _), ybg])
  rwa [ybg] at this
def ynl (bel : List (List Int)) (n : Nat) (l : List Int) : Nat → Option (List Int)
  | 0 => none
  | m + 1 => if 0 ≤ nxt (yaq bel (dAt n l m)) n ((l.getD m 0).toNat + 1) then
      some (finI bel n ((dAt n l m).set (nxt (yaq bel (dAt n l m)) n ((l.getD m 0).toNat + 1)).toNat true, l.take m ++ [nxt (yaq bel (dAt n l m)) n ((l.getD m 0).toNat + 1)]) (n - (m + 1))).2
    else ynl bel n l m
theorem nextK_hit {bel : List (List Int)} {n : Nat} {l : List Int} {m : Nat} (h : 0 ≤ nxt (yaq bel (dAt n l m)) n ((l.getD m 0).toNat + 1)) : ynl bel n l (m + 1) = some (finI bel n ((dAt n l m).set (nxt (yaq bel (dAt n l m)) n ((l.getD m 0).toNat + 1)).toNat true, l.take m ++ [nxt (yaq bel (dAt n l m)) n ((l.getD m 0).toNat + 1)]) (n - (m + 1))).2 := if_pos h
theorem nextK_miss {bel : List (List Int)} {n : Nat} {l : List Int} {m : Nat} (h : ¬ 0 ≤ nxt (yaq bel (dAt n l m)) n ((l.getD m 0).toNat + 1)) : ynl bel n l (m + 1) = ynl bel n l m := if_neg h
end Go.AM

namespace Go.Proofs.X
open Go.AM Go
set_option maxRecDepth 100000
set_option maxHeartbeats 4000000
def ysx : Option (List Int) → AV
 | none => .tup [.rsl 1 [], .int .i64 7]
 | some l => .tup [.rsl 1 (ints l), .int .i64 0]
theorem next_f (n : Nat) (t : List (List Bool)) (hs : Sq n t) (hn : n ≤ 512) (hp : poB n t = true) (l : List Int) (hx : extB n (belL n t) l = true) : Reads Tryd.prog 16 true [relB t, .rsl 1 (ints l)] (ysx (ynl (belL n t) n l n)) := by
 have hv := yey n t hs hn
 rw [hp] at hv
 have hpo := (yie hs).1 hp
 have hIE := extB_iff.1 hx
 have hln := hIE.len
 have he := yj3 n t hs hn l (by omega)
 rw [hx] at he
 have ho := yhp n t hs hn
 have hok := ygy t hn
 have hcl := fun m => clone_u (l.take m)
 have hnext := fun m i hi => yj2 hok (dAt n l m) (ybg n l m) i hi
 have hfin := fun (m : Nat) (i : Int) (hm : m < n) (h0 : 0 ≤ i) (h1 : yaq (belL n t) (dAt n l m) i.toNat = true) (h2 : i.toNat < n) => finish_u hok ((dAt n l m).set i.toNat true) (l.take m ++ [i]) (by simp [ybg]) (by simp; omega)
  (fun j hj => yrc hpo _ _ (by simp [ybg]) (by rw [ydp (by rw [ybg]; exact h2) (ybw h1), hIE.cnt m (by omega)]; simp; omega) j hj)
 unfold stO stV relB at *
 generalize belL n t = bel at *
 refine Reads.bodyF (rs := [.tmp 4, .tmp 5]) Tryd.func16 rfl Tryd.ntmps16 rfl (by simp) ?_
 generalize hQr : retQ _ _ _ = Qr
 refine AW.seq fun K1 hK1 => ?_
 refine AW.regionK 0 (fun _ => none) [1, 2] [2, 20] ?_
 simp only [go_sem, reduceIte, reduceCtorEq, zA, zM, zE, zL, zD, zS, zP, zB, zI, zR, yab, yaa]
 repeat with_reducible refine cj ?_ ?_
 all_goals try first | omega
 refine hK1 _ _ _ ?_; clear hK1
 refine AW.seq fun K2 hK2 => ?_
 refine AW.block ?_
 refine AW.seq fun K3 hK3 => ?_
 refine AW.regionK 0 (fun ii => if ii = 1 then some (.reads false (.bool true)) else none) [1, 2, 10] [2, 20] ?_
 simp only [go_sem, reduceIte, reduceCtorEq, zA, zM, zE, zL, zD, zS, zP, zB, zI, zR, yab, yaa]
 repeat with_reducible refine cj ?_ ?_
 all_goals try first | (exact hv) | omega | exact ent (by kernel_rfl)
 refine hK3 _ _ _ ?_; clear hK3
 refine AW.cond rfl (by simp only [go_sem, reduceIte, reduceCtorEq, zA, zM, zE, zL, zD, zS, zP, zB, zI, zR]) ?_ ?_
 ·intro hb
  try simp only [hB, decide_eq_true_eq, decide_eq_false_iff_not] at hb
  exfalso; simp at hb
 ·intro hb
  try simp only [hB, decide_eq_true_eq, decide_eq_false_iff_not] at hb
  refine AW.seq fun K4 hK4 => ?_
  refine AW.regionK 0 (fun ii => if ii = 2 then some (.reads false (.bool true)) else none) [1, 2, 14] [2, 20] ?_
  simp only [go_sem, reduceIte, reduceCtorEq, zA, zM, zE, zL, zD, zS, zP, zB, zI, zR, yab, yaa]
  repeat with_reducible refine cj ?_ ?_
  all_goals try first | (exact he) | omega | exact ent (by kernel_rfl)
  refine hK4 _ _ _ ?_; clear hK4
  refine AW.cond rfl (by simp only [go_sem, reduceIte, reduceCtorEq, zA, zM, zE, zL, zD, zS, zP, zB, zI, zR]) ?_ ?_
  ·intro hb
   try simp only [hB, decide_eq_true_eq, decide_eq_false_iff_not] at hb
   exfalso; simp at hb
  ·intro hb
   try simp only [hB, decide_eq_true_eq, decide_eq_false_iff_not] at hb
   refine AW.skip ?_
   refine hK2 _ _ _ ?_; clear hK2
   refine AW.seq fun K5 hK5 => ?_
   refine AW.regionK 0 (fun ii => if ii = 1 then some (.upd [] (fun k => [(0, some ⟨k, k, 3, [[.int .i64 n, .rsl 1 (lisR bel), .osl 1 (yar (List.replicate n false))]]⟩)]) (fun k => .ptr ⟨0, k, none⟩ 0 0)) else none) [1, 6] [20] ?_
   simp only [go_sem, reduceIte, reduceCtorEq, zA, zM, zE, zL, zD, zS, zP, zB, zI, zR, yab, yaa]
   repeat with_reducible refine cj ?_ ?_
   all_goals try first | (exact ho) | omega | exact ent (by kernel_rfl)
   refine hK5 _ _ _ ?_; clear hK5
   refine AW.seq fun K6 hK6 => ?_
   refine AW.seq fun K7 hK7 => ?_
   refine AW.regionK 0 (fun _ => none) [1, 6, 25, 26] [20] ?_
   simp only [go_sem, reduceIte, reduceCtorEq, zA, zM, zE, zL, zD, zS, zP, zB, zI, zR, yab, yaa]
   repeat with_reducible refine cj ?_ ?_
   all_goals try first | omega
   refine hK7 _ _ _ ?_; clear hK7
   refine AW.block ?_
   refine AW.loopE (fun mm ee ss kk => ∃ (j g v : Nat), n - j = mm ∧ ee = [(1, .rsl 1 (ints l)), (6, .ptr ⟨20, g, none⟩ 0 0), (25, .int .i64 n), (26, .int .i64 (j : Nat))] ∧ ss = [(20, some ⟨g, v, 3, [[.int .i64 n, .rsl 1 (lisR bel), .osl 1 (yar (List.replicate j true ++ List.replicate (n - j) false))]]⟩)] ∧ (j ≤ n)) ?_ ?_
   ·refine ⟨_, 0, ?_, ?_, rfl, ?henv, ?hstore, ?hst⟩
    case henv =>
     repeat' (first | rfl | refine yac ?_ ?_ | refine yae ?_ ?_ ?_ ?_ | refine yah ?_ | refine yaf ?_ | refine yai ?_ | refine yaj ?_ | refine yan ?_ ?_ ?_ | refine yak ?_ ?_ ?_ | refine yal ?_ | refine yag ?_ ?_ | refine yad ?_ ?_)
     all_goals (first | omega | (simp; done))
    case hstore =>
     repeat' (first | rfl | refine yac ?_ ?_ | refine yae ?_ ?_ ?_ ?_ | refine yah ?_ | refine yaf ?_ | refine yai ?_ | refine yaj ?_ | refine yan ?_ ?_ ?_ | refine yak ?_ ?_ ?_ | refine yal ?_ | refine yag ?_ ?_ | refine yad ?_ ?_)
     all_goals (simp)
    case hst =>
     first | trivial | omega | (simp; done) | (simp; omega)
   rintro mm ee ss kk ⟨j, g, v, rfl, rfl, rfl, hI⟩
   generalize hQl1 : ya9 _ _ = Ql1
   refine AW.seq fun K8 hK8 => ?_
   refine AW.regionK 0 (fun _ => none) [1, 6, 25, 26, 27] [20] ?_
   simp only [go_sem, reduceIte, reduceCtorEq, zA, zM, zE, zL, zD, zS, zP, zB, zI, zR, yab, yaa]
   repeat with_reducible refine cj ?_ ?_
   all_goals try first | omega
   refine hK8 _ _ _ ?_; clear hK8
   refine AW.seq fun K9 hK9 => ?_
   refine AW.cond rfl (by simp only [go_sem, reduceIte, reduceCtorEq, zA, zM, zE, zL, zD, zS, zP, zB, zI, zR]) ?_ ?_
   ·intro hb
    try simp only [hB, decide_eq_true_eq, decide_eq_false_iff_not] at hb
    have hj : j < n := by omega
    have hrl : (List.replicate j true ++ List.replicate (n - j) false).length = n := by simp; omega
    have hrs : (List.replicate j true ++ List.replicate (n - j) false).set j true = List.replicate (j + 1) true ++ List.replicate (n - (j + 1)) false := by
     rw [List.set_append_right _ _ (by simp), show n - j = (n - (j + 1)) + 1 by omega, List.replicate_succ, List.replicate_succ' (n := j)]
     simp
    refine AW.skip ?_
    refine hK9 _ _ _ ?_; clear hK9
    refine AW.seq fun K10 hK10 => ?_
    refine AW.block ?_
    refine AW.seq fun K11 hK11 => ?_
    refine AW.regionK 0 (fun _ => none) [1, 6, 7, 25, 26] [20] ?_
    simp only [go_sem, reduceIte, reduceCtorEq, zA, zM, zE, zL, zD, zS, zP, zB, zI, zR, yab, yaa]
    repeat with_reducible refine cj ?_ ?_
    all_goals try first | omega
    refine hK11 _ _ _ ?_; clear hK11
    refine AW.regionK 0 (fun _ => none) [1, 6, 25, 26] [20] ?_
    simp only [go_sem, reduceIte, reduceCtorEq, zA, zM, zE, zL, zD, zS, zP, zB, zI, zR, yab, yaa, hrl, hrs, bools_upd]
    repeat with_reducible refine cj ?_ ?_
    all_goals try first | omega
    refine hK10 _ _ _ ?_; clear hK10
    refine AW.regionK 0 (fun _ => none) [1, 6, 25, 26] [20] ?_
    simp only [go_sem, reduceIte, reduceCtorEq, zA, zM, zE, zL, zD, zS, zP, zB, zI, zR, yab, yaa]
    repeat with_reducible refine cj ?_ ?_
    all_goals try first | omega
    rw [← hQl1]
    change Exists _
    refine ⟨_, ?hm, j + 1, ?_, ?_, rfl, ?henv, ?hstore, ?hst⟩
    case henv =>
     repeat' (first | rfl | refine yac ?_ ?_ | refine yae ?_ ?_ ?_ ?_ | refine yah ?_ | refine yaf ?_ | refine yai ?_ | refine yaj ?_ | refine yan ?_ ?_ ?_ | refine yak ?_ ?_ ?_ | refine yal ?_ | refine yag ?_ ?_ | refine yad ?_ ?_)
     all_goals (first | (simp; done) | omega | (simp; omega))
    case hstore =>
     repeat' (first | rfl | refine yac ?_ ?_ | refine yae ?_ ?_ ?_ ?_ | refine yah ?_ | refine yaf ?_ | refine yai ?_ | refine yaj ?_ | refine yan ?_ ?_ ?_ | refine yak ?_ ?_ ?_ | refine yal ?_ | refine yag ?_ ?_ | refine yad ?_ ?_)
     all_goals (first | (simp; done) | omega | (simp; omega))
    case hst =>
     omega
    case hm => omega
   ·intro hb
    try simp only [hB, decide_eq_true_eq, decide_eq_false_iff_not] at hb
    have hj : n = j := by omega
    subst hj
    have hrf : List.replicate n true ++ List.replicate (n - n) false = dAt n l n := by rw [hIE.full]; simp
    rw [hrf]
    refine AW.keep [1, 6] [20] ?_
    try simp only [go_sem, reduceIte, reduceCtorEq, zA, zM, zE, zL, zD, zS, zP, zB, zI, zR]
    refine AW.exit ?_
    rw [← hQl1]
    refine hK6 _ _ _ ?_; clear hK6
    refine AW.seq fun K12 hK12 => ?_
    refine AW.seq fun K13 hK13 => ?_
    refine AW.regionK 0 (fun _ => none) [1, 6, 8] [20] ?_
    simp only [go_sem, reduceIte, reduceCtorEq, zA, zM, zE, zL, zD, zS, zP, zB, zI, zR, yab, yaa]
    repeat with_reducible refine cj ?_ ?_
    all_goals try first | omega
    refine hK13 _ _ _ ?_; clear hK13
    refine AW.block ?_
    refine AW.loopE (fun mm ee ss kk => ∃ (m g v : Nat), m + 1 = mm ∧ ee = [(1, .rsl 1 (ints l)), (6, .ptr ⟨20, g, none⟩ 0 0), (8, .int .i64 ((m : Int) - 1))] ∧ ss = [(20, some ⟨g, v, 3, [[.int .i64 n, .rsl 1 (lisR bel), .osl 1 (yar (dAt n l m))]]⟩)] ∧ (m ≤ n ∧ ynl bel n l n = ynl bel n l m)) ?_ ?_
    ·refine ⟨_, n, ?_, ?_, rfl, ?henv, ?hstore, ?hst⟩
     case henv =>
      repeat' (first | rfl | refine yac ?_ ?_ | refine yae ?_ ?_ ?_ ?_ | refine yah ?_ | refine yaf ?_ | refine yai ?_ | refine yaj ?_ | refine yan ?_ ?_ ?_ | refine yak ?_ ?_ ?_ | refine yal ?_ | refine yag ?_ ?_ | refine yad ?_ ?_)
      all_goals (first | omega | (simp; done))
     case hstore =>
      repeat' (first | rfl | refine yac ?_ ?_ | refine yae ?_ ?_ ?_ ?_ | refine yah ?_ | refine yaf ?_ | refine yai ?_ | refine yaj ?_ | refine yan ?_ ?_ ?_ | refine yak ?_ ?_ ?_ | refine yal ?_ | refine yag ?_ ?_ | refine yad ?_ ?_)
      all_goals (first | (simp; done) | omega | (simp; omega))
     case hst =>
      exact ⟨by omega, rfl⟩
    rintro mm ee ss kk ⟨m, g, v, rfl, rfl, rfl, hI⟩
    generalize hQl2 : ya9 _ _ = Ql2
    obtain ⟨hm, hnk⟩ := hI
    refine AW.seq fun K14 hK14 => ?_
    refine AW.seq fun K15 hK15 => ?_
    refine AW.regionK 0 (fun _ => none) [1, 6, 8, 40] [20] ?_
    simp only [go_sem, reduceIte, reduceCtorEq, zA, zM, zE, zL, zD, zS, zP, zB, zI, zR, yab, yaa]
    repeat with_reducible refine cj ?_ ?_
    all_goals try first | omega
    refine hK15 _ _ _ ?_; clear hK15
    refine AW.cond rfl (by simp only [go_sem, reduceIte, reduceCtorEq, zA, zM, zE, zL, zD, zS, zP, zB, zI, zR]) ?_ ?_
    ·intro hb
     try simp only [hB, decide_eq_true_eq, decide_eq_false_iff_not] at hb
     obtain ⟨q, rfl⟩ : ∃ q, m = q + 1 := ⟨m - 1, by omega⟩
     have hq : q < n := by omega
     have hq1 : (((q + 1 : Nat) : Int) - 1).toNat = q := by omega
     have hgx := ybv (l := l) (i := q) (by omega)
     obtain ⟨hx0, hx1⟩ := hIE.rng q hq
     have hbk := hIE.back hq
     have hdl := ybg n l (q + 1)
     have hdl2 := ybg n l q
     have hnx := Reads.flat (hnext q ((l.getD q 0).toNat + 1) (by omega)) rfl
     have hkh := nextK_hit (bel := bel) (n := n) (l := l) (m := q)
     have hkm := nextK_miss (bel := bel) (n := n) (l := l) (m := q)
     have hxs : l.getD q 0 + 1 = (((l.getD q 0).toNat + 1 : Nat) : Int) := by omega
     have hil := yrb (yaq bel (dAt n l q)) n ((l.getD q 0).toNat + 1)
     have hii := ypn (p := yaq bel (dAt n l q)) (n := n) (i := (l.getD q 0).toNat + 1)
     have hfq := hfin q
     have hcq := hcl q
     generalize hX : l.getD q 0 = x at *
     generalize hN : nxt (yaq bel (dAt n l q)) n (x.toNat + 1) = i at *
     refine AW.skip ?_
     refine hK14 _ _ _ ?_; clear hK14
     refine AW.seq fun K16 hK16 => ?_
     refine AW.block ?_
     refine AW.seq fun K17 hK17 => ?_
     refine AW.regionD ye9 0 (fun _ => none) [1, 6, 8] [20] ?_
     simp only [go_sem, reduceIte, reduceCtorEq, zA, zM, zE, zL, zD, zS, zP, zB, zI, zR, yab, yaa, hq1, hgx, hdl, hbk, bools_upd]
     repeat with_reducible refine cj ?_ ?_
     all_goals try first | omega | exact chk (by kernel_rfl)
     refine hK17 _ _ _ ?_; clear hK17
     refine AW.seq fun K18 hK18 => ?_
     refine AW.regionK 0 (fun ii => if ii = 6 then some (.reads true (.int .i64 i)) else none) [1, 6, 8, 9] [20] ?_
     simp only [go_sem, reduceIte, reduceCtorEq, zA, zM, zE, zL, zD, zS, zP, zB, zI, zR, yab, yaa, hq1, hgx, hxs]
     repeat with_reducible refine cj ?_ ?_
     all_goals try first | (exact hnx) | omega | exact ent (by kernel_rfl)
     refine hK18 _ _ _ ?_; clear hK18
     refine AW.seq fun K19 hK19 => ?_
     refine AW.regionK 0 (fun _ => none) [1, 6, 8, 9, 60] [20] ?_
     simp only [go_sem, reduceIte, reduceCtorEq, zA, zM, zE, zL, zD, zS, zP, zB, zI, zR, yab, yaa]
     repeat with_reducible refine cj ?_ ?_
     all_goals try first | omega
     refine hK19 _ _ _ ?_; clear hK19
     refine AW.cond rfl (by simp only [go_sem, reduceIte, reduceCtorEq, zA, zM, zE, zL, zD, zS, zP, zB, zI, zR]) ?_ ?_
     ·intro hb
      try simp only [hB, decide_eq_true_eq, decide_eq_false_iff_not] at hb
      obtain ⟨k, hk1, hk2, hk3, hk4⟩ := hii hb
      have hkn : i.toNat = k := by omega
      have hnk2 := hkh hb
      have hfq := hfq i hq hb (by rw [hkn]; exact hk4) (by omega)
      have hcq := hcq (by simp; omega)
      have hlt : (l.take q).length = q := by simp; omega
      have hlt2 : (l.take q ++ [i]).length = q + 1 := by simp; omega
      have hfl := yng bel n ((dAt n l q).set i.toNat true, l.take q ++ [i]) (n - (q + 1))
      simp only [hlt2] at hfl
      rw [hlt2] at hfq
      rw [hlt] at hcq
      generalize hF : finI bel n ((dAt n l q).set i.toNat true, l.take q ++ [i]) (n - (q + 1)) = F at *
      have hft : F.2.take n = F.2 := List.take_of_length_le (by omega)
      refine AW.seq fun K20 hK20 => ?_
      refine AW.regionK 0 (fun _ => none) [1, 6, 8, 9] [20] ?_
      simp only [go_sem, reduceIte, reduceCtorEq, zA, zM, zE, zL, zD, zS, zP, zB, zI, zR, yab, yaa, hdl2, bools_upd]
      repeat with_reducible refine cj ?_ ?_
      all_goals try first | omega
      refine hK20 _ _ _ ?_; clear hK20
      refine AW.seq fun K21 hK21 => ?_
      refine AW.regionK 0 (fun ii => if ii = 4 then some (.upd [] (fun k => [(0, some ⟨k, k, 1, ints (l.take q)⟩)]) (fun k => .sl ⟨0, k, none⟩ 0 q none)) else if ii = 8 then some (.upd [20, 71] (fun k => [(0, some ⟨g, k, 3, [[.int .i64 n, .rsl 1 (lisR bel), .osl 1 (yar F.1)]]⟩), (1, some ⟨k, k, 1, ints F.2⟩)]) (fun k => .sl ⟨1, k, none⟩ 0 n none)) else none) [4, 5] [20, 71] ?_
      simp only [go_sem, reduceIte, reduceCtorEq, zA, zM, zE, zL, zD, zS, zP, zB, zI, zR, yab, yaa, hq1, List.take_take, Nat.min_self, ydm, yct]
      repeat with_reducible refine cj ?_ ?_
      all_goals try first | (first | exact hcq | exact hfq _ _ _ _) | omega | exact ent (by kernel_rfl) | (simp [scP, ybj]; done) | exact ybc _ | exact ybm _ | exact ybd _
      refine hK21 _ _ _ ?_; clear hK21
      refine AW.ret ?_
      rw [← hQl2]
      rw [← hQr]
      simp only [go_sem, reduceIte, reduceCtorEq, zA, zM, zE, zL, zD, zS, zP, zB, zI, zR, yab, yaa]
      exact Wk.of_eq (by rw [hnk, hnk2, hft]; rfl)
     ·intro hb
      try simp only [hB, decide_eq_true_eq, decide_eq_false_iff_not] at hb
      have hnk2 := hkm (by omega)
      refine AW.skip ?_
      refine hK16 _ _ _ ?_; clear hK16
      refine AW.regionK 0 (fun _ => none) [1, 6, 8] [20] ?_
      simp only [go_sem, reduceIte, reduceCtorEq, zA, zM, zE, zL, zD, zS, zP, zB, zI, zR, yab, yaa]
      repeat with_reducible refine cj ?_ ?_
      all_goals try first | omega
      rw [← hQl2]
      change Exists _
      refine ⟨_, ?hm, q, ?_, ?_, rfl, ?henv, ?hstore, ?hst⟩
      case henv =>
       repeat' (first | rfl | refine yac ?_ ?_ | refine yae ?_ ?_ ?_ ?_ | refine yah ?_ | refine yaf ?_ | refine yai ?_ | refine yaj ?_ | refine yan ?_ ?_ ?_ | refine yak ?_ ?_ ?_ | refine yal ?_ | refine yag ?_ ?_ | refine yad ?_ ?_)
       all_goals (omega)
      case hstore =>
       repeat' (first | rfl | refine yac ?_ ?_ | refine yae ?_ ?_ ?_ ?_ | refine yah ?_ | refine yaf ?_ | refine yai ?_ | refine yaj ?_ | refine yan ?_ ?_ ?_ | refine yak ?_ ?_ ?_ | refine yal ?_ | refine yag ?_ ?_ | refine yad ?_ ?_)
       all_goals (first | (simp; done) | omega | (simp; omega))
      case hst =>
       exact ⟨by omega, by rw [hnk, hnk2]⟩
      case hm => omega
    ·intro hb
     try simp only [hB, decide_eq_true_eq, decide_eq_false_iff_not] at hb
     have hm0 : m = 0 := by omega
     subst hm0
     refine AW.keep [] [20] ?_
     try simp only [go_sem, reduceIte, reduceCtorEq, zA, zM, zE, zL, zD, zS, zP, zB, zI, zR]
     refine AW.exit ?_
     rw [← hQl2]
     refine hK12 _ _ _ ?_; clear hK12
     refine AW.seq fun K22 hK22 => ?_
     refine AW.regionK 0 (fun _ => none) [4, 5] [20] ?_
     simp only [go_sem, reduceIte, reduceCtorEq, zA, zM, zE, zL, zD, zS, zP, zB, zI, zR, yab, yaa]
     repeat with_reducible refine cj ?_ ?_
     all_goals try first | omega
     refine hK22 _ _ _ ?_; clear hK22
     refine AW.ret ?_
     rw [← hQr]
     simp only [go_sem, reduceIte, reduceCtorEq, zA, zM, zE, zL, zD, zS, zP, zB, zI, zR, yab, yaa]
     exact Wk.trans (Wk.tup2 (Wk.nil 1) (Wk.refl _)) (Wk.of_eq (by rw [hnk]; rfl))
end Go.Proofs.X

/- How many extensions go on from an ideal; what the map of ways says; ranks. -/
namespace Go.AM
def sumF (p : Nat → Bool) (f : Nat → Nat) (m : Nat) : Nat := fr p (fun s x => s + f x) m 0
theorem yj6 (p : Nat → Bool) (f : Nat → Nat) : sumF p f 0 = 0 := rfl
theorem yb2 {p : Nat → Bool} (f : Nat → Nat) {k : Nat} (h : p k = true) : sumF p f (k + 1) = sumF p f k + f k := yck _ h _
theorem yel {p : Nat → Bool} (f : Nat → Nat) {k : Nat} (h : p k = false) : sumF p f (k + 1) = sumF p f k := ycl _ h _
theorem ydz (p : Nat → Bool) (f : Nat → Nat) (i : Nat) : ∀ j, i ≤ j → sumF p f i ≤ sumF p f j
  | 0, h => by rw [Nat.le_zero.1 h]; exact Nat.le_refl _
  | j + 1, h => by
    rcases Nat.eq_or_lt_of_le h with e | e
    · rw [e]; exact Nat.le_refl _
    · have := ydz p f i j (by omega)
      cases hp : p j with
      | true => rw [yb2 f hp]; omega
      | false => rw [yel f hp]; exact this
theorem yj7 {p : Nat → Bool} (f : Nat → Nat) {i k : Nat} (h : i ≤ k) (hp : ∀ j, i ≤ j → j < k → p j = false) : sumF p f k = sumF p f i := yly _ i k 0 h hp
theorem ypw {p : Nat → Bool} (f : Nat → Nat) {n i x : Nat} (hi : i ≤ x) (hx : x ≤ n) : ((0 ≤ nxt p n i ∧ nxt p n i < (x : Int)) → ∃ k : Nat, nxt p n i = (k : Nat) ∧ i ≤ k ∧ k < x ∧ p k = true ∧ sumF p f (k + 1) = sumF p f i + f k) ∧ (¬ (0 ≤ nxt p n i ∧ nxt p n i < (x : Int)) → sumF p f x = sumF p f i) := by
  rcases nxt_spec (p := p) (n := n) (n - i) i rfl with ⟨h1, h2⟩ | ⟨k, h1, h2, h3, h4, h5⟩
  · exact ⟨fun h => by omega, fun _ => yj7 f hi fun j h3 h4 => h2 j h3 (by omega)⟩
  · refine ⟨fun h => ⟨k, h1, h2, by omega, h4, by rw [yb2 f h4, yj7 f h2 h5]⟩, fun h => yj7 f hi fun j h6 h7 => h5 j h6 (by omega)⟩
/-- How many ways to place the m elements that are left. -/
def cE (bel : List (List Int)) (n : Nat) : Nat → List Bool → Nat
  | 0, _ => 1
  | m + 1, S => sumF (yaq bel S) (fun x => cE bel n m (S.set x true)) n
/-! ### A map after a put. -/
theorem keyEq_eq {S : List Bool} {r : AV} (h : keyEq (.str (keyS S)) r = true) (T : List Bool) : keyEq (.str (keyS T)) r = decide (T = S) := by
  cases r with
  | str b =>
    have h0 : (keyS S == b) = true := h
    have h1 : (keyS S).data = b.data := by rw [yps] at h0; exact eq_of_beq h0
    show (keyS T == b) = _
    rw [yps, ← h1, ← yps]
    exact yht T S
  | _ => simp [keyEq] at h
theorem mapAt_put (S T : List Bool) (v : AV) : ∀ (es : List (List AV)), ye8 (ycr es (.str (keyS S)) v) (.str (keyS T)) = if T = S then some v else ye8 es (.str (keyS T)) := by
  have key : ∀ (es : List (List AV)) (i : Nat), (mapFind (ycr es (.str (keyS S)) v) (.str (keyS T)) i).map (·.2) = if T = S then some v else (mapFind es (.str (keyS T)) i).map (·.2) := by
    intro es
    induction es with
    | nil =>
      intro i
      simp only [ycr, mapFind]
      have : (([AV.str (keyS S), v] : List AV).getD 0 .any) = .str (keyS S) := rfl
      rw [this, yht]
      by_cases h : T = S <;> simp [h]
    | cons row es ih =>
      intro i
      unfold ycr
      by_cases h : keyEq (.str (keyS S)) (row.getD 0 .any) = true
      · rw [if_pos h]
        have hT := keyEq_eq h T
        simp only [mapFind]
        have : (([AV.str (keyS S), v] : List AV).getD 0 .any) = .str (keyS S) := rfl
        rw [this, yht, hT]
        by_cases e : T = S <;> simp [e]
      · rw [if_neg h]
        simp only [mapFind]
        by_cases e : keyEq (.str (keyS T)) (row.getD 0 .any) = true
        · rw [if_pos e, if_pos e]
          by_cases e2 : T = S
          · subst e2; exact absurd e h
          · simp [e2]
        · rw [if_neg e, if_neg e]
          exact ih (i + 1)
  intro es
  exact key es 0
theorem yl4 (es : List (List AV)) (S T : List Bool) (v : Int) : mapI (ycr es (.str (keyS S)) (.int .i64 v)) (.str (keyS T)) = if T = S then v else mapI es (.str (keyS T)) := by
  unfold mapI
  rw [mapAt_put]
  by_cases h : T = S <;> simp [h]
theorem ypx {α : Type} {p : Nat → Bool} {f g : α → Nat → α} : ∀ m (a : α), (∀ a x, x < m → p x = true → f a x = g a x) → fr p f m a = fr p g m a
  | 0, _, _ => rfl
  | m + 1, a, h => by
    have ih := ypx (p := p) (f := f) (g := g) m a fun a x hx => h a x (by omega)
    cases hp : p m with
    | true => rw [yck f hp, yck g hp, ih, h _ m (by omega) hp]
    | false => rw [ycl f hp, ycl g hp, ih]
theorem wayS_congr {bel : List (List Int)} {n a : Nat} {es es' : List (List AV)} {S : List Bool} (hS : S.length = n) (h : ∀ T, cntT T = cntT S + 1 → mapI es (.str (keyS T)) = mapI es' (.str (keyS T))) : wayS bel n es S a = wayS bel n es' S a := by
  unfold wayS sumW
  split
  · rfl
  · exact ypx n 0 fun s x hx hp => by rw [h (S.set x true) (ydp (by omega) (ybw hp))]
theorem yg0 {bel : List (List Int)} {n a : Nat} {T : List Bool} : ∀ (L : List (List Bool)) (es : List (List AV)), T ∉ L → mapI (L.foldl (ygd bel n a) es) (.str (keyS T)) = mapI es (.str (keyS T))
  | [], _, _ => rfl
  | S :: L, es, h => by
    rw [List.foldl_cons, yg0 L _ (fun h' => h (List.mem_cons_of_mem _ h'))]
    unfold ygd
    have hne : T ≠ S := fun e => h (by rw [e]; exact List.mem_cons_self)
    rw [yl4, if_neg hne]
theorem ypy {bel : List (List Int)} {n a : Nat} {T : List Bool} : ∀ (L : List (List Bool)) (es : List (List AV)), (∀ S ∈ L, S.length = n ∧ cntT S = a) → T ∈ L → mapI (L.foldl (ygd bel n a) es) (.str (keyS T)) = wayS bel n es T a
  | S :: L, es, hL, h => by
    have hS := hL S List.mem_cons_self
    have hstep : ∀ U, cntT U = a + 1 → mapI (ygd bel n a es S) (.str (keyS U)) = mapI es (.str (keyS U)) := fun U hU => by
      unfold ygd
      rw [yl4, if_neg (fun e => by rw [e, hS.2] at hU; omega)]
    rw [List.foldl_cons]
    by_cases hT : T ∈ L
    · rw [ypy L _ (fun S h => hL S (List.mem_cons_of_mem _ h)) hT]
      have hT2 := hL T (List.mem_cons_of_mem _ hT)
      exact wayS_congr hT2.1 fun U hU => hstep U (by rw [hU, hT2.2])
    · rcases List.mem_cons.1 h with e | e
      · subst e
        rw [yg0 L _ hT]
        unfold ygd
        rw [yl4, if_pos rfl]
      · exact absurd e hT
theorem yhv {bel : List (List Int)} {n : Nat} : ∀ {j : Nat} {S : List Bool}, S ∈ lvAt bel n j → cntT S = j
  | 0, S, h => by rw [List.mem_singleton.1 h]; exact yhq n
  | j + 1, S, h => by
    obtain ⟨S', h1, x, hx, hf, rfl⟩ := mem_nextL.1 h
    rw [ydp (by rw [yf7 h1]; exact hx) (ybw hf), yhv h1]
theorem yfs {bel : List (List Int)} {n j x : Nat} {S : List Bool} (h : S ∈ lvAt bel n j) (hx : x < n) (hf : yaq bel S x = true) : S.set x true ∈ lvAt bel n (j + 1) := mem_nextL.2 ⟨S, h, x, hx, hf, rfl⟩
theorem yrg {p : Nat → Bool} {f : Nat → Nat} {w : Nat → Int} : ∀ m, (∀ x, x < m → p x = true → w x = min (f x : Int) 1125899906842625) → fr p (fun s x => min (s + w x) 1125899906842625) m (0 : Int) = min (sumF p f m : Int) 1125899906842625
  | 0, _ => by simp only [yj4, yj6]; decide
  | m + 1, h => by
    have ih := yrg (p := p) (f := f) (w := w) m fun x hx => h x (by omega)
    cases hp : p m with
    | true => rw [yck _ hp, yb2 f hp, ih, h m (by omega) hp]; omega
    | false => rw [ycl _ hp, yel f hp, ih]
theorem yk2 {bel : List (List Int)} {n : Nat} : ∀ m, m ≤ n + 1 → ∀ a, n < a + m → a ≤ n → ∀ S ∈ lvAt bel n a, mapI (downW bel n m) (.str (keyS S)) = min (cE bel n (n - a) S : Int) 1125899906842625
  | 0, _, a, h1, h2, _, _ => by omega
  | m + 1, hm, a, h1, h2, S, hS => by
    have ih := yk2 (bel := bel) (n := n) m (by omega)
    have hL : ∀ T ∈ lvAt bel n (n - m), T.length = n ∧ cntT T = n - m := fun T hT => ⟨yf7 hT, yhv hT⟩
    show mapI ((lvAt bel n (n - m)).foldl (ygd bel n (n - m)) (downW bel n m)) _ = _
    by_cases e : a = n - m
    · subst e
      rw [ypy _ _ hL hS]
      unfold wayS
      by_cases e2 : n - m = n
      · rw [if_pos e2, show n - (n - m) = 0 by omega]; simp only [cE]; decide
      · rw [if_neg e2]
        obtain ⟨q, hq⟩ : ∃ q, n - (n - m) = q + 1 := ⟨m - 1, by omega⟩
        rw [hq]
        unfold sumW cE
        refine yrg n fun x hx hf => ?_
        have := ih (n - m + 1) (by omega) (by omega) _ (yfs hS hx hf)
        rw [show n - (n - m + 1) = q by omega] at this
        exact this
    · rw [yg0 _ _ (fun h => by
        have h3 := yhv h
        rw [yhv hS] at h3
        exact e h3)]
      exact ih a (by omega) h2 S hS
theorem ynm {bel : List (List Int)} {n a : Nat} (ha : a ≤ n) {S : List Bool} (hS : S ∈ lvAt bel n a) : mapI (yiz bel n) (.str (keyS S)) = min (cE bel n (n - a) S : Int) 1125899906842625 :=
  yk2 (n + 1) (Nat.le_refl _) a (by omega) ha S hS
/-! ### Ranks. -/
theorem IsExt.lv {n : Nat} {bel : List (List Int)} {l : List Int} (h : IsExt n bel l) : ∀ m, m ≤ n → dAt n l m ∈ lvAt bel n m
  | 0, _ => by simp [dAt, exD, lvAt]
  | m + 1, hm => by
    have h1 := h.rng m (by omega)
    rw [ycf (by rw [h.len]; omega)]
    exact yfs (h.lv m (by omega)) (by omega) (h.free m (by omega))
def ya8 (bel : List (List Int)) (n : Nat) (l : List Int) : Nat → Nat
  | 0 => 0
  | m + 1 => ya8 bel n l m + sumF (yaq bel (dAt n l m)) (fun x => cE bel n (n - (m + 1)) ((dAt n l m).set x true)) (l.getD m 0).toNat
theorem yr1 {bel : List (List Int)} {n m : Nat} (hm : m < n) (S : List Bool) : cE bel n (n - m) S = sumF (yaq bel S) (fun x => cE bel n (n - (m + 1)) (S.set x true)) n := by
  obtain ⟨q, hq⟩ : ∃ q, n - m = q + 1 := ⟨n - m - 1, by omega⟩
  rw [hq, show n - (m + 1) = q by omega]; rfl
theorem IsExt.step {n : Nat} {bel : List (List Int)} {l : List Int} (h : IsExt n bel l) {m : Nat} (hm : m < n) : ya8 bel n l (m + 1) + cE bel n (n - (m + 1)) (dAt n l (m + 1)) ≤ ya8 bel n l m + cE bel n (n - m) (dAt n l m) := by
  have h1 := h.rng m hm
  have h2 := h.free m hm
  rw [yr1 hm, ycf (by rw [h.len]; omega)]
  have h3 := yb2 (p := yaq bel (dAt n l m)) (fun x => cE bel n (n - (m + 1)) ((dAt n l m).set x true)) h2
  have h4 := ydz (yaq bel (dAt n l m)) (fun x => cE bel n (n - (m + 1)) ((dAt n l m).set x true)) ((l.getD m 0).toNat + 1) n (by omega)
  show ya8 bel n l m + _ + _ ≤ _
  omega
theorem IsExt.down {n : Nat} {bel : List (List Int)} {l : List Int} (h : IsExt n bel l) (m : Nat) : ∀ q, m ≤ q → q ≤ n → ya8 bel n l q + cE bel n (n - q) (dAt n l q) ≤ ya8 bel n l m + cE bel n (n - m) (dAt n l m)
  | 0, h1, _ => by rw [Nat.le_zero.1 h1]; exact Nat.le_refl _
  | q + 1, h1, h2 => by
    rcases Nat.eq_or_lt_of_le h1 with e | e
    · rw [e]; exact Nat.le_refl _
    · exact Nat.le_trans (h.step (by omega)) (h.down m q (by omega) (by omega))
theorem yif (bel : List (List Int)) (n : Nat) (l : List Int) (m : Nat) : ∀ q, m ≤ q → ya8 bel n l m ≤ ya8 bel n l q
  | 0, h => by rw [Nat.le_zero.1 h]; exact Nat.le_refl _
  | q + 1, h => by
    rcases Nat.eq_or_lt_of_le h with e | e
    · rw [e]; exact Nat.le_refl _
    · have := yif bel n l m q (by omega)
      show _ ≤ ya8 bel n l q + _
      omega
theorem IsExt.rank_lt {n : Nat} {bel : List (List Int)} {l : List Int} (h : IsExt n bel l) {m : Nat} (hm : m ≤ n) : ya8 bel n l n < ya8 bel n l m + cE bel n (n - m) (dAt n l m) := by
  have := h.down m n hm (Nat.le_refl _)
  rw [Nat.sub_self] at this
  simp only [cE] at this
  omega
theorem IsExt.bound {n : Nat} {bel : List (List Int)} {l : List Int} (h : IsExt n bel l) {m : Nat} (hm : m < n) {i : Nat} (hi : i ≤ n) : ya8 bel n l m + sumF (yaq bel (dAt n l m)) (fun x => cE bel n (n - (m + 1)) ((dAt n l m).set x true)) i ≤ cE bel n n (List.replicate n false) := by
  have h1 := h.down 0 m (Nat.zero_le _) (by omega)
  have h2 := yr1 (bel := bel) hm (dAt n l m)
  have h4 := ydz (yaq bel (dAt n l m)) (fun x => cE bel n (n - (m + 1)) ((dAt n l m).set x true)) i n hi
  have h5 : dAt n l 0 = List.replicate n false := rfl
  have h6 : ya8 bel n l 0 = 0 := rfl
  rw [h5, h6, Nat.sub_zero] at h1
  omega
/-- The rank by the map of ways. -/
theorem IsExt.ways {n : Nat} {bel : List (List Int)} {l : List Int} (h : IsExt n bel l) (hbig : cE bel n n (List.replicate n false) ≤ 1125899906842624) {m : Nat} (hm : m < n) {x : Nat} (hx : x < n) (hf : yaq bel (dAt n l m) x = true) :
    mapI (yiz bel n) (.str (keyS ((dAt n l m).set x true))) = (cE bel n (n - (m + 1)) ((dAt n l m).set x true) : Int) := by
  rw [ynm (a := m + 1) (by omega) (yfs (h.lv m (by omega)) hx hf)]
  have h1 := h.down 0 m (Nat.zero_le _) (by omega)
  have h2 := yr1 (bel := bel) hm (dAt n l m)
  have h3 := yb2 (p := yaq bel (dAt n l m)) (fun x => cE bel n (n - (m + 1)) ((dAt n l m).set x true)) hf
  have h4 := ydz (yaq bel (dAt n l m)) (fun x => cE bel n (n - (m + 1)) ((dAt n l m).set x true)) (x + 1) n (by omega)
  have h5 : dAt n l 0 = List.replicate n false := rfl
  have h6 : ya8 bel n l 0 = 0 := rfl
  rw [h5, h6, Nat.sub_zero] at h1
  omega
end Go.AM

namespace Go.Proofs.X
open Go.AM Go
set_option maxRecDepth 100000
set_option maxHeartbeats 4000000
theorem yj8 (n : Nat) (t : List (List Bool)) : allW n t = min (cE (belL n t) n n (List.replicate n false) : Int) 1125899906842625 := by
 have := ynm (bel := belL n t) (n := n) (a := 0) (Nat.zero_le _) (S := List.replicate n false) (by simp [lvAt])
 exact this
theorem rank_e (es : List (List AV)) (l : List Int) (hv : Reads Tryd.prog 37 false [.agg [.rsl 2 es]] (.bool false)) : Reads Tryd.prog 26 false [.agg [.rsl 2 es], .rsl 1 (ints l)] (.tup [.int .i64 0, .int .i64 1]) := by
 refine Reads.body (rs := [.tmp 4, .tmp 5]) Tryd.func26 rfl Tryd.ntmps26 rfl (by simp) ?_
 generalize hQr : retQ _ _ _ = Qr
 refine AW.seq fun K1 hK1 => ?_
 refine AW.regionK 0 (fun _ => none) [1, 2] [2] ?_
 simp only [go_sem, reduceIte, reduceCtorEq, zA, zM, zE, zL, zD, zS, zP, zB, zI, zR]
 repeat with_reducible refine cj ?_ ?_
 all_goals try first | omega
 refine hK1 _ _ _ ?_; clear hK1
 refine AW.seq fun K2 hK2 => ?_
 refine AW.block ?_
 refine AW.seq fun K3 hK3 => ?_
 refine AW.regionK 0 (fun ii => if ii = 1 then some (.reads false (.bool false)) else none) [1, 2, 14] [2] ?_
 simp only [go_sem, reduceIte, reduceCtorEq, zA, zM, zE, zL, zD, zS, zP, zB, zI, zR]
 repeat with_reducible refine cj ?_ ?_
 all_goals try first | (exact hv) | omega | exact ent (by kernel_rfl)
 refine hK3 _ _ _ ?_; clear hK3
 refine AW.cond rfl (by simp only [go_sem, reduceIte, reduceCtorEq, zA, zM, zE, zL, zD, zS, zP, zB, zI, zR]) ?_ ?_
 ·intro hb
  try simp only [hB, decide_eq_true_eq, decide_eq_false_iff_not] at hb
  refine AW.seq fun K4 hK4 => ?_
  refine AW.regionK 0 (fun _ => none) [4, 5] [] ?_
  simp only [go_sem, reduceIte, reduceCtorEq, zA, zM, zE, zL, zD, zS, zP, zB, zI, zR]
  repeat with_reducible refine cj ?_ ?_
  all_goals try first | omega
  refine hK4 _ _ _ ?_; clear hK4
  refine AW.ret ?_
  rw [← hQr]
  simp only [go_sem, reduceIte, reduceCtorEq, zA, zM, zE, zL, zD, zS, zP, zB, zI, zR]
  exact Wk.refl _
 ·intro hb
  try simp only [hB, decide_eq_true_eq, decide_eq_false_iff_not] at hb
  exfalso; simp at hb
theorem yrh (es : List (List AV)) (l : List Int) (hv : Reads Tryd.prog 37 false [.agg [.rsl 2 es]] (.bool true)) (hx : Reads Tryd.prog 47 false [.agg [.rsl 2 es], .rsl 1 (ints l)] (.bool false)) : Reads Tryd.prog 26 false [.agg [.rsl 2 es], .rsl 1 (ints l)] (.tup [.int .i64 0, .int .i64 11]) := by
 refine Reads.body (rs := [.tmp 4, .tmp 5]) Tryd.func26 rfl Tryd.ntmps26 rfl (by simp) ?_
 generalize hQr : retQ _ _ _ = Qr
 refine AW.seq fun K1 hK1 => ?_
 refine AW.regionK 0 (fun _ => none) [1, 2] [2] ?_
 simp only [go_sem, reduceIte, reduceCtorEq, zA, zM, zE, zL, zD, zS, zP, zB, zI, zR]
 repeat with_reducible refine cj ?_ ?_
 all_goals try first | omega
 refine hK1 _ _ _ ?_; clear hK1
 refine AW.seq fun K2 hK2 => ?_
 refine AW.block ?_
 refine AW.seq fun K3 hK3 => ?_
 refine AW.regionK 0 (fun ii => if ii = 1 then some (.reads false (.bool true)) else none) [1, 2, 14] [2] ?_
 simp only [go_sem, reduceIte, reduceCtorEq, zA, zM, zE, zL, zD, zS, zP, zB, zI, zR]
 repeat with_reducible refine cj ?_ ?_
 all_goals try first | (exact hv) | omega | exact ent (by kernel_rfl)
 refine hK3 _ _ _ ?_; clear hK3
 refine AW.cond rfl (by simp only [go_sem, reduceIte, reduceCtorEq, zA, zM, zE, zL, zD, zS, zP, zB, zI, zR]) ?_ ?_
 ·intro hb
  try simp only [hB, decide_eq_true_eq, decide_eq_false_iff_not] at hb
  exfalso; simp at hb
 ·intro hb
  try simp only [hB, decide_eq_true_eq, decide_eq_false_iff_not] at hb
  refine AW.seq fun K4 hK4 => ?_
  refine AW.regionK 0 (fun ii => if ii = 2 then some (.reads false (.bool false)) else none) [1, 2, 18] [2] ?_
  simp only [go_sem, reduceIte, reduceCtorEq, zA, zM, zE, zL, zD, zS, zP, zB, zI, zR]
  repeat with_reducible refine cj ?_ ?_
  all_goals try first | (exact hx) | omega | exact ent (by kernel_rfl)
  refine hK4 _ _ _ ?_; clear hK4
  refine AW.cond rfl (by simp only [go_sem, reduceIte, reduceCtorEq, zA, zM, zE, zL, zD, zS, zP, zB, zI, zR]) ?_ ?_
  ·intro hb
   try simp only [hB, decide_eq_true_eq, decide_eq_false_iff_not] at hb
   refine AW.seq fun K5 hK5 => ?_
   refine AW.regionK 0 (fun _ => none) [4, 5] [] ?_
   simp only [go_sem, reduceIte, reduceCtorEq, zA, zM, zE, zL, zD, zS, zP, zB, zI, zR]
   repeat with_reducible refine cj ?_ ?_
   all_goals try first | omega
   refine hK5 _ _ _ ?_; clear hK5
   refine AW.ret ?_
   rw [← hQr]
   simp only [go_sem, reduceIte, reduceCtorEq, zA, zM, zE, zL, zD, zS, zP, zB, zI, zR]
   exact Wk.refl _
  ·intro hb
   try simp only [hB, decide_eq_true_eq, decide_eq_false_iff_not] at hb
   exfalso; simp at hb
theorem ysm (es : List (List AV)) (l : List Int) (e : Int) (he : e ≠ 0) (hv : Reads Tryd.prog 37 false [.agg [.rsl 2 es]] (.bool true)) (hx : Reads Tryd.prog 47 false [.agg [.rsl 2 es], .rsl 1 (ints l)] (.bool true)) (hc : Reads Tryd.prog 42 false [.agg [.rsl 2 es]] (.tup [.any, .int .i64 0, .int .i64 e])) : Reads Tryd.prog 26 false [.agg [.rsl 2 es], .rsl 1 (ints l)] (.tup [.int .i64 0, .int .i64 e]) := by
 refine Reads.body (rs := [.tmp 4, .tmp 5]) Tryd.func26 rfl Tryd.ntmps26 rfl (by simp) ?_
 generalize hQr : retQ _ _ _ = Qr
 refine AW.seq fun K1 hK1 => ?_
 refine AW.regionK 0 (fun _ => none) [1, 2] [2] ?_
 simp only [go_sem, reduceIte, reduceCtorEq, zA, zM, zE, zL, zD, zS, zP, zB, zI, zR]
 repeat with_reducible refine cj ?_ ?_
 all_goals try first | omega
 refine hK1 _ _ _ ?_; clear hK1
 refine AW.seq fun K2 hK2 => ?_
 refine AW.block ?_
 refine AW.seq fun K3 hK3 => ?_
 refine AW.regionK 0 (fun ii => if ii = 1 then some (.reads false (.bool true)) else none) [1, 2, 14] [2] ?_
 simp only [go_sem, reduceIte, reduceCtorEq, zA, zM, zE, zL, zD, zS, zP, zB, zI, zR]
 repeat with_reducible refine cj ?_ ?_
 all_goals try first | (exact hv) | omega | exact ent (by kernel_rfl)
 refine hK3 _ _ _ ?_; clear hK3
 refine AW.cond rfl (by simp only [go_sem, reduceIte, reduceCtorEq, zA, zM, zE, zL, zD, zS, zP, zB, zI, zR]) ?_ ?_
 ·intro hb
  try simp only [hB, decide_eq_true_eq, decide_eq_false_iff_not] at hb
  exfalso; simp at hb
 ·intro hb
  try simp only [hB, decide_eq_true_eq, decide_eq_false_iff_not] at hb
  refine AW.seq fun K4 hK4 => ?_
  refine AW.regionK 0 (fun ii => if ii = 2 then some (.reads false (.bool true)) else none) [1, 2, 18] [2] ?_
  simp only [go_sem, reduceIte, reduceCtorEq, zA, zM, zE, zL, zD, zS, zP, zB, zI, zR]
  repeat with_reducible refine cj ?_ ?_
  all_goals try first | (exact hx) | omega | exact ent (by kernel_rfl)
  refine hK4 _ _ _ ?_; clear hK4
  refine AW.cond rfl (by simp only [go_sem, reduceIte, reduceCtorEq, zA, zM, zE, zL, zD, zS, zP, zB, zI, zR]) ?_ ?_
  ·intro hb
   try simp only [hB, decide_eq_true_eq, decide_eq_false_iff_not] at hb
   exfalso; simp at hb
  ·intro hb
   try simp only [hB, decide_eq_true_eq, decide_eq_false_iff_not] at hb
   refine AW.skip ?_
   refine hK2 _ _ _ ?_; clear hK2
   refine AW.seq fun K5 hK5 => ?_
   refine AW.regionK 0 (fun ii => if ii = 1 then some (.reads false (.tup [.any, .int .i64 0, .int .i64 e])) else none) [1, 2, 6, 8] [2] ?_
   simp only [go_sem, reduceIte, reduceCtorEq, zA, zM, zE, zL, zD, zS, zP, zB, zI, zR]
   repeat with_reducible refine cj ?_ ?_
   all_goals try first | (exact hc) | omega | exact ent (by kernel_rfl)
   refine hK5 _ _ _ ?_; clear hK5
   refine AW.seq fun K6 hK6 => ?_
   refine AW.seq fun K7 hK7 => ?_
   refine AW.regionK 0 (fun _ => none) [1, 2, 6, 8, 30] [2] ?_
   simp only [go_sem, reduceIte, reduceCtorEq, zA, zM, zE, zL, zD, zS, zP, zB, zI, zR]
   repeat with_reducible refine cj ?_ ?_
   all_goals try first | omega
   refine hK7 _ _ _ ?_; clear hK7
   refine AW.cond rfl (by simp only [go_sem, reduceIte, reduceCtorEq, zA, zM, zE, zL, zD, zS, zP, zB, zI, zR]) ?_ ?_
   ·intro hb
    try simp only [hB, decide_eq_true_eq, decide_eq_false_iff_not] at hb
    refine AW.seq fun K8 hK8 => ?_
    refine AW.regionK 0 (fun _ => none) [4, 5] [] ?_
    simp only [go_sem, reduceIte, reduceCtorEq, zA, zM, zE, zL, zD, zS, zP, zB, zI, zR]
    repeat with_reducible refine cj ?_ ?_
    all_goals try first | omega
    refine hK8 _ _ _ ?_; clear hK8
    refine AW.ret ?_
    rw [← hQr]
    simp only [go_sem, reduceIte, reduceCtorEq, zA, zM, zE, zL, zD, zS, zP, zB, zI, zR]
    exact Wk.refl _
   ·intro hb
    try simp only [hB, decide_eq_true_eq, decide_eq_false_iff_not] at hb
    exfalso; exact he hb
theorem ysn (n : Nat) (t : List (List Bool)) (hs : Sq n t) (hn : n ≤ 512) (hp : poB n t = true) (hbud : cntL (belL n t) n n ≤ 5000) (hbig : allW n t ≤ 1125899906842624) (l : List Int) (hx : extB n (belL n t) l = true) :
  Reads Tryd.prog 26 false [relB t, .rsl 1 (ints l)] (.tup [.int .i64 (ya8 (belL n t) n l n : Nat), .int .i64 0]) := by
 have hv := yey n t hs hn
 rw [hp] at hv
 have hIE := extB_iff.1 hx
 have hln := hIE.len
 have hc := yhu n t hs hn hp hbud hbig
 have hcb : cE (belL n t) n n (List.replicate n false) ≤ 1125899906842624 := by rw [yj8] at hbig; omega
 have hWk := ydq (belL n t) n (n + 1)
 have hmw := hWk.mapWf (P := Tryd.prog) ygj
 have hflt := hWk.flt
 have he := yj3 n t hs hn l (by omega)
 rw [hx] at he
 have ho := yhp n t hs hn
 have hok := ygy t hn
 have hways := fun m (hm : m < n) x (hx : x < n) hf => hIE.ways hcb hm hx hf
 have hbnd := fun m (hm : m < n) i hi => hIE.bound (i := i) hm hi
 have hkey := fun d hd => Reads.flat (yp9 n (belL n t) d hd hn) rfl
 have hnext := fun m i hi => Reads.flat (yj2 hok (dAt n l m) (ybg n l m) i hi) rfl
 unfold yiz at *
 generalize downW (belL n t) n (n + 1) = E at *
 generalize allW n t = A at *
 unfold stO stV relB at *
 generalize belL n t = bel at *
 refine Reads.body (rs := [.tmp 4, .tmp 5]) Tryd.func26 rfl Tryd.ntmps26 rfl (by simp) ?_
 generalize hQr : retQ _ _ _ = Qr
 refine AW.seq fun K1 hK1 => ?_
 refine AW.regionK 0 (fun _ => none) [1, 2] [2, 25, 33] ?_
 simp only [go_sem, reduceIte, reduceCtorEq, zA, zM, zE, zL, zD, zS, zP, zB, zI, zR, yab, yaa]
 repeat with_reducible refine cj ?_ ?_
 all_goals try first | omega
 refine hK1 _ _ _ ?_; clear hK1
 refine AW.seq fun K2 hK2 => ?_
 refine AW.block ?_
 refine AW.seq fun K3 hK3 => ?_
 refine AW.regionK 0 (fun ii => if ii = 1 then some (.reads false (.bool true)) else none) [1, 2, 14] [2, 25, 33] ?_
 simp only [go_sem, reduceIte, reduceCtorEq, zA, zM, zE, zL, zD, zS, zP, zB, zI, zR, yab, yaa]
 repeat with_reducible refine cj ?_ ?_
 all_goals try first | (exact hv) | omega | exact ent (by kernel_rfl)
 refine hK3 _ _ _ ?_; clear hK3
 refine AW.cond rfl (by simp only [go_sem, reduceIte, reduceCtorEq, zA, zM, zE, zL, zD, zS, zP, zB, zI, zR]) ?_ ?_
 ·intro hb
  try simp only [hB, decide_eq_true_eq, decide_eq_false_iff_not] at hb
  exfalso; simp at hb
 ·intro hb
  try simp only [hB, decide_eq_true_eq, decide_eq_false_iff_not] at hb
  refine AW.seq fun K4 hK4 => ?_
  refine AW.regionK 0 (fun ii => if ii = 2 then some (.reads false (.bool true)) else none) [1, 2, 18] [2, 25, 33] ?_
  simp only [go_sem, reduceIte, reduceCtorEq, zA, zM, zE, zL, zD, zS, zP, zB, zI, zR, yab, yaa]
  repeat with_reducible refine cj ?_ ?_
  all_goals try first | (exact he) | omega | exact ent (by kernel_rfl)
  refine hK4 _ _ _ ?_; clear hK4
  refine AW.cond rfl (by simp only [go_sem, reduceIte, reduceCtorEq, zA, zM, zE, zL, zD, zS, zP, zB, zI, zR]) ?_ ?_
  ·intro hb
   try simp only [hB, decide_eq_true_eq, decide_eq_false_iff_not] at hb
   exfalso; simp at hb
  ·intro hb
   try simp only [hB, decide_eq_true_eq, decide_eq_false_iff_not] at hb
   refine AW.skip ?_
   refine hK2 _ _ _ ?_; clear hK2
   refine AW.seq fun K5 hK5 => ?_
   refine AW.regionK 0 (fun ii => if ii = 1 then some (.upd [] (fun k => [(0, some ⟨k, k, ya0, E⟩)]) (fun k => .tup [.mp ⟨0, k, none⟩, .int .i64 A, .int .i64 0])) else none) [1, 2, 6, 8] [2, 25] ?_
   simp only [go_sem, reduceIte, reduceCtorEq, zA, zM, zE, zL, zD, zS, zP, zB, zI, zR, yab, yaa, hflt]
   repeat with_reducible refine cj ?_ ?_
   all_goals try first | (exact hc) | omega | exact ent (by kernel_rfl)
   refine hK5 _ _ _ ?_; clear hK5
   refine AW.seq fun K6 hK6 => ?_
   refine AW.seq fun K7 hK7 => ?_
   refine AW.regionK 0 (fun _ => none) [1, 2, 6, 8, 30] [2, 25] ?_
   simp only [go_sem, reduceIte, reduceCtorEq, zA, zM, zE, zL, zD, zS, zP, zB, zI, zR, yab, yaa]
   repeat with_reducible refine cj ?_ ?_
   all_goals try first | omega
   refine hK7 _ _ _ ?_; clear hK7
   refine AW.cond rfl (by simp only [go_sem, reduceIte, reduceCtorEq, zA, zM, zE, zL, zD, zS, zP, zB, zI, zR]) ?_ ?_
   ·intro hb
    try simp only [hB, decide_eq_true_eq, decide_eq_false_iff_not] at hb
    exfalso; simp at hb
   ·intro hb
    try simp only [hB, decide_eq_true_eq, decide_eq_false_iff_not] at hb
    refine AW.skip ?_
    refine hK6 _ _ _ ?_; clear hK6
    refine AW.seq fun K8 hK8 => ?_
    refine AW.regionK 0 (fun ii => if ii = 1 then some (.upd [] (fun k => [(0, some ⟨k, k, 3, [[.int .i64 n, .rsl 1 (lisR bel), .osl 1 (yar (List.replicate n false))]]⟩)]) (fun k => .ptr ⟨0, k, none⟩ 0 0)) else none) [1, 6, 9] [25, 33] ?_
    simp only [go_sem, reduceIte, reduceCtorEq, zA, zM, zE, zL, zD, zS, zP, zB, zI, zR, yab, yaa]
    repeat with_reducible refine cj ?_ ?_
    all_goals try first | (exact ho) | omega | exact ent (by kernel_rfl)
    refine hK8 _ _ _ ?_; clear hK8
    refine AW.seq fun K9 hK9 => ?_
    refine AW.regionK 0 (fun _ => none) [1, 6, 9, 10] [25, 33] ?_
    simp only [go_sem, reduceIte, reduceCtorEq, zA, zM, zE, zL, zD, zS, zP, zB, zI, zR, yab, yaa]
    repeat with_reducible refine cj ?_ ?_
    all_goals try first | omega
    refine hK9 _ _ _ ?_; clear hK9
    refine AW.seq fun K10 hK10 => ?_
    refine AW.seq fun K11 hK11 => ?_
    refine AW.regionK 0 (fun _ => none) [6, 9, 10, 34, 35, 36] [25, 33] ?_
    simp only [go_sem, reduceIte, reduceCtorEq, zA, zM, zE, zL, zD, zS, zP, zB, zI, zR, yab, yaa]
    repeat with_reducible refine cj ?_ ?_
    all_goals try first | omega
    refine hK11 _ _ _ ?_; clear hK11
    refine AW.block ?_
    refine AW.loopE (fun mm ee ss kk => ∃ (k g3 v3 g5 v5 : Nat), n - k = mm ∧ ee = [(6, .mp ⟨25, g3, none⟩), (9, .ptr ⟨33, g5, none⟩ 0 0), (10, .int .i64 (ya8 bel n l k : Nat)), (34, .rsl 1 (ints l)), (35, .int .i64 n), (36, .int .i64 (k : Nat))] ∧ ss = [(25, some ⟨g3, v3, ya0, E⟩), (33, some ⟨g5, v5, 3, [[.int .i64 n, .rsl 1 (lisR bel), .osl 1 (yar (dAt n l k))]]⟩)] ∧ (k ≤ n)) ?_ ?_
    ·refine ⟨_, 0, ?_, ?_, ?_, ?_, rfl, ?henv, ?hstore, ?hst⟩
     case henv =>
      repeat' (first | rfl | refine yac ?_ ?_ | refine yae ?_ ?_ ?_ ?_ | refine yah ?_ | refine yaf ?_ | refine yai ?_ | refine yaj ?_ | refine yan ?_ ?_ ?_ | refine yak ?_ ?_ ?_ | refine yal ?_ | refine yag ?_ ?_ | refine yad ?_ ?_)
      all_goals (first | omega | rfl | (rw [hln]))
     case hstore =>
      repeat' (first | rfl | refine yac ?_ ?_ | refine yae ?_ ?_ ?_ ?_ | refine yah ?_ | refine yaf ?_ | refine yai ?_ | refine yaj ?_ | refine yan ?_ ?_ ?_ | refine yak ?_ ?_ ?_ | refine yal ?_ | refine yag ?_ ?_ | refine yad ?_ ?_)
      all_goals (first | (simp; done) | omega | (simp; omega))
     case hst =>
      first | trivial | omega | (simp; done) | (simp; omega)
    rintro mm ee ss kk ⟨k, g3, v3, g5, v5, rfl, rfl, rfl, hI⟩
    generalize hQl1 : ya9 _ _ = Ql1
    have hdl := ybg n l k
    refine AW.seq fun K12 hK12 => ?_
    refine AW.regionK 0 (fun _ => none) [6, 9, 10, 34, 35, 36, 37] [25, 33] ?_
    simp only [go_sem, reduceIte, reduceCtorEq, zA, zM, zE, zL, zD, zS, zP, zB, zI, zR, yab, yaa]
    repeat with_reducible refine cj ?_ ?_
    all_goals try first | omega
    refine hK12 _ _ _ ?_; clear hK12
    refine AW.seq fun K13 hK13 => ?_
    refine AW.cond rfl (by simp only [go_sem, reduceIte, reduceCtorEq, zA, zM, zE, zL, zD, zS, zP, zB, zI, zR]) ?_ ?_
    ·intro hb
     try simp only [hB, decide_eq_true_eq, decide_eq_false_iff_not] at hb
     have hk : k < n := by omega
     have hgx := ybv (l := l) (i := k) (by omega)
     obtain ⟨hx0, hx1⟩ := hIE.rng k hk
     have hfx := hIE.free k hk
     have hds := ycf (n := n) (l := l) (m := k) (by omega)
     have hnx := hnext k
     have hwy := hways k hk
     have hbd := hbnd k hk
     have hrs : ya8 bel n l (k + 1) = ya8 bel n l k + sumF (yaq bel (dAt n l k)) (fun x => cE bel n (n - (k + 1)) ((dAt n l k).set x true)) (l.getD k 0).toNat := rfl
     generalize hX : l.getD k 0 = x at *
     generalize hD : dAt n l k = d at *
     refine AW.skip ?_
     refine hK13 _ _ _ ?_; clear hK13
     refine AW.seq fun K14 hK14 => ?_
     refine AW.block ?_
     refine AW.seq fun K15 hK15 => ?_
     refine AW.regionK 0 (fun _ => none) [6, 9, 10, 12, 34, 35, 36] [25, 33] ?_
     simp only [go_sem, reduceIte, reduceCtorEq, zA, zM, zE, zL, zD, zS, zP, zB, zI, zR, yab, yaa, hgx]
     repeat with_reducible refine cj ?_ ?_
     all_goals try first | omega
     refine hK15 _ _ _ ?_; clear hK15
     refine AW.seq fun K16 hK16 => ?_
     refine AW.seq fun K17 hK17 => ?_
     refine AW.regionK 0 (fun ii => if ii = 1 then some (.reads true (.int .i64 (nxt (yaq bel d) n 0))) else none) [6, 9, 10, 12, 13, 34, 35, 36] [25, 33] ?_
     simp only [go_sem, reduceIte, reduceCtorEq, zA, zM, zE, zL, zD, zS, zP, zB, zI, zR, yab, yaa]
     repeat with_reducible refine cj ?_ ?_
     all_goals try first | (exact hnx 0 (by omega)) | omega | exact ent (by kernel_rfl)
     refine hK17 _ _ _ ?_; clear hK17
     refine AW.block ?_
     refine AW.loopE (fun mm ee ss kk => ∃ (i g3 v3 g5 v5 : Nat), n + 1 - i = mm ∧ ee = [(6, .mp ⟨25, g3, none⟩), (9, .ptr ⟨33, g5, none⟩ 0 0), (10, .int .i64 (ya8 bel n l k + sumF (yaq bel d) (fun x => cE bel n (n - (k + 1)) (d.set x true)) i : Nat)), (12, .int .i64 x), (13, .int .i64 (nxt (yaq bel d) n i)), (34, .rsl 1 (ints l)), (35, .int .i64 n), (36, .int .i64 (k : Nat))] ∧ ss = [(25, some ⟨g3, v3, ya0, E⟩), (33, some ⟨g5, v5, 3, [[.int .i64 n, .rsl 1 (lisR bel), .osl 1 (yar d)]]⟩)] ∧ (i ≤ x.toNat)) ?_ ?_
     ·refine ⟨_, 0, ?_, ?_, ?_, ?_, rfl, ?henv, ?hstore, ?hst⟩
      case henv =>
       repeat' (first | rfl | refine yac ?_ ?_ | refine yae ?_ ?_ ?_ ?_ | refine yah ?_ | refine yaf ?_ | refine yai ?_ | refine yaj ?_ | refine yan ?_ ?_ ?_ | refine yak ?_ ?_ ?_ | refine yal ?_ | refine yag ?_ ?_ | refine yad ?_ ?_)
       all_goals (first | (simp; done) | omega | (simp; omega))
      case hstore =>
       repeat' (first | rfl | refine yac ?_ ?_ | refine yae ?_ ?_ ?_ ?_ | refine yah ?_ | refine yaf ?_ | refine yai ?_ | refine yaj ?_ | refine yan ?_ ?_ ?_ | refine yak ?_ ?_ ?_ | refine yal ?_ | refine yag ?_ ?_ | refine yad ?_ ?_)
       all_goals (first | (simp; done) | omega | (simp; omega))
      case hst =>
       first | trivial | omega | (simp; done) | (simp; omega)
     rintro mm ee ss kk ⟨i, g3, v3, g5, v5, rfl, rfl, rfl, hI⟩
     generalize hQl2 : ya9 _ _ = Ql2
     have hsn := ypw (p := yaq bel d) (fun x => cE bel n (n - (k + 1)) (d.set x true)) (n := n) (i := i) (x := x.toNat) hI (by omega)
     refine AW.seq fun K18 hK18 => ?_
     refine AW.seq fun K19 hK19 => ?_
     refine AW.regionK 0 (fun _ => none) [6, 9, 10, 12, 13, 34, 35, 36, 48] [25, 33] ?_
     simp only [go_sem, reduceIte, reduceCtorEq, zA, zM, zE, zL, zD, zS, zP, zB, zI, zR, yab, yaa]
     repeat with_reducible refine cj ?_ ?_
     all_goals try first | omega | (intros; (repeat' apply And.intro) <;> first | assumption | omega | decide) | (intro hgd; exact absurd hgd (by decide)) | rfl | (simp only [go_sem, reduceIte, reduceCtorEq, zA, zM, zE, zL, zD, zS, zP, zB, zI, zR, yab, yaa]; done) | (intro _hgd; simp_all [go_sem]; done)
     refine hK19 _ _ _ ?_; clear hK19
     refine AW.cond rfl (by simp only [go_sem, reduceIte, reduceCtorEq, zA, zM, zE, zL, zD, zS, zP, zB, zI, zR]) ?_ ?_
     ·intro hb
      try simp only [hB, decide_eq_true_eq, decide_eq_false_iff_not] at hb
      have hb2 : 0 ≤ nxt (yaq bel d) n i ∧ nxt (yaq bel d) n i < (x.toNat : Int) := by
       omega
      obtain ⟨q, hq1, hq2, hq3, hq4, hq5⟩ := hsn.1 hb2
      clear hsn
      have hdq := ybw hq4
      have hxt : (nxt (yaq bel d) n i).toNat = q := by omega
      have hxr : 0 ≤ nxt (yaq bel d) n i ∧ nxt (yaq bel d) n i < (n : Int) := by omega
      have hxs : nxt (yaq bel d) n i + 1 = ((q + 1 : Nat) : Int) := by omega
      have hd2 : (d.set q true).length = n := by rw [List.length_set]; exact hdl
      have hk2 := hkey _ hd2
      have hw2 := hwy q (by omega) hq4
      have hn2 := hnx (q + 1) (by omega)
      have hb3 := hbd (q + 1) (by omega)
      have hss : (d.set q true).set q false = d := by rw [List.set_set, ← hdq]; exact yf4 d q false
      have hsum : ((ya8 bel n l k + sumF (yaq bel d) (fun x => cE bel n (n - (k + 1)) (d.set x true)) i : Nat) : Int) + (cE bel n (n - (k + 1)) (d.set q true) : Nat) = ((ya8 bel n l k + sumF (yaq bel d) (fun x => cE bel n (n - (k + 1)) (d.set x true)) (q + 1) : Nat) : Int) := by rw [hq5]; omega
      refine AW.skip ?_
      refine hK18 _ _ _ ?_; clear hK18
      refine AW.seq fun K20 hK20 => ?_
      refine AW.block ?_
      refine AW.seq fun K21 hK21 => ?_
      refine AW.regionK 0 (fun _ => none) [6, 9, 10, 12, 13, 34, 35, 36] [25, 33] ?_
      simp only [go_sem, reduceIte, reduceCtorEq, zA, zM, zE, zL, zD, zS, zP, zB, zI, zR, yab, yaa, hxt, hdl, bools_upd]
      repeat with_reducible refine cj ?_ ?_
      all_goals try first | omega
      refine hK21 _ _ _ ?_; clear hK21
      refine AW.seq fun K22 hK22 => ?_
      refine AW.regionK 0 (fun ii => if ii = 3 then some (.reads true (.str (keyS (d.set q true)))) else none) [6, 9, 10, 12, 13, 34, 35, 36] [25, 33] ?_
      simp only [go_sem, reduceIte, reduceCtorEq, zA, zM, zE, zL, zD, zS, zP, zB, zI, zR, yab, yaa, hw2, hsum]
      repeat with_reducible refine cj ?_ ?_
      all_goals try first | (first | exact hk2 | exact hmw) | omega | exact ent (by kernel_rfl)
      refine hK22 _ _ _ ?_; clear hK22
      refine AW.regionK 0 (fun _ => none) [6, 9, 10, 12, 13, 34, 35, 36] [25, 33] ?_
      simp only [go_sem, reduceIte, reduceCtorEq, zA, zM, zE, zL, zD, zS, zP, zB, zI, zR, yab, yaa, hxt, hd2, bools_upd, hss]
      repeat with_reducible refine cj ?_ ?_
      all_goals try first | omega
      refine hK20 _ _ _ ?_; clear hK20
      refine AW.regionK 0 (fun ii => if ii = 3 then some (.reads true (.int .i64 (nxt (yaq bel d) n (q + 1)))) else none) [6, 9, 10, 12, 13, 34, 35, 36] [25, 33] ?_
      simp only [go_sem, reduceIte, reduceCtorEq, zA, zM, zE, zL, zD, zS, zP, zB, zI, zR, yab, yaa, hxs]
      repeat with_reducible refine cj ?_ ?_
      all_goals try first | (exact hn2) | omega | exact ent (by kernel_rfl)
      rw [← hQl2]
      change Exists _
      refine ⟨_, ?hm, q + 1, ?_, ?_, ?_, ?_, rfl, ?henv, ?hstore, ?hst⟩
      case henv =>
       repeat' (first | rfl | refine yac ?_ ?_ | refine yae ?_ ?_ ?_ ?_ | refine yah ?_ | refine yaf ?_ | refine yai ?_ | refine yaj ?_ | refine yan ?_ ?_ ?_ | refine yak ?_ ?_ ?_ | refine yal ?_ | refine yag ?_ ?_ | refine yad ?_ ?_)
       all_goals (first | (simp; done) | omega | (simp; omega))
      case hstore =>
       repeat' (first | rfl | refine yac ?_ ?_ | refine yae ?_ ?_ ?_ ?_ | refine yah ?_ | refine yaf ?_ | refine yai ?_ | refine yaj ?_ | refine yan ?_ ?_ ?_ | refine yak ?_ ?_ ?_ | refine yal ?_ | refine yag ?_ ?_ | refine yad ?_ ?_)
       all_goals (first | (simp; done) | omega | (simp; omega))
      case hst =>
       omega
      case hm => omega
     ·intro hb
      try simp only [hB, decide_eq_true_eq, decide_eq_false_iff_not] at hb
      have hb9 : ¬ (0 ≤ nxt (yaq bel d) n i ∧ nxt (yaq bel d) n i < (x.toNat : Int)) := by
       clear hsn
       omega
      have hse := hsn.2 hb9
      clear hsn
      rw [← hse, ← hrs]
      refine AW.keep [6, 9, 10, 12, 34, 35, 36] [25, 33] ?_
      try simp only [go_sem, reduceIte, reduceCtorEq, zA, zM, zE, zL, zD, zS, zP, zB, zI, zR]
      refine AW.exit ?_
      rw [← hQl2]
      refine hK16 _ _ _ ?_; clear hK16
      refine AW.regionK 0 (fun _ => none) [6, 9, 10, 34, 35, 36] [25, 33] ?_
      simp only [go_sem, reduceIte, reduceCtorEq, zA, zM, zE, zL, zD, zS, zP, zB, zI, zR, yab, yaa, hdl, bools_upd]
      repeat with_reducible refine cj ?_ ?_
      all_goals try first | omega
      refine hK14 _ _ _ ?_; clear hK14
      refine AW.regionK 0 (fun _ => none) [6, 9, 10, 34, 35, 36] [25, 33] ?_
      simp only [go_sem, reduceIte, reduceCtorEq, zA, zM, zE, zL, zD, zS, zP, zB, zI, zR, yab, yaa]
      repeat with_reducible refine cj ?_ ?_
      all_goals try first | omega
      rw [← hQl1]
      change Exists _
      refine ⟨_, ?hm, k + 1, ?_, ?_, ?_, ?_, rfl, ?henv, ?hstore, ?hst⟩
      case henv =>
       repeat' (first | rfl | refine yac ?_ ?_ | refine yae ?_ ?_ ?_ ?_ | refine yah ?_ | refine yaf ?_ | refine yai ?_ | refine yaj ?_ | refine yan ?_ ?_ ?_ | refine yak ?_ ?_ ?_ | refine yal ?_ | refine yag ?_ ?_ | refine yad ?_ ?_)
       all_goals (first | (simp; done) | omega | (simp; omega))
      case hstore =>
       repeat' (first | rfl | refine yac ?_ ?_ | refine yae ?_ ?_ ?_ ?_ | refine yah ?_ | refine yaf ?_ | refine yai ?_ | refine yaj ?_ | refine yan ?_ ?_ ?_ | refine yak ?_ ?_ ?_ | refine yal ?_ | refine yag ?_ ?_ | refine yad ?_ ?_)
       all_goals (rw [hds])
      case hst =>
       omega
      case hm => omega
    ·intro hb
     try simp only [hB, decide_eq_true_eq, decide_eq_false_iff_not] at hb
     have hkn : k = n := by omega
     subst hkn
     refine AW.keep [10] [25, 33] ?_
     try simp only [go_sem, reduceIte, reduceCtorEq, zA, zM, zE, zL, zD, zS, zP, zB, zI, zR]
     refine AW.exit ?_
     rw [← hQl1]
     refine hK10 _ _ _ ?_; clear hK10
     refine AW.seq fun K23 hK23 => ?_
     refine AW.regionK 0 (fun _ => none) [4, 5] [25, 33] ?_
     simp only [go_sem, reduceIte, reduceCtorEq, zA, zM, zE, zL, zD, zS, zP, zB, zI, zR, yab, yaa]
     repeat with_reducible refine cj ?_ ?_
     all_goals try first | omega
     refine hK23 _ _ _ ?_; clear hK23
     refine AW.ret ?_
     rw [← hQr]
     simp only [go_sem, reduceIte, reduceCtorEq, zA, zM, zE, zL, zD, zS, zP, zB, zI, zR, yab, yaa]
     exact Wk.refl _
end Go.Proofs.X

namespace Go.Proofs.X
open Go.AM Go
set_option maxRecDepth 100000
set_option maxHeartbeats 4000000
theorem yl5 (es : List (List AV)) (k e : Int) (he : e ≠ 0) (hc : Reads Tryd.prog 42 false [.agg [.rsl 2 es]] (.tup [.any, .int .i64 0, .int .i64 e])) : Reads Tryd.prog 27 false [.agg [.rsl 2 es], .int .i64 k] (.tup [.rsl 1 [], .int .i64 e]) := by
 refine Reads.body (rs := [.tmp 4, .tmp 5]) Tryd.func27 rfl Tryd.ntmps27 rfl (by simp) ?_
 generalize hQr : retQ _ _ _ = Qr
 refine AW.seq fun K1 hK1 => ?_
 refine AW.regionK 0 (fun _ => none) [1, 2] [2] ?_
 simp only [go_sem, reduceIte, reduceCtorEq, zA, zM, zE, zL, zD, zS, zP, zB, zI, zR]
 repeat with_reducible refine cj ?_ ?_
 all_goals try first | omega
 refine hK1 _ _ _ ?_; clear hK1
 refine AW.seq fun K2 hK2 => ?_
 refine AW.regionK 0 (fun ii => if ii = 1 then some (.reads false (.tup [.any, .int .i64 0, .int .i64 e])) else none) [1, 2, 6, 7, 8] [2] ?_
 simp only [go_sem, reduceIte, reduceCtorEq, zA, zM, zE, zL, zD, zS, zP, zB, zI, zR]
 repeat with_reducible refine cj ?_ ?_
 all_goals try first | (exact hc) | omega | exact ent (by kernel_rfl)
 refine hK2 _ _ _ ?_; clear hK2
 refine AW.seq fun K3 hK3 => ?_
 refine AW.block ?_
 refine AW.seq fun K4 hK4 => ?_
 refine AW.regionK 0 (fun _ => none) [1, 2, 6, 7, 8, 19] [2] ?_
 simp only [go_sem, reduceIte, reduceCtorEq, zA, zM, zE, zL, zD, zS, zP, zB, zI, zR]
 repeat with_reducible refine cj ?_ ?_
 all_goals try first | omega
 refine hK4 _ _ _ ?_; clear hK4
 refine AW.cond rfl (by simp only [go_sem, reduceIte, reduceCtorEq, zA, zM, zE, zL, zD, zS, zP, zB, zI, zR]) ?_ ?_
 ·intro hb
  try simp only [hB, decide_eq_true_eq, decide_eq_false_iff_not] at hb
  refine AW.seq fun K5 hK5 => ?_
  refine AW.regionK 0 (fun _ => none) [4, 5] [] ?_
  simp only [go_sem, reduceIte, reduceCtorEq, zA, zM, zE, zL, zD, zS, zP, zB, zI, zR]
  repeat with_reducible refine cj ?_ ?_
  all_goals try first | omega
  refine hK5 _ _ _ ?_; clear hK5
  refine AW.ret ?_
  rw [← hQr]
  simp only [go_sem, reduceIte, reduceCtorEq, zA, zM, zE, zL, zD, zS, zP, zB, zI, zR]
  exact Wk.tup2 (Wk.nil 1) (Wk.refl _)
 ·intro hb
  try simp only [hB, decide_eq_true_eq, decide_eq_false_iff_not] at hb
  exfalso; exact he hb
theorem unrank_r (n : Nat) (t : List (List Bool)) (hs : Sq n t) (hn : n ≤ 512) (hp : poB n t = true) (hbud : cntL (belL n t) n n ≤ 5000) (hbig : allW n t ≤ 1125899906842624) (k : Int) (hk : k < 0 ∨ allW n t ≤ k) :
  Reads Tryd.prog 27 false [relB t, .int .i64 k] (.tup [.rsl 1 [], .int .i64 2]) := by
 have hc := yhu n t hs hn hp hbud hbig
 have hflt := (ydq (belL n t) n (n + 1)).flt
 unfold yiz at *
 generalize downW (belL n t) n (n + 1) = E at *
 generalize allW n t = A at *
 unfold relB at *
 refine Reads.body (rs := [.tmp 4, .tmp 5]) Tryd.func27 rfl Tryd.ntmps27 rfl (by simp) ?_
 generalize hQr : retQ _ _ _ = Qr
 refine AW.seq fun K1 hK1 => ?_
 refine AW.regionK 0 (fun _ => none) [1, 2] [2] ?_
 simp only [go_sem, reduceIte, reduceCtorEq, zA, zM, zE, zL, zD, zS, zP, zB, zI, zR]
 repeat with_reducible refine cj ?_ ?_
 all_goals try first | omega
 refine hK1 _ _ _ ?_; clear hK1
 refine AW.seq fun K2 hK2 => ?_
 refine AW.regionK 0 (fun ii => if ii = 1 then some (.upd [] (fun k => [(0, some ⟨k, k, ya0, E⟩)]) (fun k => .tup [.mp ⟨0, k, none⟩, .int .i64 A, .int .i64 0])) else none) [1, 2, 6, 7, 8] [2] ?_
 simp only [go_sem, reduceIte, reduceCtorEq, zA, zM, zE, zL, zD, zS, zP, zB, zI, zR, hflt]
 repeat with_reducible refine cj ?_ ?_
 all_goals try first | (exact hc) | omega | exact ent (by kernel_rfl)
 refine hK2 _ _ _ ?_; clear hK2
 refine AW.seq fun K3 hK3 => ?_
 refine AW.block ?_
 refine AW.seq fun K4 hK4 => ?_
 refine AW.regionK 0 (fun _ => none) [1, 2, 6, 7, 8, 19] [2] ?_
 simp only [go_sem, reduceIte, reduceCtorEq, zA, zM, zE, zL, zD, zS, zP, zB, zI, zR]
 repeat with_reducible refine cj ?_ ?_
 all_goals try first | omega
 refine hK4 _ _ _ ?_; clear hK4
 refine AW.cond rfl (by simp only [go_sem, reduceIte, reduceCtorEq, zA, zM, zE, zL, zD, zS, zP, zB, zI, zR]) ?_ ?_
 ·intro hb
  try simp only [hB, decide_eq_true_eq, decide_eq_false_iff_not] at hb
  exfalso; simp at hb
 ·intro hb
  try simp only [hB, decide_eq_true_eq, decide_eq_false_iff_not] at hb
  refine AW.seq fun K5 hK5 => ?_
  refine AW.regionK 0 (fun _ => none) [1, 2, 6, 23] [2] ?_
  simp only [go_sem, reduceIte, reduceCtorEq, zA, zM, zE, zL, zD, zS, zP, zB, zI, zR]
  repeat with_reducible refine cj ?_ ?_
  all_goals try first | omega | (intros; (repeat' apply And.intro) <;> first | assumption | omega | decide) | (intro hgd; exact absurd hgd (by decide)) | rfl | (simp only [go_sem, reduceIte, reduceCtorEq, zA, zM, zE, zL, zD, zS, zP, zB, zI, zR]; done) | (intro _hgd; simp_all [go_sem]; done)
  refine hK5 _ _ _ ?_; clear hK5
  refine AW.cond rfl (by simp only [go_sem, reduceIte, reduceCtorEq, zA, zM, zE, zL, zD, zS, zP, zB, zI, zR]) ?_ ?_
  ·intro hb
   try simp only [hB, decide_eq_true_eq, decide_eq_false_iff_not] at hb
   refine AW.seq fun K6 hK6 => ?_
   refine AW.regionK 0 (fun _ => none) [4, 5] [] ?_
   simp only [go_sem, reduceIte, reduceCtorEq, zA, zM, zE, zL, zD, zS, zP, zB, zI, zR]
   repeat with_reducible refine cj ?_ ?_
   all_goals try first | omega
   refine hK6 _ _ _ ?_; clear hK6
   refine AW.ret ?_
   rw [← hQr]
   simp only [go_sem, reduceIte, reduceCtorEq, zA, zM, zE, zL, zD, zS, zP, zB, zI, zR]
   exact Wk.tup2 (Wk.nil 1) (Wk.refl _)
  ·intro hb
   try simp only [hB, decide_eq_true_eq, decide_eq_false_iff_not] at hb
   exfalso; omega
theorem unrank_u (n : Nat) (t : List (List Bool)) (hs : Sq n t) (hn : n ≤ 512) (hp : poB n t = true) (hbud : cntL (belL n t) n n ≤ 5000) (hbig : allW n t ≤ 1125899906842624) (l : List Int) (hx : extB n (belL n t) l = true) :
  Reads Tryd.prog 27 false [relB t, .int .i64 (ya8 (belL n t) n l n : Nat)] (.tup [.rsl 1 (ints l), .int .i64 0]) := by
 have hIE := extB_iff.1 hx
 have hln := hIE.len
 have hc := yhu n t hs hn hp hbud hbig
 have hcb : cE (belL n t) n n (List.replicate n false) ≤ 1125899906842624 := by rw [yj8] at hbig; omega
 have hall : (ya8 (belL n t) n l n : Int) < allW n t := by
  have := hIE.rank_lt (Nat.zero_le n)
  rw [yj8]
  have h5 : dAt n l 0 = List.replicate n false := rfl
  have h6 : ya8 (belL n t) n l 0 = 0 := rfl
  rw [h5, h6, Nat.sub_zero] at this
  omega
 have hWk := ydq (belL n t) n (n + 1)
 have hmw := hWk.mapWf (P := Tryd.prog) ygj
 have hflt := hWk.flt
 have ho := yhp n t hs hn
 have hok := ygy t hn
 have hways := fun m (hm : m < n) x (hx : x < n) hf => hIE.ways hcb hm hx hf
 have hkey := fun d hd => Reads.flat (yp9 n (belL n t) d hd hn) rfl
 have hnext := fun m i hi => Reads.flat (yj2 hok (dAt n l m) (ybg n l m) i hi) rfl
 have hrm := yif (belL n t) n l
 have hrl := fun m (hm : m ≤ n) => hIE.rank_lt hm
 unfold yiz at *
 generalize downW (belL n t) n (n + 1) = E at *
 generalize allW n t = A at *
 unfold stO stV relB at *
 generalize belL n t = bel at *
 generalize hK : ya8 bel n l n = K at *
 refine Reads.body (rs := [.tmp 4, .tmp 5]) Tryd.func27 rfl Tryd.ntmps27 rfl (by simp) ?_
 generalize hQr : retQ _ _ _ = Qr
 refine AW.seq fun K1 hK1 => ?_
 refine AW.regionK 0 (fun _ => none) [1, 2] [2] ?_
 simp only [go_sem, reduceIte, reduceCtorEq, zA, zM, zE, zL, zD, zS, zP, zB, zI, zR, yab, yaa]
 repeat with_reducible refine cj ?_ ?_
 all_goals try first | omega
 refine hK1 _ _ _ ?_; clear hK1
 refine AW.seq fun K2 hK2 => ?_
 refine AW.regionK 0 (fun ii => if ii = 1 then some (.upd [] (fun k => [(0, some ⟨k, k, ya0, E⟩)]) (fun k => .tup [.mp ⟨0, k, none⟩, .int .i64 A, .int .i64 0])) else none) [1, 2, 6, 7, 8] [2, 15] ?_
 simp only [go_sem, reduceIte, reduceCtorEq, zA, zM, zE, zL, zD, zS, zP, zB, zI, zR, yab, yaa, hflt]
 repeat with_reducible refine cj ?_ ?_
 all_goals try first | (exact hc) | omega | exact ent (by kernel_rfl)
 refine hK2 _ _ _ ?_; clear hK2
 refine AW.seq fun K3 hK3 => ?_
 refine AW.block ?_
 refine AW.seq fun K4 hK4 => ?_
 refine AW.regionK 0 (fun _ => none) [1, 2, 6, 7, 8, 19] [2, 15] ?_
 simp only [go_sem, reduceIte, reduceCtorEq, zA, zM, zE, zL, zD, zS, zP, zB, zI, zR, yab, yaa]
 repeat with_reducible refine cj ?_ ?_
 all_goals try first | omega
 refine hK4 _ _ _ ?_; clear hK4
 refine AW.cond rfl (by simp only [go_sem, reduceIte, reduceCtorEq, zA, zM, zE, zL, zD, zS, zP, zB, zI, zR]) ?_ ?_
 ·intro hb
  try simp only [hB, decide_eq_true_eq, decide_eq_false_iff_not] at hb
  exfalso; simp at hb
 ·intro hb
  try simp only [hB, decide_eq_true_eq, decide_eq_false_iff_not] at hb
  refine AW.seq fun K5 hK5 => ?_
  refine AW.regionK 0 (fun _ => none) [1, 2, 6, 23] [2, 15] ?_
  simp only [go_sem, reduceIte, reduceCtorEq, zA, zM, zE, zL, zD, zS, zP, zB, zI, zR, yab, yaa]
  repeat with_reducible refine cj ?_ ?_
  all_goals try first | omega | (intros; (repeat' apply And.intro) <;> first | assumption | omega | decide) | (intro hgd; exact absurd hgd (by decide)) | rfl | (simp only [go_sem, reduceIte, reduceCtorEq, zA, zM, zE, zL, zD, zS, zP, zB, zI, zR, yab, yaa]; done) | (intro _hgd; simp_all [go_sem]; done)
  refine hK5 _ _ _ ?_; clear hK5
  refine AW.cond rfl (by simp only [go_sem, reduceIte, reduceCtorEq, zA, zM, zE, zL, zD, zS, zP, zB, zI, zR]) ?_ ?_
  ·intro hb
   try simp only [hB, decide_eq_true_eq, decide_eq_false_iff_not] at hb
   exfalso; omega
  ·intro hb
   try simp only [hB, decide_eq_true_eq, decide_eq_false_iff_not] at hb
   refine AW.skip ?_
   refine hK3 _ _ _ ?_; clear hK3
   refine AW.seq fun K6 hK6 => ?_
   refine AW.regionK 0 (fun ii => if ii = 1 then some (.upd [] (fun k => [(0, some ⟨k, k, 3, [[.int .i64 n, .rsl 1 (lisR bel), .osl 1 (yar (List.replicate n false))]]⟩)]) (fun k => .ptr ⟨0, k, none⟩ 0 0)) else none) [1, 6, 9] [15, 32] ?_
   simp only [go_sem, reduceIte, reduceCtorEq, zA, zM, zE, zL, zD, zS, zP, zB, zI, zR, yab, yaa]
   repeat with_reducible refine cj ?_ ?_
   all_goals try first | (exact ho) | omega | exact ent (by kernel_rfl)
   refine hK6 _ _ _ ?_; clear hK6
   refine AW.seq fun K7 hK7 => ?_
   refine AW.regionK 0 (fun _ => none) [1, 6, 9, 10] [15, 32] ?_
   simp only [go_sem, reduceIte, reduceCtorEq, zA, zM, zE, zL, zD, zS, zP, zB, zI, zR, yab, yaa]
   repeat with_reducible refine cj ?_ ?_
   all_goals try first | omega
   refine hK7 _ _ _ ?_; clear hK7
   refine AW.nilOwn 10 200 1 rfl ?_
   refine AW.keep [1, 6, 9, 10] [15, 32, 200] ?_
   simp only [go_sem, reduceIte, zE]
   refine AW.seq fun K8 hK8 => ?_
   refine AW.block ?_
   refine AW.loopE (fun mm ee ss kk => ∃ (k g3 v3 g5 v5 g7 v7 : Nat), n - k = mm ∧ ee = [(1, .int .i64 ((K : Int) - ya8 bel n l k)), (6, .mp ⟨15, g3, none⟩), (9, .ptr ⟨32, g5, none⟩ 0 0), (10, .sl ⟨200, g7, none⟩ 0 k none)] ∧ ss = [(15, some ⟨g3, v3, ya0, E⟩), (32, some ⟨g5, v5, 3, [[.int .i64 n, .rsl 1 (lisR bel), .osl 1 (yar (dAt n l k))]]⟩), (200, some ⟨g7, v7, 1, ints (l.take k)⟩)] ∧ (k ≤ n)) ?_ ?_
   ·refine ⟨_, 0, ?_, ?_, ?_, ?_, ?_, ?_, rfl, ?henv, ?hstore, ?hst⟩
    case henv =>
     repeat' (first | rfl | refine yac ?_ ?_ | refine yae ?_ ?_ ?_ ?_ | refine yah ?_ | refine yaf ?_ | refine yai ?_ | refine yaj ?_ | refine yan ?_ ?_ ?_ | refine yak ?_ ?_ ?_ | refine yal ?_ | refine yag ?_ ?_ | refine yad ?_ ?_)
     all_goals (first | omega | rfl | (simp [ya8]))
    case hstore =>
     repeat' (first | rfl | refine yac ?_ ?_ | refine yae ?_ ?_ ?_ ?_ | refine yah ?_ | refine yaf ?_ | refine yai ?_ | refine yaj ?_ | refine yan ?_ ?_ ?_ | refine yak ?_ ?_ ?_ | refine yal ?_ | refine yag ?_ ?_ | refine yad ?_ ?_)
     all_goals (first | (simp; done) | omega | (simp; omega))
    case hst =>
     first | trivial | omega | (simp; done) | (simp; omega)
   rintro mm ee ss kk ⟨k, g3, v3, g5, v5, g7, v7, rfl, rfl, rfl, hI⟩
   generalize hQl1 : ya9 _ _ = Ql1
   have hdl := ybg n l k
   refine AW.seq fun K9 hK9 => ?_
   refine AW.seq fun K10 hK10 => ?_
   refine AW.regionK 0 (fun _ => none) [1, 6, 9, 10, 39] [15, 32, 200] ?_
   simp only [go_sem, reduceIte, reduceCtorEq, zA, zM, zE, zL, zD, zS, zP, zB, zI, zR, yab, yaa]
   repeat with_reducible refine cj ?_ ?_
   all_goals try first | omega
   refine hK10 _ _ _ ?_; clear hK10
   refine AW.cond rfl (by simp only [go_sem, reduceIte, reduceCtorEq, zA, zM, zE, zL, zD, zS, zP, zB, zI, zR]) ?_ ?_
   ·intro hb
    try simp only [hB, decide_eq_true_eq, decide_eq_false_iff_not] at hb
    have hk : k < n := by omega
    have hgx := ybv (l := l) (i := k) (by omega)
    obtain ⟨hx0, hx1⟩ := hIE.rng k hk
    have hfx := hIE.free k hk
    have hds := ycf (n := n) (l := l) (m := k) (by omega)
    have hnx := hnext k
    have hwy := hways k hk
    have hrs : ya8 bel n l (k + 1) = ya8 bel n l k + sumF (yaq bel (dAt n l k)) (fun x => cE bel n (n - (k + 1)) ((dAt n l k).set x true)) (l.getD k 0).toNat := rfl
    have hr1 := hrm (k + 1) n (by omega)
    have hr2 := hrl (k + 1) (by omega)
    have htk : l.take (k + 1) = l.take k ++ [l.getD k 0] := by rw [List.take_add_one, List.getElem?_eq_getElem (by omega)]; simp [List.getD_eq_getElem?_getD, List.getElem?_eq_getElem (show k < l.length by omega)]
    have hlt : (ints (l.take k)).take k = ints (l.take k) := List.take_of_length_le (by rw [yaa]; simp; omega)
    rw [hds] at hr2
    rw [hK] at hr1
    generalize hX : l.getD k 0 = x at *
    generalize hD : dAt n l k = d at *
    refine AW.skip ?_
    refine hK9 _ _ _ ?_; clear hK9
    refine AW.block ?_
    refine AW.seq fun K11 hK11 => ?_
    refine AW.regionK 0 (fun ii => if ii = 1 then some (.reads true (.int .i64 (nxt (yaq bel d) n 0))) else none) [1, 6, 9, 10, 11] [15, 32, 200] ?_
    simp only [go_sem, reduceIte, reduceCtorEq, zA, zM, zE, zL, zD, zS, zP, zB, zI, zR, yab, yaa]
    repeat with_reducible refine cj ?_ ?_
    all_goals try first | (exact hnx 0 (by omega)) | omega | exact ent (by kernel_rfl)
    refine hK11 _ _ _ ?_; clear hK11
    refine AW.block ?_
    refine AW.loopE (fun mm ee ss kk => ∃ (i g3 v3 g5 v5 g7 v7 : Nat), n + 1 - i = mm ∧ ee = [(1, .int .i64 ((K : Int) - (ya8 bel n l k + sumF (yaq bel d) (fun x => cE bel n (n - (k + 1)) (d.set x true)) i : Nat))), (6, .mp ⟨15, g3, none⟩), (9, .ptr ⟨32, g5, none⟩ 0 0), (10, .sl ⟨200, g7, none⟩ 0 k none), (11, .int .i64 (nxt (yaq bel d) n i))] ∧ ss = [(15, some ⟨g3, v3, ya0, E⟩), (32, some ⟨g5, v5, 3, [[.int .i64 n, .rsl 1 (lisR bel), .osl 1 (yar d)]]⟩), (200, some ⟨g7, v7, 1, ints (l.take k)⟩)] ∧ (i ≤ x.toNat)) ?_ ?_
    ·refine ⟨_, 0, ?_, ?_, ?_, ?_, ?_, ?_, rfl, ?henv, ?hstore, ?hst⟩
     case henv =>
      repeat' (first | rfl | refine yac ?_ ?_ | refine yae ?_ ?_ ?_ ?_ | refine yah ?_ | refine yaf ?_ | refine yai ?_ | refine yaj ?_ | refine yan ?_ ?_ ?_ | refine yak ?_ ?_ ?_ | refine yal ?_ | refine yag ?_ ?_ | refine yad ?_ ?_)
      all_goals (first | (simp; done) | omega | (simp; omega))
     case hstore =>
      repeat' (first | rfl | refine yac ?_ ?_ | refine yae ?_ ?_ ?_ ?_ | refine yah ?_ | refine yaf ?_ | refine yai ?_ | refine yaj ?_ | refine yan ?_ ?_ ?_ | refine yak ?_ ?_ ?_ | refine yal ?_ | refine yag ?_ ?_ | refine yad ?_ ?_)
      all_goals (first | (simp; done) | omega | (simp; omega))
     case hst =>
      first | trivial | omega | (simp; done) | (simp; omega)
    rintro mm ee ss kk ⟨i, g3, v3, g5, v5, g7, v7, rfl, rfl, rfl, hI⟩
    generalize hQl2 : ya9 _ _ = Ql2
    have hsn := ypw (p := yaq bel d) (fun x => cE bel n (n - (k + 1)) (d.set x true)) (n := n) (i := i) (x := x.toNat + 1) (by omega) (by omega)
    have hpos : 0 ≤ nxt (yaq bel d) n i ∧ nxt (yaq bel d) n i < ((x.toNat + 1 : Nat) : Int) := by
     rcases nxt_spec (p := yaq bel d) (n := n) (n - i) i rfl with ⟨h1, h2⟩ | ⟨q, h1, h2, h3, h4, h5⟩
     ·have := h2 x.toNat hI (by omega)
      rw [hfx] at this; cases this
     ·refine ⟨by omega, ?_⟩
      rw [h1]
      rcases Nat.lt_or_ge x.toNat q with e | e
      ·have := h5 x.toNat hI e
       rw [hfx] at this; cases this
      ·omega
    obtain ⟨q, hq1, hq2, hq3, hq4, hq5⟩ := hsn.1 hpos
    clear hsn
    refine AW.seq fun K12 hK12 => ?_
    refine AW.seq fun K13 hK13 => ?_
    refine AW.regionK 0 (fun _ => none) [1, 6, 9, 10, 11, 43] [15, 32, 200] ?_
    simp only [go_sem, reduceIte, reduceCtorEq, zA, zM, zE, zL, zD, zS, zP, zB, zI, zR, yab, yaa]
    repeat with_reducible refine cj ?_ ?_
    all_goals try first | omega
    refine hK13 _ _ _ ?_; clear hK13
    refine AW.cond rfl (by simp only [go_sem, reduceIte, reduceCtorEq, zA, zM, zE, zL, zD, zS, zP, zB, zI, zR]) ?_ ?_
    ·intro hb
     try simp only [hB, decide_eq_true_eq, decide_eq_false_iff_not] at hb
     have hdq := ybw hq4
     have hxt : (nxt (yaq bel d) n i).toNat = q := by omega
     have hxr : 0 ≤ nxt (yaq bel d) n i ∧ nxt (yaq bel d) n i < (n : Int) := by omega
     have hxs : nxt (yaq bel d) n i + 1 = ((q + 1 : Nat) : Int) := by omega
     have hd2 : (d.set q true).length = n := by rw [List.length_set]; exact hdl
     have hk2 := hkey _ hd2
     have hw2 := hwy q (by omega) hq4
     have hn2 := hnx (q + 1) (by omega)
     have hss : (d.set q true).set q false = d := by rw [List.set_set, ← hdq]; exact yf4 d q false
     have hsx := yb2 (fun x => cE bel n (n - (k + 1)) (d.set x true)) hfx
     have hsm := ydz (yaq bel d) (fun x => cE bel n (n - (k + 1)) (d.set x true)) (q + 1) x.toNat
     refine AW.skip ?_
     refine hK12 _ _ _ ?_; clear hK12
     refine AW.seq fun K14 hK14 => ?_
     refine AW.block ?_
     refine AW.seq fun K15 hK15 => ?_
     refine AW.regionK 0 (fun _ => none) [1, 6, 9, 10, 11] [15, 32, 200] ?_
     simp only [go_sem, reduceIte, reduceCtorEq, zA, zM, zE, zL, zD, zS, zP, zB, zI, zR, yab, yaa, hxt, hdl, bools_upd]
     repeat with_reducible refine cj ?_ ?_
     all_goals try first | omega
     refine hK15 _ _ _ ?_; clear hK15
     refine AW.seq fun K16 hK16 => ?_
     refine AW.regionK 0 (fun ii => if ii = 2 then some (.reads true (.str (keyS (d.set q true)))) else none) [1, 6, 9, 10, 11, 12] [15, 32, 200] ?_
     simp only [go_sem, reduceIte, reduceCtorEq, zA, zM, zE, zL, zD, zS, zP, zB, zI, zR, yab, yaa, hw2]
     repeat with_reducible refine cj ?_ ?_
     all_goals try first | (first | exact hk2 | exact hmw) | omega | exact ent (by kernel_rfl)
     refine hK16 _ _ _ ?_; clear hK16
     refine AW.seq fun K17 hK17 => ?_
     refine AW.seq fun K18 hK18 => ?_
     refine AW.regionK 0 (fun _ => none) [1, 6, 9, 10, 11, 12, 60] [15, 32, 200] ?_
     simp only [go_sem, reduceIte, reduceCtorEq, zA, zM, zE, zL, zD, zS, zP, zB, zI, zR, yab, yaa]
     repeat with_reducible refine cj ?_ ?_
     all_goals try first | omega
     refine hK18 _ _ _ ?_; clear hK18
     refine AW.cond rfl (by simp only [go_sem, reduceIte, reduceCtorEq, zA, zM, zE, zL, zD, zS, zP, zB, zI, zR]) ?_ ?_
     ·intro hb
      try simp only [hB, decide_eq_true_eq, decide_eq_false_iff_not] at hb
      have hqx : q = x.toNat := by
       apply Classical.byContradiction
       intro hne
       have := hsm (by omega)
       omega
      have hqx2 : nxt (yaq bel d) n i = x := by omega
      have hsk : sumF (yaq bel d) (fun x => cE bel n (n - (k + 1)) (d.set x true)) i = sumF (yaq bel d) (fun x => cE bel n (n - (k + 1)) (d.set x true)) x.toNat := by
       rw [hqx] at hq5; rw [hsx] at hq5; omega
      rw [hsk, ← hrs, hqx, ← hds, hqx2]
      refine AW.seq fun K19 hK19 => ?_
      refine AW.regionK 0 (fun _ => none) [1, 6, 9, 10] [15, 32, 200] ?_
      simp only [go_sem, reduceIte, reduceCtorEq, zA, zM, zE, zL, zD, zS, zP, zB, zI, zR, yab, yaa, hlt, ydm]
      repeat with_reducible refine cj ?_ ?_
      all_goals try first | omega | (simp [scP, ybj]; done) | exact ybc _ | exact ybm _ | exact ybd _
      refine hK19 _ _ _ ?_; clear hK19
      refine AW.keep [1, 6, 9, 10] [15, 32, 200] ?_
      try simp only [go_sem, reduceIte, reduceCtorEq, zA, zM, zE, zL, zD, zS, zP, zB, zI, zR]
      refine AW.exit ?_
      rw [← hQl2]
      rw [← hQl1]
      change Exists _
      refine ⟨_, ?hm, k + 1, ?_, ?_, ?_, ?_, ?_, ?_, rfl, ?henv, ?hstore, ?hst⟩
      case henv =>
       repeat' (first | rfl | refine yac ?_ ?_ | refine yae ?_ ?_ ?_ ?_ | refine yah ?_ | refine yaf ?_ | refine yai ?_ | refine yaj ?_ | refine yan ?_ ?_ ?_ | refine yak ?_ ?_ ?_ | refine yal ?_ | refine yag ?_ ?_ | refine yad ?_ ?_)
       all_goals (first | (simp; done) | omega | (simp; omega))
      case hstore =>
       repeat' (first | rfl | refine yac ?_ ?_ | refine yae ?_ ?_ ?_ ?_ | refine yah ?_ | refine yaf ?_ | refine yai ?_ | refine yaj ?_ | refine yan ?_ ?_ ?_ | refine yak ?_ ?_ ?_ | refine yal ?_ | refine yag ?_ ?_ | refine yad ?_ ?_)
       all_goals (rw [htk])
      case hst =>
       omega
      case hm => omega
     ·intro hb
      try simp only [hB, decide_eq_true_eq, decide_eq_false_iff_not] at hb
      have hqx : q ≠ x.toNat := by
       intro e
       rw [e] at hq5 hb
       rw [hsx] at hq5
       omega
      have hsum : (K : Int) - ((ya8 bel n l k + sumF (yaq bel d) (fun x => cE bel n (n - (k + 1)) (d.set x true)) i : Nat) : Int) - (cE bel n (n - (k + 1)) (d.set q true) : Nat) = (K : Int) - ((ya8 bel n l k + sumF (yaq bel d) (fun x => cE bel n (n - (k + 1)) (d.set x true)) (q + 1) : Nat) : Int) := by rw [hq5]; omega
      refine AW.skip ?_
      refine hK17 _ _ _ ?_; clear hK17
      refine AW.seq fun K20 hK20 => ?_
      refine AW.regionK 0 (fun _ => none) [1, 6, 9, 10, 11] [15, 32, 200] ?_
      simp only [go_sem, reduceIte, reduceCtorEq, zA, zM, zE, zL, zD, zS, zP, zB, zI, zR, yab, yaa, hsum]
      repeat with_reducible refine cj ?_ ?_
      all_goals try first | omega
      refine hK20 _ _ _ ?_; clear hK20
      refine AW.regionK 0 (fun _ => none) [1, 6, 9, 10, 11] [15, 32, 200] ?_
      simp only [go_sem, reduceIte, reduceCtorEq, zA, zM, zE, zL, zD, zS, zP, zB, zI, zR, yab, yaa, hxt, hd2, bools_upd, hss]
      repeat with_reducible refine cj ?_ ?_
      all_goals try first | omega
      refine hK14 _ _ _ ?_; clear hK14
      refine AW.regionK 0 (fun ii => if ii = 3 then some (.reads true (.int .i64 (nxt (yaq bel d) n (q + 1)))) else none) [1, 6, 9, 10, 11] [15, 32, 200] ?_
      simp only [go_sem, reduceIte, reduceCtorEq, zA, zM, zE, zL, zD, zS, zP, zB, zI, zR, yab, yaa, hxs]
      repeat with_reducible refine cj ?_ ?_
      all_goals try first | (exact hn2) | omega | exact ent (by kernel_rfl)
      rw [← hQl2]
      change Exists _
      refine ⟨_, ?hm, q + 1, ?_, ?_, ?_, ?_, ?_, ?_, rfl, ?henv, ?hstore, ?hst⟩
      case henv =>
       repeat' (first | rfl | refine yac ?_ ?_ | refine yae ?_ ?_ ?_ ?_ | refine yah ?_ | refine yaf ?_ | refine yai ?_ | refine yaj ?_ | refine yan ?_ ?_ ?_ | refine yak ?_ ?_ ?_ | refine yal ?_ | refine yag ?_ ?_ | refine yad ?_ ?_)
       all_goals (first | (simp; done) | omega | (simp; omega))
      case hstore =>
       repeat' (first | rfl | refine yac ?_ ?_ | refine yae ?_ ?_ ?_ ?_ | refine yah ?_ | refine yaf ?_ | refine yai ?_ | refine yaj ?_ | refine yan ?_ ?_ ?_ | refine yak ?_ ?_ ?_ | refine yal ?_ | refine yag ?_ ?_ | refine yad ?_ ?_)
       all_goals (first | (simp; done) | omega | (simp; omega))
      case hst =>
       omega
      case hm => omega
    ·intro hb
     try simp only [hB, decide_eq_true_eq, decide_eq_false_iff_not] at hb
     exfalso; omega
   ·intro hb
    try simp only [hB, decide_eq_true_eq, decide_eq_false_iff_not] at hb
    have hkn : n = k := by omega
    subst hkn
    have hln2 : l.take n = l := List.take_of_length_le (by omega)
    rw [hln2]
    refine AW.keep [10] [15, 32, 200] ?_
    try simp only [go_sem, reduceIte, reduceCtorEq, zA, zM, zE, zL, zD, zS, zP, zB, zI, zR]
    refine AW.exit ?_
    rw [← hQl1]
    refine hK8 _ _ _ ?_; clear hK8
    refine AW.seq fun K21 hK21 => ?_
    refine AW.regionK 0 (fun _ => none) [4, 5] [200] ?_
    simp only [go_sem, reduceIte, reduceCtorEq, zA, zM, zE, zL, zD, zS, zP, zB, zI, zR, yab, yaa]
    repeat with_reducible refine cj ?_ ?_
    all_goals try first | omega
    refine hK21 _ _ _ ?_; clear hK21
    refine AW.ret ?_
    rw [← hQr]
    simp only [go_sem, reduceIte, reduceCtorEq, zA, zM, zE, zL, zD, zS, zP, zB, zI, zR, yab, yaa]
    exact Wk.of_eq (by rw [hln2])
end Go.Proofs.X

/- The reference's words about linear extensions. -/
namespace Go.AM
def rdyP (t : List (List Bool)) (d : List Bool) (x i : Nat) : Bool := d.getD i false || !atT t i x
theorem rdy_eq {n : Nat} {t : List (List Bool)} {d : List Bool} {x : Nat} (hx : x < n) : yaq (belL n t) d x = (!d.getD x false && (List.range n).all (rdyP t d x)) := by
  rw [Bool.eq_iff_iff, yek hx]
  simp only [Bool.and_eq_true, Bool.not_eq_true', List.all_eq_true, List.mem_range, rdyP, Bool.or_eq_true]
  constructor
  · rintro ⟨h1, h2⟩
    refine ⟨h1, fun i hi => ?_⟩
    cases ha : atT t i x with
    | false => exact .inr rfl
    | true => exact .inl (h2 i hi ha)
  · rintro ⟨h1, h2⟩
    refine ⟨h1, fun j hj ha => ?_⟩
    rcases h2 j hj with h | h
    · exact h
    · rw [ha] at h; cases h
def eaOk (n : Nat) (d : List Bool) (i : Int) : Bool := decide (0 ≤ i) && decide (i < n) && !d.getD i.toNat false
def yco (n : Nat) : List Bool → List Int → Bool
  | _, [] => true
  | d, i :: l => eaOk n d i && yco n (d.set i.toNat true) l
def ykl (n : Nat) (l : List Int) : Bool := decide (l.length = n) && yco n (List.replicate n false) l
theorem yf8 (n : Nat) : ∀ (l m : List Int) (d : List Bool), yco n d (l ++ m) = (yco n d l && yco n (exD d l) m)
  | [], m, d => by simp [yco, exD]
  | i :: l, m, d => by
    show (eaOk n d i && yco n (d.set i.toNat true) (l ++ m)) = ((eaOk n d i && yco n (d.set i.toNat true) l) && yco n (exD (d.set i.toNat true) l) m)
    rw [yf8 n l m, Bool.and_assoc]
structure IsEach (n : Nat) (l : List Int) : Prop where
  len : l.length = n
  rng : ∀ m, m < n → 0 ≤ l.getD m 0 ∧ l.getD m 0 < (n : Int)
  new : ∀ m, m < n → (dAt n l m).getD (l.getD m 0).toNat false = false
theorem ynn {n : Nat} {d : List Bool} {l : List Int} (h : yco n d l = true) {m : Nat} (hm : m < l.length) : eaOk n (exD d (l.take m)) (l.getD m 0) = true := by
  have h1 := yf8 n (l.take m) (l.drop m) d
  rw [List.take_append_drop, h] at h1
  have h2 : yco n (exD d (l.take m)) (l.drop m) = true := by
    cases e : yco n (exD d (l.take m)) (l.drop m) with
    | true => rfl
    | false => rw [e] at h1; simp at h1
  rw [List.drop_eq_getElem_cons hm] at h2
  unfold yco at h2
  simp only [Bool.and_eq_true] at h2
  have : l.getD m 0 = l[m] := by simp [List.getD_eq_getElem?_getD, List.getElem?_eq_getElem hm]
  rw [this]; exact h2.1
theorem eachB_iff {n : Nat} {l : List Int} : ykl n l = true ↔ IsEach n l := by
  constructor
  · intro h
    unfold ykl at h
    simp only [Bool.and_eq_true, decide_eq_true_eq] at h
    have key := fun m (hm : m < n) => ynn h.2 (m := m) (by omega)
    unfold eaOk at key
    simp only [Bool.and_eq_true, decide_eq_true_eq, Bool.not_eq_true'] at key
    exact ⟨h.1, fun m hm => (key m hm).1, fun m hm => (key m hm).2⟩
  · intro h
    unfold ykl
    simp only [Bool.and_eq_true, decide_eq_true_eq]
    refine ⟨h.len, ?_⟩
    have : ∀ m, m ≤ n → yco n (List.replicate n false) (l.take m) = true := by
      intro m
      induction m with
      | zero => intro _; simp [yco]
      | succ m ih =>
        intro hm
        rw [List.take_add_one, List.getElem?_eq_getElem (by rw [h.len]; omega), Option.toList_some, yf8, ih (by omega), Bool.true_and]
        have h1 := h.rng m (by omega)
        have h2 := h.new m (by omega)
        have e : l[m]'(by rw [h.len]; omega) = l.getD m 0 := by simp [List.getD_eq_getElem?_getD, List.getElem?_eq_getElem (show m < l.length by rw [h.len]; omega)]
        rw [e]
        unfold dAt at h2
        simp only [yco, eaOk, h1.1, h1.2, h2, decide_true, Bool.and_self, Bool.not_false]
    have := this n (Nat.le_refl _)
    rwa [List.take_of_length_le (by rw [h.len]; exact Nat.le_refl _)] at this
/-- What is marked was in the list. -/
theorem yj9 {n : Nat} {l : List Int} (hr : ∀ m, m < n → 0 ≤ l.getD m 0 ∧ l.getD m 0 < (n : Int)) (hl : l.length = n) {i : Nat} (hi : i < n) : ∀ m, m ≤ n → ((dAt n l m).getD i false = true ↔ ∃ k, k < m ∧ l.getD k 0 = (i : Nat))
  | 0, _ => by simp [dAt, exD, List.getD_eq_getElem?_getD, List.getElem?_replicate]; split <;> simp
  | m + 1, hm => by
    have ih := yj9 hr hl hi m (by omega)
    have h1 := hr m (by omega)
    rw [ycf (by omega), yfm]
    by_cases e : (l.getD m 0).toNat = i
    · rw [if_pos ⟨e, by rw [ybg]; omega⟩]
      exact ⟨fun _ => ⟨m, by omega, by omega⟩, fun _ => rfl⟩
    · rw [if_neg (fun h => e h.1), ih]
      constructor
      · rintro ⟨k, h2, h3⟩; exact ⟨k, by omega, h3⟩
      · rintro ⟨k, h2, h3⟩
        rcases Nat.lt_succ_iff_lt_or_eq.1 h2 with h4 | h4
        · exact ⟨k, h4, h3⟩
        · subst h4; omega
theorem IsEach.cnt {n : Nat} {l : List Int} (h : IsEach n l) : ∀ m, m ≤ n → cntT (dAt n l m) = m
  | 0, _ => by simp [dAt, exD, yhq]
  | m + 1, hm => by
    have h1 := h.rng m (by omega)
    rw [ycf (by rw [h.len]; omega), ydp (by rw [ybg]; omega) (h.new m (by omega)), h.cnt m (by omega)]
theorem IsEach.has {n : Nat} {l : List Int} (h : IsEach n l) {i : Nat} (hi : i < n) : ∃ k, k < n ∧ l.getD k 0 = (i : Nat) := by
  have := yl3 (d := dAt n l n) (by rw [h.cnt n (Nat.le_refl _), ybg])
  rw [ybg] at this
  refine (yj9 h.rng h.len hi n (Nat.le_refl _)).1 ?_
  rw [this]; simp [List.getD_eq_getElem?_getD, hi]
theorem IsEach.inj {n : Nat} {l : List Int} (h : IsEach n l) {a b : Nat} (ha : a < b) (hb : b < n) : l.getD a 0 ≠ l.getD b 0 := by
  intro e
  have h1 := h.rng b hb
  have h2 := h.new b hb
  have h3 := (yj9 h.rng h.len (i := (l.getD b 0).toNat) (by omega) b (by omega)).2 ⟨a, ha, by omega⟩
  rw [h2] at h3; cases h3
theorem IsExt.each {n : Nat} {bel : List (List Int)} {l : List Int} (h : IsExt n bel l) : IsEach n l := ⟨h.len, h.rng, fun m hm => ybw (h.free m hm)⟩
/-- No later element is below an earlier one. -/
def yhw (t : List (List Bool)) (l : List Int) (j i : Nat) : Bool := !atT t (l.getD j 0).toNat (l.getD i 0).toNat
theorem ext_iff {n : Nat} {t : List (List Bool)} (hp : IsPo n t) {l : List Int} : extB n (belL n t) l = true ↔ ykl n l = true ∧ ∀ j, j < n → ∀ i, i < j → yhw t l j i = true := by
  rw [extB_iff, eachB_iff]
  constructor
  · intro h
    refine ⟨h.each, fun j hj i hi => ?_⟩
    have h1 := h.rng i (by omega)
    have h2 := h.rng j hj
    unfold yhw
    cases ha : atT t (l.getD j 0).toNat (l.getD i 0).toNat with
    | false => rfl
    | true =>
      have h3 := ((yek (by omega)).1 (h.free i (by omega))).2 _ (by omega) ha
      obtain ⟨k, h4, h5⟩ := (yj9 h.rng h.len (by omega) i (by omega)).1 h3
      exact absurd (show l.getD k 0 = l.getD j 0 by omega) (h.each.inj (a := k) (b := j) (by omega) hj)
  · rintro ⟨h, hno⟩
    refine ⟨h.len, h.rng, fun m hm => ?_⟩
    have h1 := h.rng m hm
    refine (yek (by omega)).2 ⟨h.new m hm, fun j hj ha => ?_⟩
    obtain ⟨k, h2, h3⟩ := h.has hj
    refine (yj9 h.rng h.len hj m (by omega)).2 ⟨k, ?_, h3⟩
    apply Classical.byContradiction
    intro hk
    rcases Nat.eq_or_lt_of_le (Nat.le_of_not_lt hk) with e | e
    · subst e
      rw [h3, Int.toNat_natCast] at ha
      rw [hp.irr j hj] at ha; cases ha
    · have h4 := hno k h2 m e
      unfold yhw at h4
      rw [h3, Int.toNat_natCast, ha] at h4; cases h4
end Go.AM

namespace Go.Proofs.X
open Go.AM Go
set_option maxRecDepth 100000
set_option maxHeartbeats 4000000
theorem ypz (n : Nat) (t : List (List Bool)) (hs : Sq n t) (hn : n ≤ 512) (i j : Nat) (hi : i < n) (hj : j < n) : Reads Tryd.prog 52 false [relB t, .int .i64 i, .int .i64 j] (.bool (atT t i j)) := by
 have hrl := hs.rowLen hi
 have hgt := yhh (t := t) (i := i) (by rw [hs.len]; exact hi)
 have htl := ycu t
 have hlen := hs.len
 have hat : atT t i j = (rowT t i).getD j false := rfl
 generalize hb : rowT t i = b at *
 have hwl := ybf b
 have hd := yhd (i := (j : Int)) (n := b.length) (by omega) (by omega)
 have hwn := yba (n := (b.length : Int)) (by omega)
 have hgw := ycn (l := setW b b.length) (i := ((j : Int).tdiv 64).toNat) (by omega)
 have hbt : decide ((bShr .u64 ((setW b b.length).getD (((j : Int)).tdiv 64).toNat 0) (((j : Int)).tmod 64)).tmod 2 = 1) = hasW (setW b b.length) (j : Int) := rfl
 rw [yi5 (by omega), ← hat] at hbt
 unfold relB
 refine Reads.body (rs := [.tmp 6]) Tryd.func52 rfl Tryd.ntmps52 rfl (by simp) ?_
 generalize hQr : retQ _ _ _ = Qr
 refine AW.seq fun K1 hK1 => ?_
 refine AW.regionK 0 (fun _ => none) [1, 2, 3] [3] ?_
 simp only [go_sem, reduceIte, reduceCtorEq, zA, zM, zE, zL, zD, zS, zP, zB, zI, zR]
 repeat with_reducible refine cj ?_ ?_
 all_goals try first | omega
 refine hK1 _ _ _ ?_; clear hK1
 refine AW.seq fun K2 hK2 => ?_
 refine AW.regionK 0 (fun _ => none) [6] [] ?_
 simp only [go_sem, reduceIte, reduceCtorEq, zA, zM, zE, zL, zD, zS, zP, zB, zI, zR, hgt, rowB, hgw]
 repeat with_reducible refine cj ?_ ?_
 all_goals try first | omega
 refine hK2 _ _ _ ?_; clear hK2
 refine AW.ret ?_
 rw [← hQr]
 simp only [go_sem, reduceIte, reduceCtorEq, zA, zM, zE, zL, zD, zS, zP, zB, zI, zR]
 exact Wk.of_eq (by rw [hbt])
theorem yi9 (n : Nat) (t : List (List Bool)) (hs : Sq n t) (hn : n ≤ 512) (d : List Bool) (hd : d.length = n) (x : Nat) (hx : x < n) : Reads Tryd.prog 53 false [relB t, .rsl 1 (yar d), .int .i64 x] (.bool (yaq (belL n t) d x)) := by
 have hl := fun i hi => ypz n t hs hn i x hi hx
 have hre := rdy_eq (t := t) (d := d) hx
 have hbl := yab d
 have hgx := ybh (l := d) (i := x) (by omega)
 unfold relB at *
 refine Reads.body (rs := [.tmp 6]) Tryd.func53 rfl Tryd.ntmps53 rfl (by simp) ?_
 generalize hQr : retQ _ _ _ = Qr
 refine AW.seq fun K1 hK1 => ?_
 refine AW.regionK 0 (fun _ => none) [1, 2, 3] [3] ?_
 simp only [go_sem, reduceIte, reduceCtorEq, zA, zM, zE, zL, zD, zS, zP, zB, zI, zR, hbl, hgx, Int.toNat_natCast]
 repeat with_reducible refine cj ?_ ?_
 all_goals try first | omega
 refine hK1 _ _ _ ?_; clear hK1
 refine AW.seq fun K2 hK2 => ?_
 refine AW.seq fun K3 hK3 => ?_
 refine AW.regionK 0 (fun _ => none) [1, 2, 3, 11] [3] ?_
 simp only [go_sem, reduceIte, reduceCtorEq, zA, zM, zE, zL, zD, zS, zP, zB, zI, zR, hbl, hgx, Int.toNat_natCast]
 repeat with_reducible refine cj ?_ ?_
 all_goals try first | omega
 refine hK3 _ _ _ ?_; clear hK3
 refine AW.cond rfl (by simp only [go_sem, reduceIte, reduceCtorEq, zA, zM, zE, zL, zD, zS, zP, zB, zI, zR]) ?_ ?_
 ·intro hb
  try simp only [hB, decide_eq_true_eq, decide_eq_false_iff_not] at hb
  refine AW.seq fun K4 hK4 => ?_
  refine AW.regionK 0 (fun _ => none) [6] [] ?_
  simp only [go_sem, reduceIte, reduceCtorEq, zA, zM, zE, zL, zD, zS, zP, zB, zI, zR, hbl, hgx, Int.toNat_natCast]
  repeat with_reducible refine cj ?_ ?_
  all_goals try first | omega
  refine hK4 _ _ _ ?_; clear hK4
  refine AW.ret ?_
  rw [← hQr]
  simp only [go_sem, reduceIte, reduceCtorEq, zA, zM, zE, zL, zD, zS, zP, zB, zI, zR, hbl, hgx, Int.toNat_natCast]
  exact Wk.of_eq (by rw [hre, hb]; rfl)
 ·intro hb
  try simp only [hB, decide_eq_true_eq, decide_eq_false_iff_not] at hb
  have hx0 := hb
  refine AW.skip ?_
  refine hK2 _ _ _ ?_; clear hK2
  refine AW.seq fun K5 hK5 => ?_
  refine AW.seq fun K6 hK6 => ?_
  refine AW.regionK 0 (fun _ => none) [1, 2, 3, 7] [3] ?_
  simp only [go_sem, reduceIte, reduceCtorEq, zA, zM, zE, zL, zD, zS, zP, zB, zI, zR, hbl, hgx, Int.toNat_natCast]
  repeat with_reducible refine cj ?_ ?_
  all_goals try first | omega
  refine hK6 _ _ _ ?_; clear hK6
  refine AW.block ?_
  refine AW.loopE (fun mm ee ss kk => ∃ (i g v : Nat), n - i = mm ∧ ee = [(1, .rsl 1 (yar d)), (2, .int .i64 x), (3, .ptr ⟨3, g, none⟩ 0 0), (7, .int .i64 (i : Nat))] ∧ ss = [(3, some ⟨g, v, 1, [[.rsl 2 (tabR t)]]⟩)] ∧ (i ≤ n ∧ (List.range i).all (rdyP t d x) = true)) ?_ ?_
  ·refine ⟨_, 0, ?_, ?_, rfl, ?henv, ?hstore, ?hst⟩
   case henv =>
    repeat' (first | rfl | refine yac ?_ ?_ | refine yae ?_ ?_ ?_ ?_ | refine yah ?_ | refine yaf ?_ | refine yai ?_ | refine yaj ?_ | refine yan ?_ ?_ ?_ | refine yak ?_ ?_ ?_ | refine yal ?_ | refine yag ?_ ?_ | refine yad ?_ ?_)
    all_goals (first | (simp; done) | omega | (simp; omega))
   case hstore =>
    repeat' (first | rfl | refine yac ?_ ?_ | refine yae ?_ ?_ ?_ ?_ | refine yah ?_ | refine yaf ?_ | refine yai ?_ | refine yaj ?_ | refine yan ?_ ?_ ?_ | refine yak ?_ ?_ ?_ | refine yal ?_ | refine yag ?_ ?_ | refine yad ?_ ?_)
    all_goals (first | (simp; done) | omega | (simp; omega))
   case hst =>
    exact ⟨Nat.zero_le _, rfl⟩
  rintro mm ee ss kk ⟨i, g, v, rfl, rfl, rfl, hI⟩
  generalize hQl1 : ya9 _ _ = Ql1
  obtain ⟨hi, hall⟩ := hI
  refine AW.seq fun K7 hK7 => ?_
  refine AW.seq fun K8 hK8 => ?_
  refine AW.regionK 0 (fun _ => none) [1, 2, 3, 7, 15] [3] ?_
  simp only [go_sem, reduceIte, reduceCtorEq, zA, zM, zE, zL, zD, zS, zP, zB, zI, zR, hbl, hgx, Int.toNat_natCast]
  repeat with_reducible refine cj ?_ ?_
  all_goals try first | omega
  refine hK8 _ _ _ ?_; clear hK8
  refine AW.cond rfl (by simp only [go_sem, reduceIte, reduceCtorEq, zA, zM, zE, zL, zD, zS, zP, zB, zI, zR]) ?_ ?_
  ·intro hb
   try simp only [hB, decide_eq_true_eq, decide_eq_false_iff_not] at hb
   have hin : i < n := by omega
   have hgi := ybh (l := d) (i := i) (by omega)
   have hli := hl i hin
   have hrs := yce (p := rdyP t d x) i
   rw [hall, Bool.true_and] at hrs
   have hrf := yb9 (p := rdyP t d x) (j := i) (m := n) hin
   refine AW.skip ?_
   refine hK7 _ _ _ ?_; clear hK7
   refine AW.seq fun K9 hK9 => ?_
   refine AW.block ?_
   refine AW.seq fun K10 hK10 => ?_
   refine AW.regionK 0 (fun ii => if ii = 9 then some (.reads false (.bool (atT t i x))) else none) [1, 2, 3, 7, 28] [3] ?_
   simp only [go_sem, reduceIte, reduceCtorEq, zA, zM, zE, zL, zD, zS, zP, zB, zI, zR, hbl, hgx, Int.toNat_natCast, hgi]
   repeat with_reducible refine cj ?_ ?_
   all_goals try first | ((intro hh; exact ⟨hh, hli⟩)) | (intros; (repeat' apply And.intro) <;> first | assumption | ((intro hh; exact ⟨hh, hli⟩))) | omega | exact ent (by kernel_rfl) | (intro hgd; exact absurd hgd (by decide)) | rfl | (simp only [go_sem, reduceIte, reduceCtorEq, zA, zM, zE, zL, zD, zS, zP, zB, zI, zR, hbl, hgx, Int.toNat_natCast, hgi]; done) | (intro _hgd; simp_all [go_sem]; done)
   refine hK10 _ _ _ ?_; clear hK10
   refine AW.cond rfl (by simp only [go_sem, reduceIte, reduceCtorEq, zA, zM, zE, zL, zD, zS, zP, zB, zI, zR]) ?_ ?_
   ·intro hb
    try simp only [hB, decide_eq_true_eq, decide_eq_false_iff_not] at hb
    have hpf : rdyP t d x i = false := by unfold rdyP; rw [hb.1, hb.2]; rfl
    refine AW.seq fun K11 hK11 => ?_
    refine AW.regionK 0 (fun _ => none) [6] [] ?_
    simp only [go_sem, reduceIte, reduceCtorEq, zA, zM, zE, zL, zD, zS, zP, zB, zI, zR, hbl, hgx, Int.toNat_natCast]
    repeat with_reducible refine cj ?_ ?_
    all_goals try first | omega
    refine hK11 _ _ _ ?_; clear hK11
    refine AW.ret ?_
    rw [← hQl1]
    rw [← hQr]
    simp only [go_sem, reduceIte, reduceCtorEq, zA, zM, zE, zL, zD, zS, zP, zB, zI, zR, hbl, hgx, Int.toNat_natCast]
    exact Wk.of_eq (by rw [hre, hrf hpf]; simp)
   ·intro hb
    try simp only [hB, decide_eq_true_eq, decide_eq_false_iff_not] at hb
    refine AW.skip ?_
    refine hK9 _ _ _ ?_; clear hK9
    refine AW.regionK 0 (fun _ => none) [1, 2, 3, 7] [3] ?_
    simp only [go_sem, reduceIte, reduceCtorEq, zA, zM, zE, zL, zD, zS, zP, zB, zI, zR, hbl, hgx, Int.toNat_natCast]
    repeat with_reducible refine cj ?_ ?_
    all_goals try first | omega
    rw [← hQl1]
    change Exists _
    refine ⟨_, ?hm, i + 1, ?_, ?_, rfl, ?henv, ?hstore, ?hst⟩
    case henv =>
     repeat' (first | rfl | refine yac ?_ ?_ | refine yae ?_ ?_ ?_ ?_ | refine yah ?_ | refine yaf ?_ | refine yai ?_ | refine yaj ?_ | refine yan ?_ ?_ ?_ | refine yak ?_ ?_ ?_ | refine yal ?_ | refine yag ?_ ?_ | refine yad ?_ ?_)
     all_goals (first | (simp; done) | omega | (simp; omega))
    case hstore =>
     repeat' (first | rfl | refine yac ?_ ?_ | refine yae ?_ ?_ ?_ ?_ | refine yah ?_ | refine yaf ?_ | refine yai ?_ | refine yaj ?_ | refine yan ?_ ?_ ?_ | refine yak ?_ ?_ ?_ | refine yal ?_ | refine yag ?_ ?_ | refine yad ?_ ?_)
     all_goals (first | (simp; done) | omega | (simp; omega))
    case hst =>
     exact ⟨by omega, by rw [hrs]; unfold rdyP; cases e1 : d.getD i false with | true => rfl | false => rw [e1] at hb; rcases hb with h | h; cases h; rw [h]; rfl⟩
    case hm => omega
  ·intro hb
   try simp only [hB, decide_eq_true_eq, decide_eq_false_iff_not] at hb
   have hin : i = n := by omega
   rw [hin] at hall
   refine AW.keep [] [] ?_
   try simp only [go_sem, reduceIte, reduceCtorEq, zA, zM, zE, zL, zD, zS, zP, zB, zI, zR]
   refine AW.exit ?_
   rw [← hQl1]
   refine hK5 _ _ _ ?_; clear hK5
   refine AW.seq fun K12 hK12 => ?_
   refine AW.regionK 0 (fun _ => none) [6] [] ?_
   simp only [go_sem, reduceIte, reduceCtorEq, zA, zM, zE, zL, zD, zS, zP, zB, zI, zR, hbl, hgx, Int.toNat_natCast]
   repeat with_reducible refine cj ?_ ?_
   all_goals try first | omega
   refine hK12 _ _ _ ?_; clear hK12
   refine AW.ret ?_
   rw [← hQr]
   simp only [go_sem, reduceIte, reduceCtorEq, zA, zM, zE, zL, zD, zS, zP, zB, zI, zR, hbl, hgx, Int.toNat_natCast]
   exact Wk.of_eq (by rw [hre, hall, hx0]; rfl)
theorem each_r (n : Nat) (hn : n ≤ 512) (l : List Int) (hl : l.length ≤ 9223372036854775807) : Reads Tryd.prog 34 false [.int .i64 n, .rsl 1 (ints l)] (.bool (ykl n l)) := by
 have hz : List.replicate n [AV.bool false] = yar (dAt n l 0) := by simp [dAt, exD, yar]
 have hE : ykl n l = (decide (l.length = n) && yco n (List.replicate n false) l) := rfl
 refine Reads.body (rs := [.tmp 4]) Tryd.func34 rfl Tryd.ntmps34 rfl (by simp) ?_
 generalize hQr : retQ _ _ _ = Qr
 refine AW.seq fun K1 hK1 => ?_
 refine AW.regionK 0 (fun _ => none) [0, 1] [] ?_
 simp only [go_sem, reduceIte, reduceCtorEq, zA, zM, zE, zL, zD, zS, zP, zB, zI, zR, yaa]
 repeat with_reducible refine cj ?_ ?_
 all_goals try first | omega
 refine hK1 _ _ _ ?_; clear hK1
 refine AW.seq fun K2 hK2 => ?_
 refine AW.seq fun K3 hK3 => ?_
 refine AW.regionK 0 (fun _ => none) [0, 1, 10] [] ?_
 simp only [go_sem, reduceIte, reduceCtorEq, zA, zM, zE, zL, zD, zS, zP, zB, zI, zR, yaa]
 repeat with_reducible refine cj ?_ ?_
 all_goals try first | omega
 refine hK3 _ _ _ ?_; clear hK3
 refine AW.cond rfl (by simp only [go_sem, reduceIte, reduceCtorEq, zA, zM, zE, zL, zD, zS, zP, zB, zI, zR]) ?_ ?_
 ·intro hb
  try simp only [hB, decide_eq_true_eq, decide_eq_false_iff_not] at hb
  refine AW.seq fun K4 hK4 => ?_
  refine AW.regionK 0 (fun _ => none) [4] [] ?_
  simp only [go_sem, reduceIte, reduceCtorEq, zA, zM, zE, zL, zD, zS, zP, zB, zI, zR, yaa]
  repeat with_reducible refine cj ?_ ?_
  all_goals try first | omega
  refine hK4 _ _ _ ?_; clear hK4
  refine AW.ret ?_
  rw [← hQr]
  simp only [go_sem, reduceIte, reduceCtorEq, zA, zM, zE, zL, zD, zS, zP, zB, zI, zR, yaa]
  exact Wk.of_eq (by rw [hE]; simp; omega)
 ·intro hb
  try simp only [hB, decide_eq_true_eq, decide_eq_false_iff_not] at hb
  have hln : l.length = n := by omega
  refine AW.skip ?_
  refine hK2 _ _ _ ?_; clear hK2
  refine AW.seq fun K5 hK5 => ?_
  refine AW.regionK 0 (fun _ => none) [0, 1, 5] [12] ?_
  simp only [go_sem, reduceIte, reduceCtorEq, zA, zM, zE, zL, zD, zS, zP, zB, zI, zR, yaa]
  repeat with_reducible refine cj ?_ ?_
  all_goals try first | omega
  refine hK5 _ _ _ ?_; clear hK5
  refine AW.seq fun K6 hK6 => ?_
  refine AW.seq fun K7 hK7 => ?_
  refine AW.regionK 0 (fun _ => none) [0, 1, 5, 6] [12] ?_
  simp only [go_sem, reduceIte, reduceCtorEq, zA, zM, zE, zL, zD, zS, zP, zB, zI, zR, yaa]
  repeat with_reducible refine cj ?_ ?_
  all_goals try first | omega
  refine hK7 _ _ _ ?_; clear hK7
  refine AW.block ?_
  refine AW.loopE (fun mm ee ss kk => ∃ (k g v : Nat), n - k = mm ∧ ee = [(0, .int .i64 n), (1, .rsl 1 (ints l)), (5, .sl ⟨12, g, none⟩ 0 n none), (6, .int .i64 (k : Nat))] ∧ ss = [(12, some ⟨g, v, 1, yar (dAt n l k)⟩)] ∧ (k ≤ n ∧ yco n (List.replicate n false) (l.take k) = true)) ?_ ?_
  ·refine ⟨_, 0, ?_, ?_, rfl, ?henv, ?hstore, ?hst⟩
   case henv =>
    repeat' (first | rfl | refine yac ?_ ?_ | refine yae ?_ ?_ ?_ ?_ | refine yah ?_ | refine yaf ?_ | refine yai ?_ | refine yaj ?_ | refine yan ?_ ?_ ?_ | refine yak ?_ ?_ ?_ | refine yal ?_ | refine yag ?_ ?_ | refine yad ?_ ?_)
    all_goals (first | (simp; done) | omega | (simp; omega))
   case hstore =>
    repeat' (first | rfl | refine yac ?_ ?_ | refine yae ?_ ?_ ?_ ?_ | refine yah ?_ | refine yaf ?_ | refine yai ?_ | refine yaj ?_ | refine yan ?_ ?_ ?_ | refine yak ?_ ?_ ?_ | refine yal ?_ | refine yag ?_ ?_ | refine yad ?_ ?_)
    all_goals (rw [hz])
   case hst =>
    exact ⟨Nat.zero_le _, rfl⟩
  rintro mm ee ss kk ⟨k, g, v, rfl, rfl, rfl, hI⟩
  generalize hQl1 : ya9 _ _ = Ql1
  obtain ⟨hk, hall⟩ := hI
  have hdl := ybg n l k
  have hbl := yab (dAt n l k)
  rw [hdl] at hbl
  refine AW.seq fun K8 hK8 => ?_
  refine AW.seq fun K9 hK9 => ?_
  refine AW.regionK 0 (fun _ => none) [0, 1, 5, 6, 15] [12] ?_
  simp only [go_sem, reduceIte, reduceCtorEq, zA, zM, zE, zL, zD, zS, zP, zB, zI, zR, yaa]
  repeat with_reducible refine cj ?_ ?_
  all_goals try first | omega
  refine hK9 _ _ _ ?_; clear hK9
  refine AW.cond rfl (by simp only [go_sem, reduceIte, reduceCtorEq, zA, zM, zE, zL, zD, zS, zP, zB, zI, zR]) ?_ ?_
  ·intro hb
   try simp only [hB, decide_eq_true_eq, decide_eq_false_iff_not] at hb
   have hk2 : k < n := by omega
   have hgx := ybv (l := l) (i := k) (by omega)
   have hds := ycf (n := n) (l := l) (m := k) (by omega)
   have hgd := fun h => ybh (l := dAt n l k) (i := (l.getD k 0).toNat) h
   have htk : l.take (k + 1) = l.take k ++ [l.getD k 0] := by rw [List.take_add_one, List.getElem?_eq_getElem (by omega)]; simp [List.getD_eq_getElem?_getD, List.getElem?_eq_getElem (show k < l.length by omega)]
   have hap := yf8 n (l.take k) [l.getD k 0] (List.replicate n false)
   rw [← htk, hall, Bool.true_and] at hap
   have hdd : exD (List.replicate n false) (l.take k) = dAt n l k := rfl
   have hat := fun h => ynn (n := n) (d := List.replicate n false) (l := l) h (m := k) (by omega)
   rw [hdd] at hap hat
   generalize hX : l.getD k 0 = x at *
   generalize hD : dAt n l k = d at *
   have hx3 : (0 ≤ x ∧ x < (n : Int)) ∨ x < 0 ∨ (n : Int) ≤ x := by omega
   refine AW.skip ?_
   refine hK8 _ _ _ ?_; clear hK8
   refine AW.seq fun K10 hK10 => ?_
   refine AW.block ?_
   refine AW.seq fun K11 hK11 => ?_
   refine AW.seq fun K12 hK12 => ?_
   have hD7 : ∀  (kk : Nat), K12 [(0, .int .i64 n), (1, .rsl 1 (ints l)), (5, .sl ⟨12, g, none⟩ 0 n none), (6, .int .i64 (k : Nat)), (39, .bool (!eaOk n d x))] [(12, some ⟨g, v, 1, yar d⟩)] kk := by
    intro  kk
    refine hK12 _ _ _ ?_; clear hK12
    refine AW.cond rfl (by simp only [go_sem, reduceIte, reduceCtorEq, zA, zM, zE, zL, zD, zS, zP, zB, zI, zR]) ?_ ?_
    ·intro hb
     try simp only [hB, decide_eq_true_eq, decide_eq_false_iff_not] at hb
     have hf : eaOk n d x = false := by revert hb; simp
     have hE2 : ykl n l = false := by
      rw [hE]
      cases e : yco n (List.replicate n false) l with
      | false => simp
      | true => rw [hat e] at hf; cases hf
     refine AW.seq fun K14 hK14 => ?_
     refine AW.regionK 0 (fun _ => none) [4] [] ?_
     simp only [go_sem, reduceIte, reduceCtorEq, zA, zM, zE, zL, zD, zS, zP, zB, zI, zR, yaa]
     repeat with_reducible refine cj ?_ ?_
     all_goals try first | omega
     refine hK14 _ _ _ ?_; clear hK14
     refine AW.ret ?_
     rw [← hQl1]
     rw [← hQr]
     simp only [go_sem, reduceIte, reduceCtorEq, zA, zM, zE, zL, zD, zS, zP, zB, zI, zR, yaa]
     exact Wk.of_eq (by rw [hE2])
    ·intro hb
     try simp only [hB, decide_eq_true_eq, decide_eq_false_iff_not] at hb
     have hf : eaOk n d x = true := by revert hb; simp
     have hxr : 0 ≤ x ∧ x < (n : Int) := by
      unfold eaOk at hf
      simp only [Bool.and_eq_true, decide_eq_true_eq] at hf
      exact hf.1
     refine AW.skip ?_
     refine hK11 _ _ _ ?_; clear hK11
     refine AW.regionK 0 (fun _ => none) [0, 1, 5, 6] [12] ?_
     simp only [go_sem, reduceIte, reduceCtorEq, zA, zM, zE, zL, zD, zS, zP, zB, zI, zR, yaa, hgx, hbl, bools_upd, ← hds]
     repeat with_reducible refine cj ?_ ?_
     all_goals try first | omega
     refine hK10 _ _ _ ?_; clear hK10
     refine AW.regionK 0 (fun _ => none) [0, 1, 5, 6] [12] ?_
     simp only [go_sem, reduceIte, reduceCtorEq, zA, zM, zE, zL, zD, zS, zP, zB, zI, zR, yaa]
     repeat with_reducible refine cj ?_ ?_
     all_goals try first | omega
     rw [← hQl1]
     change Exists _
     refine ⟨_, ?hm, k + 1, ?_, ?_, rfl, ?henv, ?hstore, ?hst⟩
     case henv =>
      repeat' (first | rfl | refine yac ?_ ?_ | refine yae ?_ ?_ ?_ ?_ | refine yah ?_ | refine yaf ?_ | refine yai ?_ | refine yaj ?_ | refine yan ?_ ?_ ?_ | refine yak ?_ ?_ ?_ | refine yal ?_ | refine yag ?_ ?_ | refine yad ?_ ?_)
      all_goals (first | (simp; done) | omega | (simp; omega))
     case hstore =>
      repeat' (first | rfl | refine yac ?_ ?_ | refine yae ?_ ?_ ?_ ?_ | refine yah ?_ | refine yaf ?_ | refine yai ?_ | refine yaj ?_ | refine yan ?_ ?_ ?_ | refine yak ?_ ?_ ?_ | refine yal ?_ | refine yag ?_ ?_ | refine yad ?_ ?_)
      all_goals (first | (simp; done) | omega | (simp; omega))
     case hst =>
      exact ⟨by omega, by rw [hap]; simp [yco, hf]⟩
     case hm => omega
   rcases hx3 with hxr | hxr | hxr
   ·-- region 7
    have hgx2 := hgd (by omega)
    have hea : (decide (x < 0) || decide ((n : Int) ≤ x) || d.getD x.toNat false) = !eaOk n d x := by
     unfold eaOk
     simp only [show ¬ x < 0 by omega, show ¬ (n : Int) ≤ x by omega, hxr.1, hxr.2, decide_true, decide_false, Bool.or_false, Bool.false_or, Bool.and_true, Bool.true_and, Bool.not_not]
    rw [← hea] at hD7
    refine AW.regionK 0 (fun _ => none) [0, 1, 5, 6, 39] [12] ?_
    simp only [go_sem, reduceIte, reduceCtorEq, zA, zM, zE, zL, zD, zS, zP, zB, zI, zR, yaa, hgx, hbl, hgx2]
    repeat with_reducible refine cj ?_ ?_
    all_goals try first | (first | (simp only [Bool.or_eq_true, decide_eq_true_eq]; omega) | (intro hh; refine ⟨hh, hh, ?_, ?_⟩ <;> (simp only [Bool.or_eq_false_iff, decide_eq_false_iff_not] at hh; omega))) | (intros; (repeat' apply And.intro) <;> first | assumption | (first | (simp only [Bool.or_eq_true, decide_eq_true_eq]; omega) | (intro hh; refine ⟨hh, hh, ?_, ?_⟩ <;> (simp only [Bool.or_eq_false_iff, decide_eq_false_iff_not] at hh; omega)))) | omega | (intro hgd; exact absurd hgd (by decide)) | rfl | (simp only [go_sem, reduceIte, reduceCtorEq, zA, zM, zE, zL, zD, zS, zP, zB, zI, zR, yaa, hgx, hbl, hgx2]; done) | (intro _hgd; simp_all [go_sem]; done)
    exact hD7 _
   ·-- region 7
    have hgx2 := hgd (by omega)
    have hea : (decide (x < 0) || decide ((n : Int) ≤ x) || d.getD x.toNat false) = !eaOk n d x := by
     unfold eaOk
     simp only [hxr, show ¬ 0 ≤ x by omega, decide_true, decide_false, Bool.true_or, Bool.false_and, Bool.not_false]
    rw [← hea] at hD7
    refine AW.regionK 0 (fun _ => none) [0, 1, 5, 6, 39] [12] ?_
    simp only [go_sem, reduceIte, reduceCtorEq, zA, zM, zE, zL, zD, zS, zP, zB, zI, zR, yaa, hgx, hbl, hgx2]
    repeat with_reducible refine cj ?_ ?_
    all_goals try first | (first | (simp only [Bool.or_eq_true, decide_eq_true_eq]; omega) | (intro hh; refine ⟨hh, hh, ?_, ?_⟩ <;> (simp only [Bool.or_eq_false_iff, decide_eq_false_iff_not] at hh; omega))) | (intros; (repeat' apply And.intro) <;> first | assumption | (first | (simp only [Bool.or_eq_true, decide_eq_true_eq]; omega) | (intro hh; refine ⟨hh, hh, ?_, ?_⟩ <;> (simp only [Bool.or_eq_false_iff, decide_eq_false_iff_not] at hh; omega)))) | omega | (intro hgd; exact absurd hgd (by decide)) | rfl | (simp only [go_sem, reduceIte, reduceCtorEq, zA, zM, zE, zL, zD, zS, zP, zB, zI, zR, yaa, hgx, hbl, hgx2]; done) | (intro _hgd; simp_all [go_sem]; done)
    exact hD7 _
   ·-- region 7
    have hgx2 : (yar d).getD x.toNat [] = [] := by rw [List.getD_eq_getElem?_getD, List.getElem?_eq_none (by omega)]; rfl
    have hea : true = !eaOk n d x := by
     unfold eaOk
     simp only [show ¬ x < (n : Int) by omega, decide_false, Bool.and_false, Bool.false_and, Bool.not_false]
    rw [← hea] at hD7
    refine AW.regionK 0 (fun _ => none) [0, 1, 5, 6, 39] [12] ?_
    simp only [go_sem, reduceIte, reduceCtorEq, zA, zM, zE, zL, zD, zS, zP, zB, zI, zR, yaa, hgx, hbl, hgx2]
    repeat with_reducible refine cj ?_ ?_
    all_goals try first | (first | (simp only [Bool.or_eq_true, decide_eq_true_eq]; omega) | (intro hh; refine ⟨hh, hh, ?_, ?_⟩ <;> (simp only [Bool.or_eq_false_iff, decide_eq_false_iff_not] at hh; omega))) | (intros; (repeat' apply And.intro) <;> first | assumption | (first | (simp only [Bool.or_eq_true, decide_eq_true_eq]; omega) | (intro hh; refine ⟨hh, hh, ?_, ?_⟩ <;> (simp only [Bool.or_eq_false_iff, decide_eq_false_iff_not] at hh; omega)))) | omega | (intro hgd; exact absurd hgd (by decide)) | rfl | (simp only [go_sem, reduceIte, reduceCtorEq, zA, zM, zE, zL, zD, zS, zP, zB, zI, zR, yaa, hgx, hbl, hgx2]; done) | (intro _hgd; simp_all [go_sem]; done)
    exact hD7 _
  ·intro hb
   try simp only [hB, decide_eq_true_eq, decide_eq_false_iff_not] at hb
   have hkn : k = n := by omega
   rw [hkn, List.take_of_length_le (by omega)] at hall
   refine AW.keep [] [] ?_
   try simp only [go_sem, reduceIte, reduceCtorEq, zA, zM, zE, zL, zD, zS, zP, zB, zI, zR]
   refine AW.exit ?_
   rw [← hQl1]
   refine hK6 _ _ _ ?_; clear hK6
   refine AW.seq fun K15 hK15 => ?_
   refine AW.regionK 0 (fun _ => none) [4] [] ?_
   simp only [go_sem, reduceIte, reduceCtorEq, zA, zM, zE, zL, zD, zS, zP, zB, zI, zR, yaa]
   repeat with_reducible refine cj ?_ ?_
   all_goals try first | omega
   refine hK15 _ _ _ ?_; clear hK15
   refine AW.ret ?_
   rw [← hQr]
   simp only [go_sem, reduceIte, reduceCtorEq, zA, zM, zE, zL, zD, zS, zP, zB, zI, zR, yaa]
   exact Wk.of_eq (by rw [hE, hall, hln]; simp)
end Go.Proofs.X

namespace Go.Proofs.X
open Go.AM Go
set_option maxRecDepth 100000
set_option maxHeartbeats 4000000
def yqa (t : List (List Bool)) (l : List Int) (j : Nat) : Bool := (List.range j).all (yhw t l j)
theorem ris_g (n : Nat) (t : List (List Bool)) (hs : Sq n t) (hn : n ≤ 512) (hp : poB n t = true) (l : List Int) (hl : l.length ≤ 9223372036854775807) : Reads Tryd.prog 17 false [relB t, .rsl 1 (ints l)] (.bool (extB n (belL n t) l)) := by
 have hv := yj0 n t hs hn
 rw [hp] at hv
 have he := each_r n hn l hl
 have hpo := (yie hs).1 hp
 have hlt : (tabR t).length = n := by rw [ycu, hs.len]
 have hx : extB n (belL n t) l = (ykl n l && (List.range n).all (yqa t l)) := by
  rw [Bool.eq_iff_iff, ext_iff hpo]
  simp only [Bool.and_eq_true, List.all_eq_true, List.mem_range, yqa]
 have hle := fun i j hi hj => ypz n t hs hn i j hi hj
 unfold relB at *
 generalize extB n (belL n t) l = r at *
 refine Reads.body (rs := [.tmp 4]) Tryd.func17 rfl Tryd.ntmps17 rfl (by simp) ?_
 generalize hQr : retQ _ _ _ = Qr
 refine AW.seq fun K1 hK1 => ?_
 refine AW.regionK 0 (fun _ => none) [1, 2] [2] ?_
 simp only [go_sem, reduceIte, reduceCtorEq, zA, zM, zE, zL, zD, zS, zP, zB, zI, zR, yaa, hlt]
 repeat with_reducible refine cj ?_ ?_
 all_goals try first | omega
 refine hK1 _ _ _ ?_; clear hK1
 refine AW.seq fun K2 hK2 => ?_
 refine AW.seq fun K3 hK3 => ?_
 refine AW.regionK 0 (fun ii => if ii = 1 then some (.reads false (.bool true)) else if ii = 8 then some (.reads false (.bool (ykl n l))) else none) [1, 2, 17] [2] ?_
 simp only [go_sem, reduceIte, reduceCtorEq, zA, zM, zE, zL, zD, zS, zP, zB, zI, zR, yaa, hlt]
 repeat with_reducible refine cj ?_ ?_
 all_goals try first | (first | exact hv | (intro hh; exact ⟨hh, he⟩) | exact fun _ => he) | (intros; (repeat' apply And.intro) <;> first | assumption | (first | exact hv | (intro hh; exact ⟨hh, he⟩) | exact fun _ => he)) | omega | exact ent (by kernel_rfl) | (intro hgd; exact absurd hgd (by decide)) | rfl | (simp only [go_sem, reduceIte, reduceCtorEq, zA, zM, zE, zL, zD, zS, zP, zB, zI, zR, yaa, hlt]; done) | (intro _hgd; simp_all [go_sem]; done)
 refine hK3 _ _ _ ?_; clear hK3
 refine AW.cond rfl (by simp only [go_sem, reduceIte, reduceCtorEq, zA, zM, zE, zL, zD, zS, zP, zB, zI, zR]) ?_ ?_
 ·intro hb
  try simp only [hB, decide_eq_true_eq, decide_eq_false_iff_not] at hb
  refine AW.seq fun K4 hK4 => ?_
  refine AW.regionK 0 (fun _ => none) [4] [] ?_
  simp only [go_sem, reduceIte, reduceCtorEq, zA, zM, zE, zL, zD, zS, zP, zB, zI, zR, yaa, hlt]
  repeat with_reducible refine cj ?_ ?_
  all_goals try first | omega
  refine hK4 _ _ _ ?_; clear hK4
  refine AW.ret ?_
  rw [← hQr]
  simp only [go_sem, reduceIte, reduceCtorEq, zA, zM, zE, zL, zD, zS, zP, zB, zI, zR, yaa, hlt]
  exact Wk.of_eq (by rw [hx]; revert hb; simp; intro h; rw [h]; simp)
 ·intro hb
  try simp only [hB, decide_eq_true_eq, decide_eq_false_iff_not] at hb
  have hea : ykl n l = true := by revert hb; simp
  have hE := eachB_iff.1 hea
  have hln := hE.len
  refine AW.skip ?_
  refine hK2 _ _ _ ?_; clear hK2
  refine AW.seq fun K5 hK5 => ?_
  refine AW.seq fun K6 hK6 => ?_
  refine AW.regionK 0 (fun _ => none) [1, 2, 5] [2] ?_
  simp only [go_sem, reduceIte, reduceCtorEq, zA, zM, zE, zL, zD, zS, zP, zB, zI, zR, yaa, hlt]
  repeat with_reducible refine cj ?_ ?_
  all_goals try first | omega
  refine hK6 _ _ _ ?_; clear hK6
  refine AW.block ?_
  refine AW.loopE (fun mm ee ss kk => ∃ (j g v : Nat), n - j = mm ∧ ee = [(1, .rsl 1 (ints l)), (2, .ptr ⟨2, g, none⟩ 0 0), (5, .int .i64 (j : Nat))] ∧ ss = [(2, some ⟨g, v, 1, [[.rsl 2 (tabR t)]]⟩)] ∧ (j ≤ n ∧ (List.range j).all (yqa t l) = true)) ?_ ?_
  ·refine ⟨_, 0, ?_, ?_, rfl, ?henv, ?hstore, ?hst⟩
   case henv =>
    repeat' (first | rfl | refine yac ?_ ?_ | refine yae ?_ ?_ ?_ ?_ | refine yah ?_ | refine yaf ?_ | refine yai ?_ | refine yaj ?_ | refine yan ?_ ?_ ?_ | refine yak ?_ ?_ ?_ | refine yal ?_ | refine yag ?_ ?_ | refine yad ?_ ?_)
    all_goals (first | (simp; done) | omega | (simp; omega))
   case hstore =>
    repeat' (first | rfl | refine yac ?_ ?_ | refine yae ?_ ?_ ?_ ?_ | refine yah ?_ | refine yaf ?_ | refine yai ?_ | refine yaj ?_ | refine yan ?_ ?_ ?_ | refine yak ?_ ?_ ?_ | refine yal ?_ | refine yag ?_ ?_ | refine yad ?_ ?_)
    all_goals (first | (simp; done) | omega | (simp; omega))
   case hst =>
    exact ⟨Nat.zero_le _, rfl⟩
  rintro mm ee ss kk ⟨j, g, v, rfl, rfl, rfl, hI⟩
  generalize hQl1 : ya9 _ _ = Ql1
  obtain ⟨hj, hall⟩ := hI
  refine AW.seq fun K7 hK7 => ?_
  refine AW.seq fun K8 hK8 => ?_
  refine AW.regionK 0 (fun _ => none) [1, 2, 5, 21] [2] ?_
  simp only [go_sem, reduceIte, reduceCtorEq, zA, zM, zE, zL, zD, zS, zP, zB, zI, zR, yaa, hlt]
  repeat with_reducible refine cj ?_ ?_
  all_goals try first | omega
  refine hK8 _ _ _ ?_; clear hK8
  refine AW.cond rfl (by simp only [go_sem, reduceIte, reduceCtorEq, zA, zM, zE, zL, zD, zS, zP, zB, zI, zR]) ?_ ?_
  ·intro hb
   try simp only [hB, decide_eq_true_eq, decide_eq_false_iff_not] at hb
   have hjn : j < n := by omega
   have hgj := ybv (l := l) (i := j) (by omega)
   obtain ⟨hy0, hy1⟩ := hE.rng j hjn
   have hrs := yce (p := yqa t l) j
   rw [hall, Bool.true_and] at hrs
   have hrf := yb9 (p := yqa t l) (j := j) (m := n) hjn
   have hnl : yqa t l j = (List.range j).all (yhw t l j) := rfl
   refine AW.skip ?_
   refine hK7 _ _ _ ?_; clear hK7
   refine AW.seq fun K9 hK9 => ?_
   refine AW.block ?_
   refine AW.seq fun K10 hK10 => ?_
   refine AW.regionK 0 (fun _ => none) [1, 2, 5, 6] [2] ?_
   simp only [go_sem, reduceIte, reduceCtorEq, zA, zM, zE, zL, zD, zS, zP, zB, zI, zR, yaa, hlt]
   repeat with_reducible refine cj ?_ ?_
   all_goals try first | omega
   refine hK10 _ _ _ ?_; clear hK10
   refine AW.block ?_
   refine AW.loopE (fun mm ee ss kk => ∃ (i g v : Nat), j - i = mm ∧ ee = [(1, .rsl 1 (ints l)), (2, .ptr ⟨2, g, none⟩ 0 0), (5, .int .i64 (j : Nat)), (6, .int .i64 (i : Nat))] ∧ ss = [(2, some ⟨g, v, 1, [[.rsl 2 (tabR t)]]⟩)] ∧ (i ≤ j ∧ (List.range i).all (yhw t l j) = true)) ?_ ?_
   ·refine ⟨_, 0, ?_, ?_, rfl, ?henv, ?hstore, ?hst⟩
    case henv =>
     repeat' (first | rfl | refine yac ?_ ?_ | refine yae ?_ ?_ ?_ ?_ | refine yah ?_ | refine yaf ?_ | refine yai ?_ | refine yaj ?_ | refine yan ?_ ?_ ?_ | refine yak ?_ ?_ ?_ | refine yal ?_ | refine yag ?_ ?_ | refine yad ?_ ?_)
     all_goals (first | (simp; done) | omega | (simp; omega))
    case hstore =>
     repeat' (first | rfl | refine yac ?_ ?_ | refine yae ?_ ?_ ?_ ?_ | refine yah ?_ | refine yaf ?_ | refine yai ?_ | refine yaj ?_ | refine yan ?_ ?_ ?_ | refine yak ?_ ?_ ?_ | refine yal ?_ | refine yag ?_ ?_ | refine yad ?_ ?_)
     all_goals (first | (simp; done) | omega | (simp; omega))
    case hst =>
     exact ⟨Nat.zero_le _, rfl⟩
   rintro mm ee ss kk ⟨i, g, v, rfl, rfl, rfl, hI⟩
   generalize hQl2 : ya9 _ _ = Ql2
   obtain ⟨hi, hall2⟩ := hI
   refine AW.seq fun K11 hK11 => ?_
   refine AW.seq fun K12 hK12 => ?_
   refine AW.regionK 0 (fun _ => none) [1, 2, 5, 6, 26] [2] ?_
   simp only [go_sem, reduceIte, reduceCtorEq, zA, zM, zE, zL, zD, zS, zP, zB, zI, zR, yaa, hlt]
   repeat with_reducible refine cj ?_ ?_
   all_goals try first | omega
   refine hK12 _ _ _ ?_; clear hK12
   refine AW.cond rfl (by simp only [go_sem, reduceIte, reduceCtorEq, zA, zM, zE, zL, zD, zS, zP, zB, zI, zR]) ?_ ?_
   ·intro hb
    try simp only [hB, decide_eq_true_eq, decide_eq_false_iff_not] at hb
    have hij : i < j := by omega
    have hgi := ybv (l := l) (i := i) (by omega)
    obtain ⟨hz0, hz1⟩ := hE.rng i (by omega)
    have hlx := hle (l.getD j 0).toNat (l.getD i 0).toNat (by omega) (by omega)
    have hc1 : (((l.getD j 0).toNat : Nat) : Int) = l.getD j 0 := by omega
    have hc2 : (((l.getD i 0).toNat : Nat) : Int) = l.getD i 0 := by omega
    rw [hc1, hc2] at hlx
    have hrs2 := yce (p := yhw t l j) i
    rw [hall2, Bool.true_and] at hrs2
    have hrf2 := yb9 (p := yhw t l j) (j := i) (m := j) hij
    have hno : yhw t l j i = !atT t (l.getD j 0).toNat (l.getD i 0).toNat := rfl
    refine AW.skip ?_
    refine hK11 _ _ _ ?_; clear hK11
    refine AW.seq fun K13 hK13 => ?_
    refine AW.block ?_
    refine AW.seq fun K14 hK14 => ?_
    refine AW.regionD ye9 0 (fun ii => if ii = 9 then some (.reads false (.bool (atT t (l.getD j 0).toNat (l.getD i 0).toNat))) else none) [1, 2, 5, 6, 38] [2] ?_
    simp only [go_sem, reduceIte, reduceCtorEq, zA, zM, zE, zL, zD, zS, zP, zB, zI, zR, yaa, hlt, hgj, hgi]
    repeat with_reducible refine cj ?_ ?_
    all_goals try first | (exact hlx) | omega | exact chk (by kernel_rfl) | exact ent (by kernel_rfl)
    refine hK14 _ _ _ ?_; clear hK14
    refine AW.cond rfl (by simp only [go_sem, reduceIte, reduceCtorEq, zA, zM, zE, zL, zD, zS, zP, zB, zI, zR]) ?_ ?_
    ·intro hb
     try simp only [hB, decide_eq_true_eq, decide_eq_false_iff_not] at hb
     refine AW.seq fun K15 hK15 => ?_
     refine AW.regionK 0 (fun _ => none) [4] [] ?_
     simp only [go_sem, reduceIte, reduceCtorEq, zA, zM, zE, zL, zD, zS, zP, zB, zI, zR, yaa, hlt]
     repeat with_reducible refine cj ?_ ?_
     all_goals try first | omega
     refine hK15 _ _ _ ?_; clear hK15
     refine AW.ret ?_
     rw [← hQl2]
     rw [← hQl1]
     rw [← hQr]
     simp only [go_sem, reduceIte, reduceCtorEq, zA, zM, zE, zL, zD, zS, zP, zB, zI, zR, yaa, hlt]
     exact Wk.of_eq (by rw [hx, hrf (by rw [hnl, hrf2 (by rw [hno, hb]; rfl)])]; simp)
    ·intro hb
     try simp only [hB, decide_eq_true_eq, decide_eq_false_iff_not] at hb
     refine AW.skip ?_
     refine hK13 _ _ _ ?_; clear hK13
     refine AW.regionK 0 (fun _ => none) [1, 2, 5, 6] [2] ?_
     simp only [go_sem, reduceIte, reduceCtorEq, zA, zM, zE, zL, zD, zS, zP, zB, zI, zR, yaa, hlt]
     repeat with_reducible refine cj ?_ ?_
     all_goals try first | omega
     rw [← hQl2]
     change Exists _
     refine ⟨_, ?hm, i + 1, ?_, ?_, rfl, ?henv, ?hstore, ?hst⟩
     case henv =>
      repeat' (first | rfl | refine yac ?_ ?_ | refine yae ?_ ?_ ?_ ?_ | refine yah ?_ | refine yaf ?_ | refine yai ?_ | refine yaj ?_ | refine yan ?_ ?_ ?_ | refine yak ?_ ?_ ?_ | refine yal ?_ | refine yag ?_ ?_ | refine yad ?_ ?_)
      all_goals (first | (simp; done) | omega | (simp; omega))
     case hstore =>
      repeat' (first | rfl | refine yac ?_ ?_ | refine yae ?_ ?_ ?_ ?_ | refine yah ?_ | refine yaf ?_ | refine yai ?_ | refine yaj ?_ | refine yan ?_ ?_ ?_ | refine yak ?_ ?_ ?_ | refine yal ?_ | refine yag ?_ ?_ | refine yad ?_ ?_)
      all_goals (first | (simp; done) | omega | (simp; omega))
     case hst =>
      exact ⟨by omega, by rw [hrs2, hno, hb]; rfl⟩
     case hm => omega
   ·intro hb
    try simp only [hB, decide_eq_true_eq, decide_eq_false_iff_not] at hb
    have hij : i = j := by omega
    rw [hij, ← hnl] at hall2
    refine AW.keep [1, 2, 5] [2] ?_
    try simp only [go_sem, reduceIte, reduceCtorEq, zA, zM, zE, zL, zD, zS, zP, zB, zI, zR]
    refine AW.exit ?_
    rw [← hQl2]
    refine hK9 _ _ _ ?_; clear hK9
    refine AW.regionK 0 (fun _ => none) [1, 2, 5] [2] ?_
    simp only [go_sem, reduceIte, reduceCtorEq, zA, zM, zE, zL, zD, zS, zP, zB, zI, zR, yaa, hlt]
    repeat with_reducible refine cj ?_ ?_
    all_goals try first | omega
    rw [← hQl1]
    change Exists _
    refine ⟨_, ?hm, j + 1, ?_, ?_, rfl, ?henv, ?hstore, ?hst⟩
    case henv =>
     repeat' (first | rfl | refine yac ?_ ?_ | refine yae ?_ ?_ ?_ ?_ | refine yah ?_ | refine yaf ?_ | refine yai ?_ | refine yaj ?_ | refine yan ?_ ?_ ?_ | refine yak ?_ ?_ ?_ | refine yal ?_ | refine yag ?_ ?_ | refine yad ?_ ?_)
     all_goals (first | (simp; done) | omega | (simp; omega))
    case hstore =>
     repeat' (first | rfl | refine yac ?_ ?_ | refine yae ?_ ?_ ?_ ?_ | refine yah ?_ | refine yaf ?_ | refine yai ?_ | refine yaj ?_ | refine yan ?_ ?_ ?_ | refine yak ?_ ?_ ?_ | refine yal ?_ | refine yag ?_ ?_ | refine yad ?_ ?_)
     all_goals (first | (simp; done) | omega | (simp; omega))
    case hst =>
     exact ⟨by omega, by rw [hrs, hall2]⟩
    case hm => omega
  ·intro hb
   try simp only [hB, decide_eq_true_eq, decide_eq_false_iff_not] at hb
   have hjn : j = n := by omega
   rw [hjn] at hall
   refine AW.keep [] [] ?_
   try simp only [go_sem, reduceIte, reduceCtorEq, zA, zM, zE, zL, zD, zS, zP, zB, zI, zR]
   refine AW.exit ?_
   rw [← hQl1]
   refine hK5 _ _ _ ?_; clear hK5
   refine AW.seq fun K16 hK16 => ?_
   refine AW.regionK 0 (fun _ => none) [4] [] ?_
   simp only [go_sem, reduceIte, reduceCtorEq, zA, zM, zE, zL, zD, zS, zP, zB, zI, zR, yaa, hlt]
   repeat with_reducible refine cj ?_ ?_
   all_goals try first | omega
   refine hK16 _ _ _ ?_; clear hK16
   refine AW.ret ?_
   rw [← hQr]
   simp only [go_sem, reduceIte, reduceCtorEq, zA, zM, zE, zL, zD, zS, zP, zB, zI, zR, yaa, hlt]
   exact Wk.of_eq (by rw [hx, hea, hall]; rfl)
end Go.Proofs.X

namespace Go.Proofs.X
open Go.AM Go
set_option maxRecDepth 100000
set_option maxHeartbeats 4000000
theorem yp0 (a b : List Bool) (h : a.length = b.length) (ha : a.length ≤ 512) : Reads Tryd.prog 71 false [.rsl 1 (yar a), .rsl 1 (yar b)] (.bool (decide (a = b))) := by
 refine Reads.body (rs := [.tmp 4]) Tryd.func71 rfl Tryd.ntmps71 rfl (by simp) ?_
 generalize hQr : retQ _ _ _ = Qr
 refine AW.seq fun K1 hK1 => ?_
 refine AW.regionK 0 (fun _ => none) [0, 1] [] ?_
 simp only [go_sem, reduceIte, reduceCtorEq, zA, zM, zE, zL, zD, zS, zP, zB, zI, zR, yab]
 repeat with_reducible refine cj ?_ ?_
 all_goals try first | omega
 refine hK1 _ _ _ ?_; clear hK1
 refine AW.seq fun K2 hK2 => ?_
 refine AW.seq fun K3 hK3 => ?_
 refine AW.regionK 0 (fun _ => none) [0, 1, 5] [] ?_
 simp only [go_sem, reduceIte, reduceCtorEq, zA, zM, zE, zL, zD, zS, zP, zB, zI, zR, yab]
 repeat with_reducible refine cj ?_ ?_
 all_goals try first | omega
 refine hK3 _ _ _ ?_; clear hK3
 refine AW.block ?_
 refine AW.loopE (fun mm ee ss kk => ∃ (j : Nat), a.length - j = mm ∧ ee = [(0, .rsl 1 (yar a)), (1, .rsl 1 (yar b)), (5, .int .i64 (j : Nat))] ∧ ss = [] ∧ (j ≤ a.length ∧ a.take j = b.take j)) ?_ ?_
 ·refine ⟨_, 0, rfl, ?henv, ?hstore, ?hst⟩
  case henv =>
   repeat' (first | rfl | refine yac ?_ ?_ | refine yae ?_ ?_ ?_ ?_ | refine yah ?_ | refine yaf ?_ | refine yai ?_ | refine yaj ?_ | refine yan ?_ ?_ ?_ | refine yak ?_ ?_ ?_ | refine yal ?_ | refine yag ?_ ?_ | refine yad ?_ ?_)
   all_goals (first | (simp; done) | omega | (simp; omega))
  case hstore =>
   repeat' (first | rfl | refine yac ?_ ?_ | refine yae ?_ ?_ ?_ ?_ | refine yah ?_ | refine yaf ?_ | refine yai ?_ | refine yaj ?_ | refine yan ?_ ?_ ?_ | refine yak ?_ ?_ ?_ | refine yal ?_ | refine yag ?_ ?_ | refine yad ?_ ?_)
   all_goals (first | (simp; done) | omega | (simp; omega))
  case hst =>
   exact ⟨Nat.zero_le _, rfl⟩
 rintro mm ee ss kk ⟨j, rfl, rfl, rfl, hI⟩
 generalize hQl1 : ya9 _ _ = Ql1
 obtain ⟨hj, hall⟩ := hI
 refine AW.seq fun K4 hK4 => ?_
 refine AW.seq fun K5 hK5 => ?_
 refine AW.regionK 0 (fun _ => none) [0, 1, 5, 9] [] ?_
 simp only [go_sem, reduceIte, reduceCtorEq, zA, zM, zE, zL, zD, zS, zP, zB, zI, zR, yab]
 repeat with_reducible refine cj ?_ ?_
 all_goals try first | omega
 refine hK5 _ _ _ ?_; clear hK5
 refine AW.cond rfl (by simp only [go_sem, reduceIte, reduceCtorEq, zA, zM, zE, zL, zD, zS, zP, zB, zI, zR]) ?_ ?_
 ·intro hb
  try simp only [hB, decide_eq_true_eq, decide_eq_false_iff_not] at hb
  have hj2 : j < a.length := by omega
  have hga := ybh (l := a) (i := j) (by omega)
  have hgb := ybh (l := b) (i := j) (by omega)
  have hta : a.take (j + 1) = a.take j ++ [a.getD j false] := by rw [List.take_add_one, List.getElem?_eq_getElem (by omega)]; simp [List.getD_eq_getElem?_getD, List.getElem?_eq_getElem (show j < a.length by omega)]
  have htb : b.take (j + 1) = b.take j ++ [b.getD j false] := by rw [List.take_add_one, List.getElem?_eq_getElem (by omega)]; simp [List.getD_eq_getElem?_getD, List.getElem?_eq_getElem (show j < b.length by omega)]
  refine AW.skip ?_
  refine hK4 _ _ _ ?_; clear hK4
  refine AW.seq fun K6 hK6 => ?_
  refine AW.block ?_
  refine AW.seq fun K7 hK7 => ?_
  refine AW.regionD ye9 0 (fun _ => none) [0, 1, 5, 20] [] ?_
  simp only [go_sem, reduceIte, reduceCtorEq, zA, zM, zE, zL, zD, zS, zP, zB, zI, zR, yab, hga, hgb]
  repeat with_reducible refine cj ?_ ?_
  all_goals try first | omega | exact chk (by kernel_rfl)
  refine hK7 _ _ _ ?_; clear hK7
  refine AW.cond rfl (by simp only [go_sem, reduceIte, reduceCtorEq, zA, zM, zE, zL, zD, zS, zP, zB, zI, zR]) ?_ ?_
  ·intro hb
   try simp only [hB, decide_eq_true_eq, decide_eq_false_iff_not] at hb
   have hne : a ≠ b := by
    intro e; rw [e] at hb; simp at hb
   refine AW.seq fun K8 hK8 => ?_
   refine AW.regionK 0 (fun _ => none) [4] [] ?_
   simp only [go_sem, reduceIte, reduceCtorEq, zA, zM, zE, zL, zD, zS, zP, zB, zI, zR, yab]
   repeat with_reducible refine cj ?_ ?_
   all_goals try first | omega
   refine hK8 _ _ _ ?_; clear hK8
   refine AW.ret ?_
   rw [← hQl1]
   rw [← hQr]
   simp only [go_sem, reduceIte, reduceCtorEq, zA, zM, zE, zL, zD, zS, zP, zB, zI, zR, yab]
   exact Wk.of_eq (by rw [decide_eq_false hne])
  ·intro hb
   try simp only [hB, decide_eq_true_eq, decide_eq_false_iff_not] at hb
   have he : a.getD j false = b.getD j false := by simpa using hb
   refine AW.skip ?_
   refine hK6 _ _ _ ?_; clear hK6
   refine AW.regionK 0 (fun _ => none) [0, 1, 5] [] ?_
   simp only [go_sem, reduceIte, reduceCtorEq, zA, zM, zE, zL, zD, zS, zP, zB, zI, zR, yab]
   repeat with_reducible refine cj ?_ ?_
   all_goals try first | omega
   rw [← hQl1]
   change Exists _
   refine ⟨_, ?hm, j + 1, rfl, ?henv, ?hstore, ?hst⟩
   case henv =>
    repeat' (first | rfl | refine yac ?_ ?_ | refine yae ?_ ?_ ?_ ?_ | refine yah ?_ | refine yaf ?_ | refine yai ?_ | refine yaj ?_ | refine yan ?_ ?_ ?_ | refine yak ?_ ?_ ?_ | refine yal ?_ | refine yag ?_ ?_ | refine yad ?_ ?_)
    all_goals (first | (simp; done) | omega | (simp; omega))
   case hstore =>
    repeat' (first | rfl | refine yac ?_ ?_ | refine yae ?_ ?_ ?_ ?_ | refine yah ?_ | refine yaf ?_ | refine yai ?_ | refine yaj ?_ | refine yan ?_ ?_ ?_ | refine yak ?_ ?_ ?_ | refine yal ?_ | refine yag ?_ ?_ | refine yad ?_ ?_)
    all_goals (first | (simp; done) | omega | (simp; omega))
   case hst =>
    exact ⟨by omega, by rw [hta, htb, hall, he]⟩
   case hm => omega
 ·intro hb
  try simp only [hB, decide_eq_true_eq, decide_eq_false_iff_not] at hb
  have hab : a = b := by
   have := hall
   rwa [List.take_of_length_le (by omega), List.take_of_length_le (by omega)] at this
  refine AW.keep [] [] ?_
  try simp only [go_sem, reduceIte, reduceCtorEq, zA, zM, zE, zL, zD, zS, zP, zB, zI, zR]
  refine AW.exit ?_
  rw [← hQl1]
  refine hK2 _ _ _ ?_; clear hK2
  refine AW.seq fun K9 hK9 => ?_
  refine AW.regionK 0 (fun _ => none) [4] [] ?_
  simp only [go_sem, reduceIte, reduceCtorEq, zA, zM, zE, zL, zD, zS, zP, zB, zI, zR, yab]
  repeat with_reducible refine cj ?_ ?_
  all_goals try first | omega
  refine hK9 _ _ _ ?_; clear hK9
  refine AW.ret ?_
  rw [← hQr]
  simp only [go_sem, reduceIte, reduceCtorEq, zA, zM, zE, zL, zD, zS, zP, zB, zI, zR, yab]
  exact Wk.of_eq (by rw [decide_eq_true hab])
end Go.Proofs.X

namespace Go.Proofs.X
open Go.AM Go
set_option maxRecDepth 100000
set_option maxHeartbeats 4000000
theorem few1_r (x : USet) (hx : x.W.length ≤ 9223372036854775807) : Reads Tryd.prog 41 false [.agg (rowV x)] (.bool (decide ((12 : Int) < x.W.length))) := by
 unfold rowV
 refine Reads.body (rs := [.tmp 2]) Tryd.func41 rfl Tryd.ntmps41 rfl (by simp) ?_
 generalize hQr : retQ _ _ _ = Qr
 refine AW.seq fun K1 hK1 => ?_
 refine AW.regionK 0 (fun _ => none) [1] [1] ?_
 simp only [go_sem, reduceIte, reduceCtorEq, zA, zM, zE, zL, zD, zS, zP, zB, zI, zR]
 repeat with_reducible refine cj ?_ ?_
 all_goals try first | omega
 refine hK1 _ _ _ ?_; clear hK1
 refine AW.seq fun K2 hK2 => ?_
 refine AW.regionK 0 (fun _ => none) [2] [] ?_
 simp only [go_sem, reduceIte, reduceCtorEq, zA, zM, zE, zL, zD, zS, zP, zB, zI, zR]
 repeat with_reducible refine cj ?_ ?_
 all_goals try first | omega
 refine hK2 _ _ _ ?_; clear hK2
 refine AW.ret ?_
 rw [← hQr]
 simp only [go_sem, reduceIte, reduceCtorEq, zA, zM, zE, zL, zD, zS, zP, zB, zI, zR]
 exact Wk.refl _
def ykm (x : USet) : Bool := decide ((12 : Int) < x.W.length)
theorem ixfew_r (rs : List USet) (hl : ykk rs) : Reads Tryd.prog 66 false [.rsl 2 (rs.map rowV), .fn 41 []] (.int .i64 (ixf ykm rs)) := by
 have hbp := fun x hxm => few1_r x (hl.2 x hxm)
 have hl1 := hl.1
 refine Reads.body (rs := [.tmp 4]) Tryd.func66 rfl Tryd.ntmps66 rfl (by simp) ?_
 generalize hQr : retQ _ _ _ = Qr
 refine AW.seq fun K1 hK1 => ?_
 refine AW.regionK 0 (fun _ => none) [0, 1] [] ?_
 simp only [go_sem, reduceIte, reduceCtorEq, zA, zM, zE, zL, zD, zS, zP, zB, zI, zR]
 repeat with_reducible refine cj ?_ ?_
 all_goals try first | omega
 refine hK1 _ _ _ ?_; clear hK1
 refine AW.seq fun K2 hK2 => ?_
 refine AW.seq fun K3 hK3 => ?_
 refine AW.regionK 0 (fun _ => none) [0, 1, 7, 8] [] ?_
 simp only [go_sem, reduceIte, reduceCtorEq, zA, zM, zE, zL, zD, zS, zP, zB, zI, zR]
 repeat with_reducible refine cj ?_ ?_
 all_goals try first | omega
 refine hK3 _ _ _ ?_; clear hK3
 refine AW.block ?_
 refine AW.loopE (fun mm ee ss kk => ∃ (j : Nat), rs.length - j = mm ∧ ee = [(0, .rsl 2 (rs.map rowV)), (1, .fn 41 []), (7, .int .i64 rs.length), (8, .int .i64 (j : Nat))] ∧ ss = [] ∧ (j ≤ rs.length ∧ (rs.take j).any ykm = false)) ?_ ?_
 ·refine ⟨_, 0, rfl, ?henv, ?hstore, ?hst⟩
  case henv =>
   repeat' (first | rfl | refine yac ?_ ?_ | refine yae ?_ ?_ ?_ ?_ | refine yah ?_ | refine yaf ?_ | refine yai ?_ | refine yaj ?_ | refine yan ?_ ?_ ?_ | refine yak ?_ ?_ ?_ | refine yal ?_ | refine yag ?_ ?_ | refine yad ?_ ?_)
   all_goals (first | (simp; done) | omega | (simp; omega))
  case hstore =>
   repeat' (first | rfl | refine yac ?_ ?_ | refine yae ?_ ?_ ?_ ?_ | refine yah ?_ | refine yaf ?_ | refine yai ?_ | refine yaj ?_ | refine yan ?_ ?_ ?_ | refine yak ?_ ?_ ?_ | refine yal ?_ | refine yag ?_ ?_ | refine yad ?_ ?_)
   all_goals (first | (simp; done) | omega | (simp; omega))
  case hst =>
   first | trivial | omega | (simp; done) | (simp; omega)
 rintro mm ee ss kk ⟨j, rfl, rfl, rfl, hI⟩
 generalize hQl1 : ya9 _ _ = Ql1
 obtain ⟨hj, hall⟩ := hI
 refine AW.seq fun K4 hK4 => ?_
 refine AW.regionK 0 (fun _ => none) [0, 1, 7, 8, 9] [] ?_
 simp only [go_sem, reduceIte, reduceCtorEq, zA, zM, zE, zL, zD, zS, zP, zB, zI, zR]
 repeat with_reducible refine cj ?_ ?_
 all_goals try first | omega
 refine hK4 _ _ _ ?_; clear hK4
 refine AW.seq fun K5 hK5 => ?_
 refine AW.cond rfl (by simp only [go_sem, reduceIte, reduceCtorEq, zA, zM, zE, zL, zD, zS, zP, zB, zI, zR]) ?_ ?_
 ·intro hb
  try simp only [hB, decide_eq_true_eq, decide_eq_false_iff_not] at hb
  obtain ⟨x, hx⟩ := getI (l := rs) (j := j) (by omega)
  have hgx := getV (f := rowV) hx
  have hats := ydn (p := ykm) hx
  have hbx := hbp x (List.mem_of_getElem? hx)
  refine AW.skip ?_
  refine hK5 _ _ _ ?_; clear hK5
  refine AW.seq fun K6 hK6 => ?_
  refine AW.block ?_
  refine AW.seq fun K7 hK7 => ?_
  refine AW.regionK 0 (fun _ => none) [0, 1, 5, 7, 8] [] ?_
  simp only [go_sem, reduceIte, reduceCtorEq, zA, zM, zE, zL, zD, zS, zP, zB, zI, zR]
  repeat with_reducible refine cj ?_ ?_
  all_goals try first | omega
  refine hK7 _ _ _ ?_; clear hK7
  refine AW.seq fun K8 hK8 => ?_
  refine AW.regionK 0 (fun ii => if ii = 5 then some (.reads false (.bool (ykm x))) else none) [0, 1, 5, 7, 8, 16] [] ?_
  simp only [go_sem, reduceIte, reduceCtorEq, zA, zM, zE, zL, zD, zS, zP, zB, zI, zR, hgx, rowV]
  repeat with_reducible refine cj ?_ ?_
  all_goals try first | (exact hbx) | omega | exact ent (by kernel_rfl)
  refine hK8 _ _ _ ?_; clear hK8
  refine AW.cond rfl (by simp only [go_sem, reduceIte, reduceCtorEq, zA, zM, zE, zL, zD, zS, zP, zB, zI, zR]) ?_ ?_
  ·intro hb
   try simp only [hB, decide_eq_true_eq, decide_eq_false_iff_not] at hb
   refine AW.seq fun K9 hK9 => ?_
   refine AW.regionK 0 (fun _ => none) [4] [] ?_
   simp only [go_sem, reduceIte, reduceCtorEq, zA, zM, zE, zL, zD, zS, zP, zB, zI, zR]
   repeat with_reducible refine cj ?_ ?_
   all_goals try first | omega
   refine hK9 _ _ _ ?_; clear hK9
   refine AW.ret ?_
   rw [← hQl1]
   rw [← hQr]
   simp only [go_sem, reduceIte, reduceCtorEq, zA, zM, zE, zL, zD, zS, zP, zB, zI, zR]
   exact Wk.of_eq (by rw [yqy hx hb hall])
  ·intro hb
   try simp only [hB, decide_eq_true_eq, decide_eq_false_iff_not] at hb
   refine AW.skip ?_
   refine hK6 _ _ _ ?_; clear hK6
   refine AW.regionK 0 (fun _ => none) [0, 1, 7, 8] [] ?_
   simp only [go_sem, reduceIte, reduceCtorEq, zA, zM, zE, zL, zD, zS, zP, zB, zI, zR]
   repeat with_reducible refine cj ?_ ?_
   all_goals try first | omega
   rw [← hQl1]
   change Exists _
   refine ⟨_, ?hm, j + 1, rfl, ?henv, ?hstore, ?hst⟩
   case henv =>
    repeat' (first | rfl | refine yac ?_ ?_ | refine yae ?_ ?_ ?_ ?_ | refine yah ?_ | refine yaf ?_ | refine yai ?_ | refine yaj ?_ | refine yan ?_ ?_ ?_ | refine yak ?_ ?_ ?_ | refine yal ?_ | refine yag ?_ ?_ | refine yad ?_ ?_)
    all_goals (first | (simp; done) | omega | (simp; omega))
   case hstore =>
    repeat' (first | rfl | refine yac ?_ ?_ | refine yae ?_ ?_ ?_ ?_ | refine yah ?_ | refine yaf ?_ | refine yai ?_ | refine yaj ?_ | refine yan ?_ ?_ ?_ | refine yak ?_ ?_ ?_ | refine yal ?_ | refine yag ?_ ?_ | refine yad ?_ ?_)
    all_goals (first | (simp; done) | omega | (simp; omega))
   case hst =>
    exact ⟨by omega, by rw [hats, hall, hb]; rfl⟩
   case hm => omega
 ·intro hb
  try simp only [hB, decide_eq_true_eq, decide_eq_false_iff_not] at hb
  refine AW.keep [] [] ?_
  try simp only [go_sem, reduceIte, reduceCtorEq, zA, zM, zE, zL, zD, zS, zP, zB, zI, zR]
  refine AW.exit ?_
  rw [← hQl1]
  refine hK2 _ _ _ ?_; clear hK2
  refine AW.seq fun K10 hK10 => ?_
  refine AW.regionK 0 (fun _ => none) [4] [] ?_
  simp only [go_sem, reduceIte, reduceCtorEq, zA, zM, zE, zL, zD, zS, zP, zB, zI, zR]
  repeat with_reducible refine cj ?_ ?_
  all_goals try first | omega
  refine hK10 _ _ _ ?_; clear hK10
  refine AW.ret ?_
  rw [← hQr]
  simp only [go_sem, reduceIte, reduceCtorEq, zA, zM, zE, zL, zD, zS, zP, zB, zI, zR]
  exact Wk.of_eq (by rw [List.take_of_length_le (by omega)] at hall; rw [ylr hall])
theorem ctfew_r (rs : List USet) (hl : ykk rs) : Reads Tryd.prog 40 false [.rsl 2 (rs.map rowV), .fn 41 []] (.bool (rs.any ykm)) := by
 have h := ixfew_r rs hl
 have hge := yqz ykm rs
 refine Reads.body (rs := [.tmp 4]) Tryd.func40 rfl Tryd.ntmps40 rfl (by simp) ?_
 generalize hQr : retQ _ _ _ = Qr
 refine AW.seq fun K1 hK1 => ?_
 refine AW.regionK 0 (fun _ => none) [0, 1] [] ?_
 simp only [go_sem, reduceIte, reduceCtorEq, zA, zM, zE, zL, zD, zS, zP, zB, zI, zR]
 repeat with_reducible refine cj ?_ ?_
 all_goals try first | omega
 refine hK1 _ _ _ ?_; clear hK1
 refine AW.seq fun K2 hK2 => ?_
 refine AW.regionK 0 (fun ii => if ii = 2 then some (.reads false (.int .i64 (ixf ykm rs))) else none) [4] [] ?_
 simp only [go_sem, reduceIte, reduceCtorEq, zA, zM, zE, zL, zD, zS, zP, zB, zI, zR]
 repeat with_reducible refine cj ?_ ?_
 all_goals try first | (exact h) | omega | exact ent (by kernel_rfl)
 refine hK2 _ _ _ ?_; clear hK2
 refine AW.ret ?_
 rw [← hQr]
 simp only [go_sem, reduceIte, reduceCtorEq, zA, zM, zE, zL, zD, zS, zP, zB, zI, zR]
 exact Wk.of_eq (by rw [hge])
def fewE (rs : List USet) (m : Int) : Bool := !(decide (m < (rs.length : Int)) && (decide ((rs.length : Int) ≤ 512) || decide ((517 : Int) < rs.length))) && !rs.any ykm
theorem ysy (rs : List USet) (hl : ykk rs) (m : Int) : Reads Tryd.prog 12 false [relV rs, .int .i64 m] (.bool (fewE rs m)) := by
 have h := Reads.flat (ctfew_r rs hl) rfl
 have hl1 := hl.1
 have hf : fewE rs m = (!(decide (m < (rs.length : Int)) && (decide ((rs.length : Int) ≤ 512) || decide ((517 : Int) < rs.length))) && !rs.any ykm) := rfl
 unfold relV
 refine Reads.body (rs := [.tmp 4]) Tryd.func12 rfl Tryd.ntmps12 rfl (by simp) ?_
 generalize hQr : retQ _ _ _ = Qr
 refine AW.seq fun K1 hK1 => ?_
 refine AW.regionK 0 (fun _ => none) [1, 2] [2] ?_
 simp only [go_sem, reduceIte, reduceCtorEq, zA, zM, zE, zL, zD, zS, zP, zB, zI, zR]
 repeat with_reducible refine cj ?_ ?_
 all_goals try first | omega
 refine hK1 _ _ _ ?_; clear hK1
 refine AW.seq fun K2 hK2 => ?_
 refine AW.seq fun K3 hK3 => ?_
 refine AW.regionK 0 (fun _ => none) [2, 21] [2] ?_
 simp only [go_sem, reduceIte, reduceCtorEq, zA, zM, zE, zL, zD, zS, zP, zB, zI, zR]
 repeat with_reducible refine cj ?_ ?_
 all_goals try first | omega | (intros; (repeat' apply And.intro) <;> first | assumption | omega | decide) | (intro hgd; exact absurd hgd (by decide)) | rfl | (simp only [go_sem, reduceIte, reduceCtorEq, zA, zM, zE, zL, zD, zS, zP, zB, zI, zR]; done) | (intro _hgd; simp_all [go_sem]; done)
 refine hK3 _ _ _ ?_; clear hK3
 refine AW.cond rfl (by simp only [go_sem, reduceIte, reduceCtorEq, zA, zM, zE, zL, zD, zS, zP, zB, zI, zR]) ?_ ?_
 ·intro hb
  try simp only [hB, decide_eq_true_eq, decide_eq_false_iff_not] at hb
  have hc : (decide (m < (rs.length : Int)) && (decide ((rs.length : Int) ≤ 512) || decide ((517 : Int) < rs.length))) = true := by
   simp only [Bool.and_eq_true, Bool.or_eq_true, decide_eq_true_eq]; omega
  refine AW.seq fun K4 hK4 => ?_
  refine AW.regionK 0 (fun _ => none) [4] [] ?_
  simp only [go_sem, reduceIte, reduceCtorEq, zA, zM, zE, zL, zD, zS, zP, zB, zI, zR]
  repeat with_reducible refine cj ?_ ?_
  all_goals try first | omega
  refine hK4 _ _ _ ?_; clear hK4
  refine AW.ret ?_
  rw [← hQr]
  simp only [go_sem, reduceIte, reduceCtorEq, zA, zM, zE, zL, zD, zS, zP, zB, zI, zR]
  exact Wk.of_eq (by rw [hf, hc]; rfl)
 ·intro hb
  try simp only [hB, decide_eq_true_eq, decide_eq_false_iff_not] at hb
  have hc : (decide (m < (rs.length : Int)) && (decide ((rs.length : Int) ≤ 512) || decide ((517 : Int) < rs.length))) = false := by
   simp only [Bool.and_eq_false_iff, Bool.or_eq_false_iff, decide_eq_false_iff_not]; omega
  refine AW.skip ?_
  refine hK2 _ _ _ ?_; clear hK2
  refine AW.seq fun K5 hK5 => ?_
  refine AW.regionK 0 (fun ii => if ii = 2 then some (.reads true (.bool (rs.any ykm))) else none) [4] [] ?_
  simp only [go_sem, reduceIte, reduceCtorEq, zA, zM, zE, zL, zD, zS, zP, zB, zI, zR]
  repeat with_reducible refine cj ?_ ?_
  all_goals try first | (exact h) | omega | exact ent (by kernel_rfl)
  refine hK5 _ _ _ ?_; clear hK5
  refine AW.ret ?_
  rw [← hQr]
  simp only [go_sem, reduceIte, reduceCtorEq, zA, zM, zE, zL, zD, zS, zP, zB, zI, zR]
  exact Wk.of_eq (by rw [hf, hc]; simp)
theorem ysz (w : Int) : Reads Tryd.prog 39 true [.int .u64 w] (.agg [.int .i64 3, .rsl 1 (words [w])]) := by
 refine Reads.bodyF (rs := [.cell 2 47]) Tryd.func39 rfl Tryd.ntmps39 rfl (by simp) ?_
 generalize hQr : retQ _ _ _ = Qr
 refine AW.seq fun K1 hK1 => ?_
 refine AW.regionK 0 (fun _ => none) [0, 2] [2] ?_
 simp only [go_sem, reduceIte, reduceCtorEq, zA, zM, zE, zL, zD, zS, zP, zB, zI, zR]
 repeat with_reducible refine cj ?_ ?_
 all_goals try first | omega
 refine hK1 _ _ _ ?_; clear hK1
 refine AW.seq fun K2 hK2 => ?_
 refine AW.regionK 0 (fun _ => none) [2] [2, 4] ?_
 simp only [go_sem, reduceIte, reduceCtorEq, zA, zM, zE, zL, zD, zS, zP, zB, zI, zR]
 repeat with_reducible refine cj ?_ ?_
 all_goals try first | omega
 refine hK2 _ _ _ ?_; clear hK2
 refine AW.ret ?_
 rw [← hQr]
 simp only [go_sem, reduceIte, reduceCtorEq, zA, zM, zE, zL, zD, zS, zP, zB, zI, zR]
 exact Wk.refl _
def t3 : List (List Bool) := [[false, false, false], [false, false, false], [true, false, false]]
theorem yr2 : Sq 3 t3 := ⟨rfl, by decide⟩
theorem yr3 : poB 3 t3 = true := by decide +kernel
theorem t3_least : yrd 3 t3 = [1, 2, 0] := by decide +kernel
theorem yso : cntL (belL 3 t3) 3 3 ≤ 5000 := by decide +kernel
theorem t3_cE : cE (belL 3 t3) 3 3 (List.replicate 3 false) = 3 := by decide +kernel
theorem yri : allW 3 t3 = 3 := by rw [yj8, t3_cE]; rfl
theorem t3_next : ynl (belL 3 t3) 3 [1, 2, 0] 3 = some [2, 0, 1] := by decide +kernel
theorem t3_x1 : extB 3 (belL 3 t3) [1, 2, 0] = true := by decide +kernel
theorem t3_x2 : extB 3 (belL 3 t3) [2, 1, 0] = true := by decide +kernel
theorem t3_rank : ya8 (belL 3 t3) 3 [2, 1, 0] 3 = 2 := by decide +kernel
theorem t3_tab : tabR t3 = [[.int .i64 3, .rsl 1 (words [0])], [.int .i64 3, .rsl 1 (words [0])], [.int .i64 3, .rsl 1 (words [1])]] := by
 have h0 : setW [false, false, false] 3 = [0] := by decide +kernel
 have h1 : setW [true, false, false] 3 = [1] := by decide +kernel
 simp [tabR, t3, rowB, h0, h1]
theorem yrj : Reads Tryd.prog 11 false [] (.bool true) := by
 have hr0 := ysz 0
 have hr1 := ysz 1
 have h1 := least_g 3 t3 yr2 (by decide) yr3
 have h2 := count_u 3 t3 yr2 (by decide) yr3 yso (by rw [yri]; decide)
 have h3 := next_f 3 t3 yr2 (by decide) yr3 [1, 2, 0] t3_x1
 have h4 := Reads.flat (ysn 3 t3 yr2 (by decide) yr3 yso (by rw [yri]; decide) [2, 1, 0] t3_x2) rfl
 have h5 := Reads.flat (ylx [1, 2, 0] (by decide)) rfl
 have h6 := Reads.flat (ylx [2, 0, 1] (by decide)) rfl
 rw [t3_least] at h1
 rw [yri] at h2
 rw [t3_next] at h3
 rw [t3_rank] at h4
 unfold relB ysx at *
 rw [t3_tab] at h1 h2 h3 h4
 simp only [ints, words, List.map_cons, List.map_nil] at *
 refine Reads.body (rs := [.tmp 0]) Tryd.func11 rfl Tryd.ntmps11 rfl (by simp) ?_
 generalize hQr : retQ _ _ _ = Qr
 refine AW.seq fun K1 hK1 => ?_
 refine AW.regionK 0 (fun _ => none) [] [1] ?_
 simp only [go_sem, reduceIte, reduceCtorEq, zA, zM, zE, zL, zD, zS, zP, zB, zI, zR]
 repeat with_reducible refine cj ?_ ?_
 all_goals try first | omega
 refine hK1 _ _ _ ?_; clear hK1
 refine AW.seq fun K2 hK2 => ?_
 refine AW.regionK 0 (fun ii => if ii = 0 then some (.reads true (.agg [.int .i64 3, .rsl 1 [[.int .u64 0]]])) else if ii = 1 then some (.reads true (.agg [.int .i64 3, .rsl 1 [[.int .u64 0]]])) else if ii = 2 then some (.reads true (.agg [.int .i64 3, .rsl 1 [[.int .u64 1]]])) else none) [1] [1, 13] ?_
 simp only [go_sem, reduceIte, reduceCtorEq, zA, zM, zE, zL, zD, zS, zP, zB, zI, zR]
 repeat with_reducible refine cj ?_ ?_
 all_goals try first | (first | exact hr0 | exact hr1) | omega | exact ent (by kernel_rfl)
 refine hK2 _ _ _ ?_; clear hK2
 refine AW.frzCellK [13] 5 1 0 0 ?_
 simp only [go_sem, reduceIte, zE]
 refine ⟨rfl, by decide, by decide, by decide, ?_⟩
 refine AW.keep [1] [1] ?_
 simp only [go_sem, reduceIte, zE]
 refine AW.seq fun K3 hK3 => ?_
 refine AW.regionK 0 (fun ii => if ii = 1 then some (.reads false (.tup [.rsl 1 [[.int .i64 1], [.int .i64 2], [.int .i64 0]], .int .i64 0])) else none) [1, 2, 3] [1, 13] ?_
 simp only [go_sem, reduceIte, reduceCtorEq, zA, zM, zE, zL, zD, zS, zP, zB, zI, zR]
 repeat with_reducible refine cj ?_ ?_
 all_goals try first | (exact h1) | omega | exact ent (by kernel_rfl)
 refine hK3 _ _ _ ?_; clear hK3
 refine AW.seq fun K4 hK4 => ?_
 refine AW.regionK 0 (fun ii => if ii = 1 then some (.reads false (.tup [.int .i64 3, .int .i64 0])) else none) [1, 2, 3, 4, 5] [1, 13] ?_
 simp only [go_sem, reduceIte, reduceCtorEq, zA, zM, zE, zL, zD, zS, zP, zB, zI, zR]
 repeat with_reducible refine cj ?_ ?_
 all_goals try first | (exact h2) | omega | exact ent (by kernel_rfl)
 refine hK4 _ _ _ ?_; clear hK4
 refine AW.seq fun K5 hK5 => ?_
 refine AW.regionK 0 (fun ii => if ii = 2 then some (.reads true (.tup [.rsl 1 [[.int .i64 2], [.int .i64 0], [.int .i64 1]], .int .i64 0])) else none) [1, 2, 3, 4, 5, 6, 7] [1, 13] ?_
 simp only [go_sem, reduceIte, reduceCtorEq, zA, zM, zE, zL, zD, zS, zP, zB, zI, zR]
 repeat with_reducible refine cj ?_ ?_
 all_goals try first | (exact h3) | omega | exact ent (by kernel_rfl)
 refine hK5 _ _ _ ?_; clear hK5
 refine AW.seq fun K6 hK6 => ?_
 refine AW.regionK 0 (fun ii => if ii = 2 then some (.reads true (.tup [.int .i64 ((2 : Nat) : Int), .int .i64 0])) else none) [2, 3, 4, 5, 6, 7, 8, 9] [1] ?_
 simp only [go_sem, reduceIte, reduceCtorEq, zA, zM, zE, zL, zD, zS, zP, zB, zI, zR]
 repeat with_reducible refine cj ?_ ?_
 all_goals try first | (exact h4) | omega | exact ent (by kernel_rfl)
 refine hK6 _ _ _ ?_; clear hK6
 refine AW.seq fun K7 hK7 => ?_
 refine AW.regionK 0 (fun ii => if ii = 2 then some (.reads true (.bool true)) else if ii = 18 then some (.reads true (.bool true)) else none) [0] [1] ?_
 simp only [go_sem, reduceIte, reduceCtorEq, zA, zM, zE, zL, zD, zS, zP, zB, zI, zR]
 repeat with_reducible refine cj ?_ ?_
 all_goals try first | (first | exact h5 | exact h6 | exact fun _ => h6) | (intros; (repeat' apply And.intro) <;> first | assumption | (first | exact h5 | exact h6 | exact fun _ => h6)) | omega | exact ent (by kernel_rfl) | (intro hgd; exact absurd hgd (by decide)) | rfl | (simp only [go_sem, reduceIte, reduceCtorEq, zA, zM, zE, zL, zD, zS, zP, zB, zI, zR]; done) | (intro _hgd; simp_all [go_sem]; done)
 refine hK7 _ _ _ ?_; clear hK7
 refine AW.ret ?_
 rw [← hQr]
 simp only [go_sem, reduceIte, reduceCtorEq, zA, zM, zE, zL, zD, zS, zP, zB, zI, zR]
 exact Wk.of_eq (by simp)
end Go.Proofs.X

namespace Go.Proofs.X
open Go.AM Go
set_option maxRecDepth 100000
set_option maxHeartbeats 4000000
end Go.Proofs.X

/- The reference's way to count: from an ideal upwards, with the ways to each one. -/
namespace Go.AM
structure RStE where
  nx : List (List Bool)
  sm : List Int
  bg : Bool
def capM (v : Int) : Int := if 1125899906842624 < v then 1125899906842625 else v
def rNew (st : RStE) (y : List Bool) : RStE := if y ∈ st.nx then st else ⟨st.nx ++ [y], st.sm ++ [0], st.bg⟩
def rPut (st : RStE) (a : Nat) (w : Int) : RStE := ⟨st.nx, st.sm.set a (capM (st.sm.getD a 0 + w)), st.bg || decide (1125899906842624 < st.sm.getD a 0 + w)⟩
def rAdd (w : Int) (st : RStE) (y : List Bool) : RStE := rPut (rNew st y) ((rNew st y).nx.idxOf y) w
def rS (bel : List (List Int)) (S : List Bool) (w : Int) (m : Nat) (st : RStE) : RStE := fr (yaq bel S) (fun st x => rAdd w st (S.set x true)) m st
def yb5 (bel : List (List Int)) (n : Nat) (L : List (List Bool × Int)) (st : RStE) : RStE := L.foldl (fun st p => rS bel p.1 p.2 n st) st
def rIt (bel : List (List Int)) (n : Nat) (D : List Bool) : Nat → RStE
  | 0 => ⟨[D], [1], false⟩
  | j + 1 => yb5 bel n ((rIt bel n D j).nx.zip (rIt bel n D j).sm) ⟨[], [], (rIt bel n D j).bg⟩
structure ROk (st : RStE) : Prop where
  len : st.nx.length = st.sm.length
  rng : ∀ v ∈ st.sm, 0 ≤ v ∧ v ≤ 1125899906842625
  cap : st.bg = false → ∀ v ∈ st.sm, v ≤ 1125899906842624
theorem yod (st : RStE) (y : List Bool) : (rNew st y).nx = addS st.nx y := by
  unfold rNew addS; split <;> rfl
theorem yrk (w : Int) (st : RStE) (y : List Bool) : (rAdd w st y).nx = addS st.nx y := yod st y
theorem yr4 (bel : List (List Int)) (S : List Bool) (w : Int) : ∀ (m : Nat) (st : RStE), (rS bel S w m st).nx = accS bel S m st.nx
  | 0, _ => rfl
  | m + 1, st => by
    have ih := yr4 bel S w m st
    unfold rS accS at *
    cases h : yaq bel S m with
    | true => rw [yck _ h, yck _ h, yrk, ih]
    | false => rw [ycl _ h, ycl _ h, ih]
theorem yl6 (bel : List (List Int)) (n : Nat) : ∀ (lv : List (List Bool)) (ws : List Int) (st : RStE), lv.length = ws.length → (yb5 bel n (lv.zip ws) st).nx = lv.foldl (fun lv S => accS bel S n lv) st.nx
  | [], ws, st, _ => by simp [yb5]
  | S :: lv, [], st, h => by simp at h
  | S :: lv, w :: ws, st, h => by
    unfold yb5
    rw [List.zip_cons_cons, List.foldl_cons, List.foldl_cons]
    have := yl6 bel n lv ws (rS bel S w n st) (by simpa using h)
    unfold yb5 at this
    rw [this, yr4]
theorem ROk.new {st : RStE} (h : ROk st) (y : List Bool) : ROk (rNew st y) := by
  unfold rNew
  split
  · exact h
  · refine ⟨by simp [h.len], fun v hv => ?_, fun hb v hv => ?_⟩
    · rcases List.mem_append.1 hv with e | e
      · exact h.rng v e
      · rw [List.mem_singleton.1 e]; exact ⟨by decide, by decide⟩
    · rcases List.mem_append.1 hv with e | e
      · exact h.cap hb v e
      · rw [List.mem_singleton.1 e]; decide
theorem ROk.getD {st : RStE} (h : ROk st) (a : Nat) : 0 ≤ st.sm.getD a 0 ∧ st.sm.getD a 0 ≤ 1125899906842625 := by
  by_cases ha : a < st.sm.length
  · rw [List.getD_eq_getElem?_getD, List.getElem?_eq_getElem ha]
    exact h.rng _ (List.getElem_mem ha)
  · rw [List.getD_eq_getElem?_getD, List.getElem?_eq_none (by omega)]
    exact ⟨by decide, by decide⟩
theorem ROk.put {st : RStE} (h : ROk st) (a : Nat) {w : Int} (hw : 0 ≤ w) : ROk (rPut st a w) := by
  refine ⟨by simp [rPut, h.len], fun v hv => ?_, fun hb v hv => ?_⟩
  · rcases List.mem_or_eq_of_mem_set hv with e | e
    · exact h.rng v e
    · have := h.getD a
      rw [e]; unfold capM; split <;> omega
  · simp only [rPut, Bool.or_eq_false_iff, decide_eq_false_iff_not] at hb
    rcases List.mem_or_eq_of_mem_set hv with e | e
    · exact h.cap hb.1 v e
    · rw [e]; unfold capM; rw [if_neg hb.2]; omega
theorem ROk.add {st : RStE} (h : ROk st) (y : List Bool) {w : Int} (hw : 0 ≤ w) : ROk (rAdd w st y) := (h.new y).put _ hw
theorem ROk.s {bel : List (List Int)} {S : List Bool} {w : Int} (hw : 0 ≤ w) : ∀ (m : Nat) {st : RStE}, ROk st → ROk (rS bel S w m st)
  | 0, _, h => h
  | m + 1, st, h => by
    have ih := ROk.s (bel := bel) (S := S) hw m h
    unfold rS at *
    cases hf : yaq bel S m with
    | true => rw [yck _ hf]; exact ih.add _ hw
    | false => rw [ycl _ hf]; exact ih
theorem ROk.fold {bel : List (List Int)} {n : Nat} : ∀ {L : List (List Bool × Int)} {st : RStE}, (∀ p ∈ L, 0 ≤ p.2) → ROk st → ROk (yb5 bel n L st)
  | [], _, _, h => h
  | p :: L, st, hL, h => by
    have := ROk.fold (bel := bel) (n := n) (L := L) (fun q hq => hL q (List.mem_cons_of_mem _ hq)) (h.s (bel := bel) (S := p.1) (hL p List.mem_cons_self) n)
    exact this
theorem yiu (bel : List (List Int)) (n : Nat) (D : List Bool) : ∀ j, ROk (rIt bel n D j)
  | 0 => ⟨rfl, fun v hv => by rw [List.mem_singleton.1 hv]; exact ⟨by decide, by decide⟩, fun _ v hv => by rw [List.mem_singleton.1 hv]; decide⟩
  | j + 1 => by
    have ih := yiu bel n D j
    refine ROk.fold (fun p hp => ?_) ⟨rfl, fun v hv => (by cases hv), fun _ v hv => (by cases hv)⟩
    have h2 := (List.of_mem_zip (show (p.1, p.2) ∈ _ from hp)).2
    exact (ih.rng p.2 h2).1
def ydh (bel : List (List Int)) (n : Nat) (D : List Bool) : Nat → List (List Bool)
  | 0 => [D]
  | j + 1 => ybt bel n (ydh bel n D j)
theorem yka (bel : List (List Int)) (n : Nat) (D : List Bool) : ∀ j, (rIt bel n D j).nx = ydh bel n D j
  | 0 => rfl
  | j + 1 => by
    have ih := yka bel n D j
    have h := yl6 bel n (rIt bel n D j).nx (rIt bel n D j).sm ⟨[], [], (rIt bel n D j).bg⟩ (yiu bel n D j).len
    show (yb5 bel n ((rIt bel n D j).nx.zip (rIt bel n D j).sm) ⟨[], [], (rIt bel n D j).bg⟩).nx = _
    rw [h, ih]; rfl
def cntF (bel : List (List Int)) (n : Nat) (D : List Bool) : Nat → Nat
  | 0 => 1
  | j + 1 => cntF bel n D j + (ydh bel n D (j + 1)).length
theorem ykb (bel : List (List Int)) (n : Nat) (D : List Bool) (i : Nat) : ∀ j, i ≤ j → cntF bel n D i ≤ cntF bel n D j
  | 0, h => by rw [Nat.le_zero.1 h]; exact Nat.le_refl _
  | j + 1, h => by
    rcases Nat.eq_or_lt_of_le h with e | e
    · rw [e]; exact Nat.le_refl _
    · have := ykb bel n D i j (by omega)
      show _ ≤ cntF bel n D j + _
      omega
theorem yno (bel : List (List Int)) (n : Nat) (D : List Bool) (j : Nat) : (ydh bel n D j).length ≤ cntF bel n D j := by
  cases j with
  | zero => simp [ydh, cntF]
  | succ j => show _ ≤ cntF bel n D j + _; omega
theorem yc6 {bel : List (List Int)} {n : Nat} {D : List Bool} (hD : D.length = n) : ∀ {j : Nat} {S : List Bool}, S ∈ ydh bel n D j → S.length = n
  | 0, S, h => by rw [List.mem_singleton.1 h]; exact hD
  | j + 1, S, h => by
    obtain ⟨S', h1, x, _, _, rfl⟩ := mem_nextL.1 h
    rw [List.length_set]; exact yc6 hD h1
theorem yf9 {bel : List (List Int)} {n : Nat} {D : List Bool} (hD : D.length = n) : ∀ {j : Nat} {S : List Bool}, S ∈ ydh bel n D j → cntT S = cntT D + j
  | 0, S, h => by rw [List.mem_singleton.1 h]; rfl
  | j + 1, S, h => by
    obtain ⟨S', h1, x, hx, hf, rfl⟩ := mem_nextL.1 h
    rw [ydp (by rw [yc6 hD h1]; exact hx) (ybw hf), yf9 hD h1]; omega
/-! ### What the sums say. -/
def pot (f : List Bool → Int) (nx : List (List Bool)) (sm : List Int) : Int := ((nx.zip sm).map fun p => p.2 * f p.1).sum
def qSum (f : List Bool → Int) (Q : List (List Bool × Int)) : Int := (Q.map fun q => q.2 * f q.1).sum
theorem pot_snoc (f : List Bool → Int) {nx : List (List Bool)} {sm : List Int} (h : nx.length = sm.length) (y : List Bool) (v : Int) : pot f (nx ++ [y]) (sm ++ [v]) = pot f nx sm + v * f y := by
  unfold pot; rw [List.zip_append h]; simp
theorem yrl (f : List Bool → Int) : ∀ (nx : List (List Bool)) (sm : List Int) (a : Nat) (v : Int), nx.length = sm.length → a < nx.length → pot f nx (sm.set a v) = pot f nx sm + (v - sm.getD a 0) * f (nx.getD a [])
  | [], _, a, _, _, h => by simp at h
  | y :: nx, [], _, _, h, _ => by simp at h
  | y :: nx, s :: sm, 0, v, h, _ => by
    simp only [pot, List.set_cons_zero, List.zip_cons_cons, List.map_cons, List.sum_cons, List.getD_cons_zero, Int.sub_mul]
    omega
  | y :: nx, s :: sm, a + 1, v, h, ha => by
    have ih := yrl f nx sm a v (by simpa using h) (by simpa using ha)
    simp only [pot, List.set_cons_succ, List.zip_cons_cons, List.map_cons, List.sum_cons, List.getD_cons_succ] at *
    omega
theorem yrm (f : List Bool → Int) : ∀ (nx : List (List Bool)) (sm : List Int) (a : Nat), nx.length = sm.length → a < nx.length → (∀ v ∈ sm, 0 ≤ v) → (∀ y ∈ nx, 1 ≤ f y) → sm.getD a 0 * f (nx.getD a []) ≤ pot f nx sm ∧ 0 ≤ pot f nx sm
  | [], _, a, _, h, _, _ => by simp at h
  | y :: nx, [], _, h, _, _, _ => by simp at h
  | y :: nx, s :: sm, a, h, ha, hv, hf => by
    have h0 : 0 ≤ pot f nx sm := by
      cases nx with
      | nil => simp [pot]
      | cons z nx => exact (yrm f (z :: nx) sm 0 (by simpa using h) (by simp) (fun v h => hv v (List.mem_cons_of_mem _ h)) (fun y h => hf y (List.mem_cons_of_mem _ h))).2
    have h1 : 0 ≤ s * f y := Int.mul_nonneg (hv s List.mem_cons_self) (by have := hf y List.mem_cons_self; omega)
    have h2 : pot f (y :: nx) (s :: sm) = s * f y + pot f nx sm := by simp [pot]
    rw [h2]
    cases a with
    | zero => exact ⟨by simp only [List.getD_cons_zero]; omega, by omega⟩
    | succ a =>
      have ih := yrm f nx sm a (by simpa using h) (by simpa using ha) (fun v h => hv v (List.mem_cons_of_mem _ h)) (fun y h => hf y (List.mem_cons_of_mem _ h))
      exact ⟨by simp only [List.getD_cons_succ]; omega, by omega⟩
theorem yrn {w : Int} {st : RStE} {y : List Bool} (h : st.bg = true) : (rAdd w st y).bg = true := by
  have : (rNew st y).bg = true := by unfold rNew; split <;> exact h
  simp [rAdd, rPut, this]
theorem rAdd_pot (f : List Bool → Int) {w : Int} {st : RStE} {y : List Bool} (h : ROk st) (hw : 0 ≤ w) (hf : ∀ z ∈ st.nx, 1 ≤ f z) (hy : 1 ≤ f y) (hb : st.bg = false) :
    ((rAdd w st y).bg = false → pot f (rAdd w st y).nx (rAdd w st y).sm = pot f st.nx st.sm + w * f y) ∧ ((rAdd w st y).bg = true → 1125899906842624 < pot f st.nx st.sm + w * f y) := by
  have hN := h.new y
  have hmem : y ∈ (rNew st y).nx := by rw [yod]; exact mem_addS.2 (.inr rfl)
  have hidx : (rNew st y).nx.idxOf y < (rNew st y).nx.length := List.idxOf_lt_length_of_mem hmem
  have hget : (rNew st y).nx.getD ((rNew st y).nx.idxOf y) [] = y := by
    rw [List.getD_eq_getElem?_getD, List.getElem?_eq_getElem hidx, Option.getD_some]
    exact List.getElem_idxOf hidx
  have hpot : pot f (rNew st y).nx (rNew st y).sm = pot f st.nx st.sm := by
    unfold rNew
    split
    · rfl
    · rw [pot_snoc f h.len]; simp
  have hfN : ∀ z ∈ (rNew st y).nx, 1 ≤ f z := fun z hz => by
    rw [yod] at hz
    rcases mem_addS.1 hz with e | e
    · exact hf z e
    · exact e ▸ hy
  have hbN : (rNew st y).bg = false := by unfold rNew; split <;> exact hb
  have hge := yrm f _ _ _ hN.len hidx (fun v hv => (hN.rng v hv).1) hfN
  have hset := yrl f _ _ _ (capM ((rNew st y).sm.getD ((rNew st y).nx.idxOf y) 0 + w)) hN.len hidx
  rw [hget] at hge hset
  rw [hpot] at hge hset
  have hr := hN.getD ((rNew st y).nx.idxOf y)
  unfold rAdd rPut
  simp only [hbN, Bool.false_or, decide_eq_false_iff_not, decide_eq_true_eq]
  generalize (rNew st y).sm.getD ((rNew st y).nx.idxOf y) 0 = s at *
  constructor
  · intro hc
    have : capM (s + w) = s + w := by unfold capM; rw [if_neg hc]
    rw [hset, this, show s + w - s = w by omega]
  · intro hc
    have h1 : s * f y + w * f y = (s + w) * f y := (Int.add_mul _ _ _).symm
    have h2 : s + w ≤ (s + w) * f y := by
      have := Int.mul_le_mul_of_nonneg_left hy (show 0 ≤ s + w by omega)
      rwa [Int.mul_one] at this
    omega
/-- A list of additions. -/
theorem yp1 (f : List Bool → Int) : ∀ (Q : List (List Bool × Int)) (st : RStE), ROk st → (∀ q ∈ Q, 0 ≤ q.2 ∧ 1 ≤ f q.1) → (∀ z ∈ st.nx, 1 ≤ f z) → st.bg = false →
    ((Q.foldl (fun st q => rAdd q.2 st q.1) st).bg = false → pot f (Q.foldl (fun st q => rAdd q.2 st q.1) st).nx (Q.foldl (fun st q => rAdd q.2 st q.1) st).sm = pot f st.nx st.sm + qSum f Q) ∧
    ((Q.foldl (fun st q => rAdd q.2 st q.1) st).bg = true → 1125899906842624 < pot f st.nx st.sm + qSum f Q)
  | [], st, h, _, _, hb => ⟨fun _ => by simp [qSum], fun h => by rw [List.foldl_nil, hb] at h; cases h⟩
  | q :: Q, st, h, hQ, hf, hb => by
    have hq := hQ q List.mem_cons_self
    have h1 := rAdd_pot f (y := q.1) h hq.1 hf hq.2 hb
    have hs : qSum f (q :: Q) = q.2 * f q.1 + qSum f Q := by simp [qSum]
    have hQ0 : 0 ≤ qSum f Q := by
      have : ∀ (Q : List (List Bool × Int)), (∀ q ∈ Q, 0 ≤ q.2 ∧ 1 ≤ f q.1) → 0 ≤ qSum f Q := by
        intro Q
        induction Q with
        | nil => intro _; simp [qSum]
        | cons q Q ih =>
          intro h
          have h1 := h q List.mem_cons_self
          have h2 := ih fun q hq => h q (List.mem_cons_of_mem _ hq)
          have h3 : 0 ≤ q.2 * f q.1 := Int.mul_nonneg h1.1 (by omega)
          have : qSum f (q :: Q) = q.2 * f q.1 + qSum f Q := by simp [qSum]
          omega
      exact this Q fun q hq => hQ q (List.mem_cons_of_mem _ hq)
    rw [List.foldl_cons, hs]
    cases hc : (rAdd q.2 st q.1).bg with
    | false =>
      have h2 := yp1 f Q (rAdd q.2 st q.1) (h.add _ hq.1) (fun q hq => hQ q (List.mem_cons_of_mem _ hq)) (fun z hz => by
        rw [yrk] at hz
        rcases mem_addS.1 hz with e | e
        · exact hf z e
        · exact e ▸ hq.2) hc
      have h3 := h1.1 hc
      rw [h3] at h2
      exact ⟨fun e => by rw [h2.1 e]; omega, fun e => by have := h2.2 e; omega⟩
    | true =>
      have h3 := h1.2 hc
      have hst : ∀ (Q : List (List Bool × Int)) (st : RStE), st.bg = true → (Q.foldl (fun st q => rAdd q.2 st q.1) st).bg = true := by
        intro Q
        induction Q with
        | nil => intro st h; exact h
        | cons q Q ih => intro st h; exact ih _ (yrn h)
      exact ⟨fun e => absurd (hst Q _ hc) (by rw [e]; simp), fun _ => by omega⟩
end Go.AM

/- The reference's count is the number of ways. -/
namespace Go.AM
theorem yk3 (bel : List (List Int)) (n : Nat) {L : List (List Bool)} {W : List Int} {k : Nat} {S : List Bool} {w : Int} (h1 : L[k]? = some S) (h2 : W[k]? = some w) (st : RStE) : yb5 bel n ((L.zip W).take (k + 1)) st = rS bel S w n (yb5 bel n ((L.zip W).take k) st) := by
  unfold yb5
  have : (L.zip W)[k]? = some (S, w) := by rw [List.getElem?_zip_eq_some]; exact ⟨h1, h2⟩
  rw [List.take_add_one, this]
  simp
theorem ykc (bel : List (List Int)) (S : List Bool) (lv : List (List Bool)) (i : Nat) : ∀ j, i ≤ j → (accS bel S i lv).length ≤ (accS bel S j lv).length
  | 0, h => by rw [Nat.le_zero.1 h]; exact Nat.le_refl _
  | j + 1, h => by
    rcases Nat.eq_or_lt_of_le h with e | e
    · rw [e]; exact Nat.le_refl _
    · have ih := ykc bel S lv i j (by omega)
      refine Nat.le_trans ih ?_
      unfold accS
      cases hf : yaq bel S j with
      | true => rw [yck _ hf]; exact (ypp _ _).1
      | false => rw [ycl _ hf]; exact Nat.le_refl _
theorem yk4 (bel : List (List Int)) (n : Nat) {L : List (List Bool)} {W : List Int} (h : L.length = W.length) (k : Nat) (b : Bool) : (yb5 bel n ((L.zip W).take k) ⟨[], [], b⟩).nx = ybt bel n (L.take k) := by
  rw [show (L.zip W).take k = (L.take k).zip (W.take k) by simp [List.zip, List.take_zipWith]]
  exact yl6 bel n (L.take k) (W.take k) ⟨[], [], b⟩ (by simp [h])
theorem ROk.empty (b : Bool) : ROk ⟨[], [], b⟩ := ⟨rfl, fun v hv => (by cases hv), fun _ v hv => (by cases hv)⟩
theorem ROk.ftake {bel : List (List Int)} {n : Nat} {st : RStE} (h : ROk st) (k : Nat) (b : Bool) : ROk (yb5 bel n ((st.nx.zip st.sm).take k) ⟨[], [], b⟩) :=
  ROk.fold (fun p hp => (h.rng p.2 (List.of_mem_zip (show (p.1, p.2) ∈ _ from List.mem_of_mem_take hp)).2).1) (ROk.empty b)
def OkB (bel : List (List Int)) (n : Nat) (D : List Bool) (j : Nat) (st : RStE) : Prop := cntF bel n D j + st.nx.length ≤ 5000
theorem yl7 {Y : List Bool} : ∀ (l : List (List Bool)) (q : Nat), Y ∉ l.take q → l[q]? = some Y → l.idxOf Y = q
  | [], q, _, h => by simp at h
  | x :: l, 0, _, h => by
    have : x = Y := by simpa using h
    subst this
    simp
  | x :: l, q + 1, h1, h2 => by
    rw [List.take_succ_cons, List.mem_cons] at h1
    have hne : x ≠ Y := fun e => h1 (.inl e.symm)
    have ih := yl7 l q (fun h => h1 (.inr h)) (by simpa using h2)
    have e : (x == Y) = false := beq_false_of_ne hne
    rw [List.idxOf_cons, e, ih]
    rfl
theorem yl8 {P : RStE} {Y : List Bool} (h : Y ∉ P.nx) : rNew P Y = ⟨P.nx ++ [Y], P.sm ++ [0], P.bg⟩ := if_neg h
theorem yoe {P : RStE} {Y : List Bool} (h : Y ∈ P.nx) : rNew P Y = P := if_pos h
theorem yp2 {P : RStE} {Y : List Bool} {q : Nat} (h : Y ∉ P.nx.take q) (hq : q ≤ P.nx.length) (hb : ¬ q < P.nx.length ∨ P.nx[q]? = some Y) : (rNew P Y).nx.idxOf Y = q ∧ q < (rNew P Y).nx.length ∧ (q ≠ P.nx.length → Y ∈ P.nx) := by
  by_cases hl : q < P.nx.length
  · have hs : P.nx[q]? = some Y := hb.resolve_left (fun h => h hl)
    have hm := List.mem_of_getElem? hs
    rw [yoe hm]
    exact ⟨yl7 _ _ h hs, hl, fun _ => hm⟩
  · have hq2 : q = P.nx.length := by omega
    have hn : Y ∉ P.nx := by rwa [hq2, List.take_of_length_le (Nat.le_refl _)] at h
    rw [yl8 hn]
    refine ⟨yl7 _ _ ?_ ?_, by simp [hq2], fun e => absurd hq2 e⟩
    · rw [hq2, List.take_left]; exact hn
    · simp [hq2]
def qOf (bel : List (List Int)) (n : Nat) (L : List (List Bool × Int)) : List (List Bool × Int) := L.flatMap fun p => ((List.range n).filter (yaq bel p.1)).map fun x => (p.1.set x true, p.2)
theorem rS_q (bel : List (List Int)) (n : Nat) (S : List Bool) (w : Int) (st : RStE) : rS bel S w n st = (((List.range n).filter (yaq bel S)).map fun x => (S.set x true, w)).foldl (fun st q => rAdd q.2 st q.1) st := by
  unfold rS fr; rw [List.foldl_map]
theorem yro (bel : List (List Int)) (n : Nat) : ∀ (L : List (List Bool × Int)) (st : RStE), yb5 bel n L st = (qOf bel n L).foldl (fun st q => rAdd q.2 st q.1) st
  | [], _ => rfl
  | p :: L, st => by
    have ih := yro bel n L (rS bel p.1 p.2 n st)
    show yb5 bel n L (rS bel p.1 p.2 n st) = _
    rw [ih, rS_q]
    unfold qOf
    rw [List.flatMap_cons, List.foldl_append]
theorem yrp (f : Nat → Nat) (p : Nat → Bool) (w : Int) : ∀ m, (((List.range m).filter p).map fun x => w * (f x : Int)).sum = w * (sumF p f m : Int)
  | 0 => by simp [yj6]
  | m + 1 => by
    have ih := yrp f p w m
    rw [List.range_succ, List.filter_append, List.map_append, List.sum_append, ih]
    cases h : p m with
    | true => rw [yb2 f h]; simp [h, Int.mul_add]
    | false => rw [yel f h]; simp [h]
theorem yrq (bel : List (List Int)) (n q : Nat) : ∀ (L : List (List Bool × Int)), qSum (fun y => (cE bel n q y : Int)) (qOf bel n L) = (L.map fun p => p.2 * (cE bel n (q + 1) p.1 : Int)).sum
  | [] => rfl
  | p :: L => by
    have ih := yrq bel n q L
    unfold qSum qOf at *
    rw [List.flatMap_cons, List.map_append, List.sum_append, ih, List.map_cons, List.sum_cons, List.map_map]
    congr 1
    exact yrp (fun x => cE bel n q (p.1.set x true)) (yaq bel p.1) p.2 n
theorem ysp {n : Nat} {t : List (List Bool)} (hp : IsPo n t) : ∀ (q : Nat) (y : List Bool), y.length = n → cntT y + q = n → 1 ≤ cE (belL n t) n q y
  | 0, _, _, _ => Nat.le_refl _
  | q + 1, y, hy, hc => by
    obtain ⟨k, _, _, hk, hf⟩ := ypn (ypm hp hy (by omega))
    have ih := ysp hp q (y.set k true) (by rw [List.length_set]; exact hy) (by rw [ydp (by omega) (ybw hf)]; omega)
    have h1 := yb2 (p := yaq (belL n t) y) (fun x => cE (belL n t) n q (y.set x true)) hf
    have h2 := ydz (yaq (belL n t) y) (fun x => cE (belL n t) n q (y.set x true)) (k + 1) n hk
    show 1 ≤ sumF _ _ n
    omega
theorem yp3 {n : Nat} {t : List (List Bool)} (hp : IsPo n t) {D : List Bool} (hD : D.length = n) {m : Nat} (hm : cntT D + m = n) : ∀ j, j ≤ m →
    ((rIt (belL n t) n D j).bg = false → pot (fun y => (cE (belL n t) n (m - j) y : Int)) (rIt (belL n t) n D j).nx (rIt (belL n t) n D j).sm = (cE (belL n t) n m D : Int)) ∧ ((rIt (belL n t) n D j).bg = true → (1125899906842624 : Int) < (cE (belL n t) n m D : Int))
  | 0, _ => ⟨fun _ => by simp [rIt, pot], fun h => by cases h⟩
  | j + 1, hj => by
    have ih := yp3 hp hD hm j (by omega)
    have hok := yiu (belL n t) n D j
    have hnx := yka (belL n t) n D j
    have hstep : rIt (belL n t) n D (j + 1) = (qOf (belL n t) n ((rIt (belL n t) n D j).nx.zip (rIt (belL n t) n D j).sm)).foldl (fun st q => rAdd q.2 st q.1) ⟨[], [], (rIt (belL n t) n D j).bg⟩ := yro _ _ _ _
    cases hb : (rIt (belL n t) n D j).bg with
    | true =>
      have h1 := ih.2 hb
      have hst : ∀ (Q : List (List Bool × Int)) (st : RStE), st.bg = true → (Q.foldl (fun st q => rAdd q.2 st q.1) st).bg = true := by
        intro Q
        induction Q with
        | nil => intro st h; exact h
        | cons q Q ih => intro st h; exact ih _ (yrn h)
      refine ⟨fun e => ?_, fun _ => h1⟩
      rw [hstep] at e
      exact absurd (hst _ ⟨[], [], (rIt (belL n t) n D j).bg⟩ hb) (by rw [e]; simp)
    | false =>
      have h1 := ih.1 hb
      have hA := yp1 (fun y => (cE (belL n t) n (m - (j + 1)) y : Int)) (qOf (belL n t) n ((rIt (belL n t) n D j).nx.zip (rIt (belL n t) n D j).sm)) ⟨[], [], false⟩ ⟨rfl, fun v hv => (by cases hv), fun _ v hv => (by cases hv)⟩ (fun q hq => by
        obtain ⟨p, hp1, hp2⟩ := List.mem_flatMap.1 hq
        obtain ⟨x, hx, rfl⟩ := List.mem_map.1 hp2
        have hz := List.of_mem_zip (show (p.1, p.2) ∈ _ from hp1)
        have h2 := List.mem_filter.1 hx
        have h3 := List.mem_range.1 h2.1
        have hS : p.1 ∈ ydh (belL n t) n D j := hnx ▸ hz.1
        have hl := yc6 hD hS
        have hc := yf9 hD hS
        refine ⟨(hok.rng _ hz.2).1, ?_⟩
        have := ysp hp (m - (j + 1)) (p.1.set x true) (by rw [List.length_set]; exact hl) (by rw [ydp (by omega) (ybw h2.2), hc]; omega)
        show (1 : Int) ≤ ((cE (belL n t) n (m - (j + 1)) (p.1.set x true) : Nat) : Int)
        exact Int.ofNat_le.2 this) (fun z hz => by cases hz) rfl
      rw [yrq] at hA
      have h0 : pot (fun y => (cE (belL n t) n (m - (j + 1)) y : Int)) [] [] = 0 := rfl
      rw [h0, Int.zero_add] at hA
      have h4 : ((List.map (fun p => p.2 * (cE (belL n t) n (m - (j + 1) + 1) p.1 : Int)) ((rIt (belL n t) n D j).nx.zip (rIt (belL n t) n D j).sm)).sum) = (cE (belL n t) n m D : Int) := by
        rw [show m - (j + 1) + 1 = m - j by omega]; exact h1
      rw [h4] at hA
      rw [hb] at hstep
      rw [hstep]
      exact hA
theorem addS_nodup {lv : List (List Bool)} (h : lv.Nodup) (x : List Bool) : (addS lv x).Nodup := by
  unfold addS
  split
  · exact h
  · rename_i hx
    rw [List.nodup_append]
    refine ⟨h, by simp, ?_⟩
    intro a ha b hb e
    rw [List.mem_singleton.1 hb] at e
    exact hx (e ▸ ha)
theorem yk5 {bel : List (List Int)} {S : List Bool} : ∀ (m : Nat) {lv : List (List Bool)}, lv.Nodup → (accS bel S m lv).Nodup
  | 0, _, h => h
  | m + 1, lv, h => by
    have ih := yk5 (bel := bel) (S := S) m h
    unfold accS at *
    cases hf : yaq bel S m with
    | true => rw [yck _ hf]; exact addS_nodup ih _
    | false => rw [ycl _ hf]; exact ih
theorem nextL_nodup (bel : List (List Int)) (n : Nat) (prev : List (List Bool)) : (ybt bel n prev).Nodup := by
  have : ∀ (prev lv : List (List Bool)), lv.Nodup → (prev.foldl (fun lv S => accS bel S n lv) lv).Nodup := by
    intro prev
    induction prev with
    | nil => intro lv h; exact h
    | cons S prev ih => intro lv h; exact ih _ (yk5 n h)
  exact this prev [] (by simp)
theorem yiv (bel : List (List Int)) (n : Nat) (D : List Bool) (j : Nat) : (ydh bel n D j).Nodup := by
  cases j with
  | zero => simp [ydh]
  | succ j => exact nextL_nodup bel n _
theorem ynp {α : Type} [BEq α] [LawfulBEq α] : ∀ {l m : List α}, l.Nodup → (∀ x ∈ l, x ∈ m) → l.length ≤ m.length
  | [], _, _, _ => Nat.zero_le _
  | x :: l, m, h, hs => by
    obtain ⟨h1, h2⟩ := List.nodup_cons.1 h
    have hx := hs x List.mem_cons_self
    have := ynp (l := l) (m := m.erase x) h2 fun y hy => by
      have hne : y ≠ x := fun e => h1 (by rw [← e]; exact hy)
      rw [List.mem_erase_of_ne hne]
      exact hs y (List.mem_cons_of_mem _ hy)
    rw [List.length_erase_of_mem hx] at this
    have := List.length_pos_of_mem hx
    simp only [List.length_cons]; omega
theorem yk6 {bel : List (List Int)} {n c : Nat} {D : List Bool} (hD : D ∈ lvAt bel n c) : ∀ {j : Nat} {S : List Bool}, S ∈ ydh bel n D j → S ∈ lvAt bel n (c + j)
  | 0, S, h => by rw [List.mem_singleton.1 h]; exact hD
  | j + 1, S, h => by
    obtain ⟨S', h1, x, hx, hf, rfl⟩ := mem_nextL.1 h
    exact yfs (yk6 hD h1) hx hf
theorem yrr {bel : List (List Int)} {n c : Nat} {D : List Bool} (hD : D ∈ lvAt bel n c) : ∀ j, cntF bel n D j ≤ cntL bel n (c + j)
  | 0 => by
    have := ylz bel n c
    have := List.length_pos_of_mem hD
    show 1 ≤ cntL bel n c
    omega
  | j + 1 => by
    have ih := yrr hD j
    have := ynp (yiv bel n D (j + 1)) (m := lvAt bel n (c + (j + 1))) fun S hS => yk6 hD hS
    show cntF bel n D j + _ ≤ cntL bel n (c + j) + (lvAt bel n (c + j + 1)).length
    rw [show c + j + 1 = c + (j + 1) by omega]
    omega
theorem ykd (bel : List (List Int)) (n : Nat) : ∀ j, ydh bel n (List.replicate n false) j = lvAt bel n j
  | 0 => rfl
  | j + 1 => by show ybt bel n _ = ybt bel n _; rw [ykd bel n j]
theorem ynq (bel : List (List Int)) (n : Nat) : ∀ j, cntF bel n (List.replicate n false) j = cntL bel n j
  | 0 => rfl
  | j + 1 => by show cntF bel n _ j + _ = cntL bel n j + _; rw [ynq bel n j, ykd]
theorem ynr {n : Nat} {t : List (List Bool)} (hp : IsPo n t) {D : List Bool} (hD : D.length = n) {m : Nat} (hm : cntT D + m = n) : ∀ j, j ≤ m → ∃ S, S ∈ ydh (belL n t) n D j
  | 0, _ => ⟨D, List.mem_singleton.2 rfl⟩
  | j + 1, hj => by
    obtain ⟨S, hS⟩ := ynr hp hD hm j (by omega)
    have h1 := yc6 hD hS
    have h2 := yf9 hD hS
    obtain ⟨k, _, _, hk, hf⟩ := ypn (ypm hp h1 (by omega))
    exact ⟨S.set k true, mem_nextL.2 ⟨S, hS, k, hk, hf, rfl⟩⟩
theorem lvFrom_last {n : Nat} {t : List (List Bool)} (hp : IsPo n t) {D : List Bool} (hD : D.length = n) {m : Nat} (hm : cntT D + m = n) : ydh (belL n t) n D m = [List.replicate n true] := by
  have hall : ∀ S ∈ ydh (belL n t) n D m, S = List.replicate n true := fun S hS => by
    have h1 := yc6 hD hS
    have h2 := yf9 hD hS
    have := yl3 (d := S) (by omega)
    rw [h1] at this; exact this
  obtain ⟨S, hS⟩ := ynr hp hD hm m (Nat.le_refl _)
  have hn := yiv (belL n t) n D m
  match hl : ydh (belL n t) n D m with
  | [] => rw [hl] at hS; cases hS
  | [x] => rw [hl] at hall; rw [hall x (by simp)]
  | x :: y :: r =>
    rw [hl] at hall hn
    have h1 := hall x (by simp)
    have h2 := hall y (by simp)
    rw [h1, h2] at hn
    simp at hn
/-- The sums at the end. -/
theorem rest_val {n : Nat} {t : List (List Bool)} (hp : IsPo n t) {D : List Bool} (hD : D.length = n) {m : Nat} (hm : cntT D + m = n) : ((rIt (belL n t) n D m).bg = false → (rIt (belL n t) n D m).sm.getD 0 0 = (cE (belL n t) n m D : Int)) ∧ (rIt (belL n t) n D m).sm.length = 1 ∧ ((rIt (belL n t) n D m).bg = true ↔ (1125899906842624 : Int) < (cE (belL n t) n m D : Int)) := by
  have hs := yp3 hp hD hm m (Nat.le_refl _)
  have hok := yiu (belL n t) n D m
  have hnx := yka (belL n t) n D m
  rw [lvFrom_last hp hD hm] at hnx
  have hl : (rIt (belL n t) n D m).sm.length = 1 := by rw [← hok.len, hnx]; rfl
  have hval : (rIt (belL n t) n D m).bg = false → (rIt (belL n t) n D m).sm.getD 0 0 = (cE (belL n t) n m D : Int) := fun hb => by
    have h1 := hs.1 hb
    rw [hnx, Nat.sub_self] at h1
    match hsm : (rIt (belL n t) n D m).sm, hl with
    | [v], _ => rw [hsm] at h1; simp [pot, cE] at h1; simpa using h1
  refine ⟨hval, hl, hs.2, fun hc => ?_⟩
  cases hb : (rIt (belL n t) n D m).bg with
  | true => rfl
  | false =>
    have h2 := hval hb
    match hsm : (rIt (belL n t) n D m).sm, hl with
    | [v], _ =>
      rw [hsm] at h2
      have h3 := hok.cap hb v (by rw [hsm]; simp)
      have h4 : v = (cE (belL n t) n m D : Int) := by simpa using h2
      omega
end Go.AM

