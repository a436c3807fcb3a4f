/- Lemmas and contracts, part 5: an abstract machine over the model, and the functions that the statement reaches. -/
import Derived.Test.YtljcffhjpcdpeaaDoorExtensionSzpilrajnP4
import Derived.Carry
import Derived.RowKit
import Derived.OpenShut
set_option linter.unusedVariables false
set_option linter.unusedSimpArgs false
open Nat renaming reduceAdd → zA, reduceMul → zM, reduceEqDiff → zE, reduceLT → zL, reduceLeDiff → zD, reduceSub → zS, reducePow → zP, reduceBEq → zB
open Int renaming reduceToNat → zI
open List renaming reduceReplicate → zR
namespace Go.Proofs.X
open Go.AM Go
set_option maxRecDepth 100000
set_option maxHeartbeats 4000000
def allW (n : Nat) (t : List (List Bool)) : Int := mapI (waysE (belL n t) n) (.str (keyS (List.replicate n false)))
theorem counted_u (n : Nat) (t : List (List Bool)) (hs : Sq n t) (hn : n ≤ 512) (hp : poB n t = true) (hbud : cntL (belL n t) n n ≤ 5000) (hbig : allW n t ≤ 1125899906842624) :
    Upd Tryd.prog 42 [] [relB t] (fun k => .tup [.mp ⟨0, k, none⟩, .int .i64 (allW n t), .int .i64 0]) (fun k => [(0, some ⟨k, k, mapSz, waysE (belL n t) n⟩)]) := by
  have ht := table_u n t hs hn hp hbud
  have ho := open_u n t hs hn
  have hkey := Reads.flat (key_r n (belL n t) (List.replicate n false) (by simp) hn) rfl
  have hWk := downW_ok (belL n t) n (n + 1)
  have hmw := hWk.mapWf (P := Tryd.prog) keyOk9
  have hflt := hWk.flt
  unfold allW waysE at *
  unfold stO stV relB at *
  generalize downW (belL n t) n (n + 1) = E at *
  generalize belL n t = bel at *
  refine Upd.of_body (rs := [.tmp 2, .tmp 3, .tmp 4]) Tryd.func42 rfl Tryd.ntmps42 rfl (by simp) ?_
  intro k0 k hk0 hk1
  generalize hQr : retQ _ _ _ = Qr
  refine AW.seq fun K1 hK1 => ?_
  refine AW.regionK 100 (fun _ => none) [1] [101, 107] ?_
  simp only [go_sem, reduceIte, reduceCtorEq, zA, zM, zE, zL, zD, zS, zP, zB, zI, zR]
  repeat with_reducible refine cj ?_ ?_
  all_goals try first | omega
  refine hK1 _ _ _ ?_; clear hK1
  refine AW.seq fun K2 hK2 => ?_
  refine AW.regionK 100 (fun ii => if ii = 1 then some (.upd [] (fun k => [(0, some ⟨k, k, mapSz, E⟩)]) (fun k => .tup [.mp ⟨0, k, none⟩, .int .i64 0])) else none) [1, 2, 4] [101, 107] ?_
  simp only [go_sem, reduceIte, reduceCtorEq, zA, zM, zE, zL, zD, zS, zP, zB, zI, zR, hflt]
  repeat with_reducible refine cj ?_ ?_
  all_goals try first | (exact ht) | omega | exact ent (by kernel_rfl)
  refine hK2 _ _ _ ?_; clear hK2
  refine AW.seq fun K3 hK3 => ?_
  refine AW.seq fun K4 hK4 => ?_
  refine AW.regionK 100 (fun _ => none) [1, 2, 4, 11] [101, 107] ?_
  simp only [go_sem, reduceIte, reduceCtorEq, zA, zM, zE, zL, zD, zS, zP, zB, zI, zR]
  repeat with_reducible refine cj ?_ ?_
  all_goals try first | omega
  refine hK4 _ _ _ ?_; clear hK4
  refine AW.cond rfl (by simp only [go_sem, reduceIte, reduceCtorEq, zA, zM, zE, zL, zD, zS, zP, zB, zI, zR]) ?_ ?_
  · intro hb
    try simp only [hB, decide_eq_true_eq, decide_eq_false_iff_not] at hb
    exfalso; simp at hb
  · intro hb
    try simp only [hB, decide_eq_true_eq, decide_eq_false_iff_not] at hb
    refine AW.skip ?_
    refine hK3 _ _ _ ?_; clear hK3
    refine AW.seq fun K5 hK5 => ?_
    refine AW.regionK 100 (fun ii => if ii = 2 then some (.upd [] (fun k => [(0, some ⟨k, k, 3, [[.int .i64 n, .rsl 1 (lisR bel), .osl 1 (bools (List.replicate n false))]]⟩)]) (fun k => .ptr ⟨0, k, none⟩ 0 0)) else if ii = 3 then some (.reads true (.str (keyS (List.replicate n false)))) else none) [2, 3] [107] ?_
    simp only [go_sem, reduceIte, reduceCtorEq, zA, zM, zE, zL, zD, zS, zP, zB, zI, zR]
    repeat with_reducible refine cj ?_ ?_
    all_goals try first | (first | exact ho | exact hkey | exact hmw) | omega | exact ent (by kernel_rfl)
    refine hK5 _ _ _ ?_; clear hK5
    refine AW.seq fun K6 hK6 => ?_
    refine AW.seq fun K7 hK7 => ?_
    refine AW.regionK 100 (fun _ => none) [2, 3, 19] [107] ?_
    simp only [go_sem, reduceIte, reduceCtorEq, zA, zM, zE, zL, zD, zS, zP, zB, zI, zR]
    repeat with_reducible refine cj ?_ ?_
    all_goals try first | omega
    refine hK7 _ _ _ ?_; clear hK7
    refine AW.cond rfl (by simp only [go_sem, reduceIte, reduceCtorEq, zA, zM, zE, zL, zD, zS, zP, zB, zI, zR]) ?_ ?_
    · intro hb
      try simp only [hB, decide_eq_true_eq, decide_eq_false_iff_not] at hb
      exfalso; omega
    · intro hb
      try simp only [hB, decide_eq_true_eq, decide_eq_false_iff_not] at hb
      refine AW.skip ?_
      refine hK6 _ _ _ ?_; clear hK6
      refine AW.seq fun K8 hK8 => ?_
      refine AW.regionK 100 (fun _ => none) [2, 3, 4] [107] ?_
      simp only [go_sem, reduceIte, reduceCtorEq, zA, zM, zE, zL, zD, zS, zP, zB, zI, zR]
      repeat with_reducible refine cj ?_ ?_
      all_goals try first | omega
      refine hK8 _ _ _ ?_; clear hK8
      refine AW.ret ?_
      rw [← hQr]
      simp only [go_sem, reduceIte, reduceCtorEq, zA, zM, zE, zL, zD, zS, zP, zB, zI, zR]
      refine ⟨[(107, 0, true)], ?_⟩
      simp only [go_sem, reduceIte, zE, hflt]
theorem count_u (n : Nat) (t : List (List Bool)) (hs : Sq n t) (hn : n ≤ 512) (hp : poB n t = true) (hbud : cntL (belL n t) n n ≤ 5000) (hbig : allW n t ≤ 1125899906842624) : Reads Tryd.prog 13 false [relB t] (.tup [.int .i64 (allW n t), .int .i64 0]) := by
  have hc := counted_u n t hs hn hp hbud hbig
  have hflt := (downW_ok (belL n t) n (n + 1)).flt
  unfold waysE at *
  generalize allW n t = a at *
  generalize downW (belL n t) n (n + 1) = E at *
  unfold relB at *
  refine Reads.body (rs := [.tmp 2, .tmp 3]) Tryd.func13 rfl Tryd.ntmps13 rfl (by simp) ?_
  generalize hQr : retQ _ _ _ = Qr
  refine AW.seq fun K1 hK1 => ?_
  refine AW.regionK 0 (fun _ => none) [1] [1] ?_
  simp only [go_sem, reduceIte, reduceCtorEq, zA, zM, zE, zL, zD, zS, zP, zB, zI, zR]
  repeat with_reducible refine cj ?_ ?_
  all_goals try first | omega
  refine hK1 _ _ _ ?_; clear hK1
  refine AW.seq fun K2 hK2 => ?_
  refine AW.regionK 0 (fun ii => if ii = 1 then some (.upd [] (fun k => [(0, some ⟨k, k, mapSz, E⟩)]) (fun k => .tup [.mp ⟨0, k, none⟩, .int .i64 a, .int .i64 0])) else none) [5, 6] [] ?_
  simp only [go_sem, reduceIte, reduceCtorEq, zA, zM, zE, zL, zD, zS, zP, zB, zI, zR, hflt]
  repeat with_reducible refine cj ?_ ?_
  all_goals try first | (exact hc) | omega | exact ent (by kernel_rfl)
  refine hK2 _ _ _ ?_; clear hK2
  refine AW.seq fun K3 hK3 => ?_
  refine AW.regionK 0 (fun _ => none) [2, 3] [] ?_
  simp only [go_sem, reduceIte, reduceCtorEq, zA, zM, zE, zL, zD, zS, zP, zB, zI, zR]
  repeat with_reducible refine cj ?_ ?_
  all_goals try first | omega
  refine hK3 _ _ _ ?_; clear hK3
  refine AW.ret ?_
  rw [← hQr]
  simp only [go_sem, reduceIte, reduceCtorEq, zA, zM, zE, zL, zD, zS, zP, zB, zI, zR]
  exact Wk.refl _
end Go.Proofs.X

/- A region that ends in the compare of an empty slice with nil: both answers must do. -/
namespace Go.AM

theorem arun_pre {P : Program} {n base : Nat} {orc : Nat → Option Orc} {all tail : List Oper} {Q : AX → Post} {K : Post} : ∀ (rest : List Oper) (i : Nat) (e : Env) (s : Store) (k : Nat), arun P n base orc all rest i e s k K →
    ∀ x0, (∀ e s k ρ a w, K e s k → Goes x0 ⟨ρ, s, clk k, w, x0.F⟩ → St ⟨ρ, s, clk k, w, x0.F⟩ e n a → wpList P all.toArray (LiftX x0 n Q) tail a w) →
    ∀ ρ a w, Goes x0 ⟨ρ, s, clk k, w, x0.F⟩ → St ⟨ρ, s, clk k, w, x0.F⟩ e n a → wpList P all.toArray (LiftX x0 n Q) (rest ++ tail) a w
  | [], _, e, s, k, h, x0, hK, ρ, a, w, hg, hs => hK e s k ρ a w h hg hs
  | o :: rest, i, e, s, k, h, x0, hK, ρ, a, w, hg, hs => by
    have ih := arun_pre (P := P) (n := n) (base := base) (orc := orc) (all := all) (Q := Q) (tail := tail) (K := K) rest (i + 1)
    unfold arun at h
    rw [List.cons_append]
    split at h
    · exact h.elim
    · rename_i r hr
      split at h
      · rename_i hgd
        obtain ⟨hvc, hd, hrest⟩ := h
        unfold wpList
        rw [if_pos (by simp [Region.wanted, hgd])]
        refine .inl (step_sound (x := ⟨ρ, s, clk k, w, x0.F⟩) hs.ok hs.env hr hvc clk_fresh.1 clk_fresh.2 (B := k) (fun _ h => h) fun y u hgo hys hyc hru => ?_)
        have hgo2 := hgo.ok.goes_grow (s' := y.s) (c' := clk (k + 2)) (w' := y.w) (fun _ _ h => h) (fun g hg => by
          rcases hyc g hg with h1 | h1 | h1
          · exact Nat.lt_of_lt_of_le h1 (by omega)
          · simp [clk, h1]
          · simp [clk, h1]) (.refl _ _)
        have hall := hg.trans (hgo.trans hgo2)
        have hF : y.F = x0.F := hgo.F
        rw [← hys] at hrest
        rw [hF] at hall hgo2
        exact ih _ _ _ hrest x0 hK y.ρ _ y.w hall (put_env ((hgo.trans hgo2).le) hs hgo2.ok hd (hru.mono hgo2.le))
      · rename_i j want hgd
        split at h
        · rename_i q b hy
          split at h
          rotate_left
          · rename_i c u hu
            obtain ⟨hq, hb, hvc, hd, hrest⟩ := h
            have hyd := yielded_of hs hy hq
            unfold wpList
            rw [if_pos (by simp [Region.wanted, hgd, hyd, hb])]
            refine .inl (step_sound (x := ⟨ρ, s, clk k, w, x0.F⟩) hs.ok hs.env hr hvc clk_fresh.1 clk_fresh.2 (B := k) (fun _ h => h) fun y u' hgo hys hyc hru => ?_)
            have hgo2 := hgo.ok.goes_grow (s' := y.s) (c' := clk (k + 2)) (w' := y.w) (fun _ _ h => h) (fun g hg => by
              rcases hyc g hg with h1 | h1 | h1
              · exact Nat.lt_of_lt_of_le h1 (by omega)
              · simp [clk, h1]
              · simp [clk, h1]) (.refl _ _)
            have hall := hg.trans (hgo.trans hgo2)
            have hF : y.F = x0.F := hgo.F
            rw [hu] at hys
            rw [← hys] at hrest
            rw [hF] at hall hgo2
            exact ih _ _ _ hrest x0 hK y.ρ _ y.w hall (put_env ((hgo.trans hgo2).le) hs hgo2.ok hd (hru.mono hgo2.le))
          rename_i hu
          obtain ⟨hvc, hd, hrest⟩ := h
          unfold wpList
          by_cases hq : q ∧ b = want
          · have hyd := yielded_of hs hy hq.1
            rw [if_pos (by simp [Region.wanted, hgd, hyd, hq.2])]
            refine .inl (step_sound (x := ⟨ρ, s, clk k, w, x0.F⟩) hs.ok hs.env hr (hvc hq) clk_fresh.1 clk_fresh.2 (B := k) (fun _ h => h) fun y u' hgo hys hyc hru => ?_)
            have hgo2 := hgo.ok.goes_grow (s' := y.s) (c' := clk (k + 2)) (w' := y.w) (fun _ _ h => h) (fun g hg => by
              rcases hyc g hg with h1 | h1 | h1
              · exact Nat.lt_of_lt_of_le h1 (by omega)
              · simp [clk, h1]
              · simp [clk, h1]) (.refl _ _)
            have hall := hg.trans (hgo.trans hgo2)
            have hF : y.F = x0.F := hgo.F
            have hys : y.s = s := by rw [hu] at hys; exact hys
            rw [← hys] at hrest
            rw [hF] at hall hgo2
            exact ih _ _ _ hrest x0 hK y.ρ _ y.w hall (put_env ((hgo.trans hgo2).le) hs hgo2.ok hd (Rel.opt _ _ _ (fun _ => hru.mono hgo2.le) (fun hn => absurd hq hn)))
          · have hyd : Region.wanted o (yielded all.toArray a.tmps) = false := by
              by_cases hq1 : q
              · have := yielded_of hs hy hq1
                have hne : b ≠ want := fun e => hq ⟨hq1, e⟩
                simp [Region.wanted, hgd, this, hne]
              · have := yielded_not hs hy hq1
                simp [Region.wanted, hgd, this]
            rw [if_neg (by simp [hyd])]
            have hgo2 := hs.ok.goes_grow (s' := s) (c' := clk (k + 2)) (w' := w) (fun _ _ h => h) (fun g (hg : g < k) => show g < k + 2 by omega) (.refl _ _)
            exact ih _ _ _ hrest x0 hK ρ _ w (hg.trans hgo2) (put_env hgo2.le hs hgo2.ok hd (.opt _ _ _ (fun h => absurd h hq) (fun _ => rfl)))
        · exact h.elim

/-- A region whose last operation holds a slice of length 0 against nil. -/
theorem AW.regionNil {P : Program} {n id : Nat} {l : List Oper} {d T T2 : Nat} {x : Operand} {ty : TypeId} {pos : String} {es : Array Edge} {Q : AX → Post} {e : Env} {s : Store} {k : Nat} (base : Nat) (orc : Nat → Option Orc) (hd : d < n) (hT : (slD P T).isSome = true)
    (h : arun P n base orc (l ++ [Oper.mk (some d) (.binOp .eql T x (.const (.slice none 0 0)) T2) ty pos es none]) l 0 e s k fun e s k => (ev e x).1 ∧ (∃ sz, (ev e x).2 = .rsl sz []) ∧ ∀ b, Q .normal ((d, .bool b) :: e) s k) :
    AW P n (.region id (l ++ [Oper.mk (some d) (.binOp .eql T x (.const (.slice none 0 0)) T2) ty pos es none]).toArray false) Q e s k := by
  intro x0 ρ a w hg hs
  refine wp_region_lit (arun_pre l 0 e s k h x0 ?_ ρ a w hg hs)
  intro e s k ρ a w hK hg hs
  obtain ⟨h1, ⟨sz, h2⟩, h3⟩ := hK
  unfold wpList
  rw [if_pos (by simp [Region.wanted])]
  have hr := ev_rel hs.ok.gl hs.env x h1
  rw [h2] at hr
  have hsl : ∃ ad len cap, a.eval x = .slice ad len cap := by
    have := hr.rsl_inv
    generalize a.eval x = u at this
    cases this
    · exact ⟨_, _, _, rfl⟩
    · exact ⟨_, _, _, rfl⟩
  obtain ⟨ad, len, cap, hev⟩ := hsl
  obtain ⟨y, hy⟩ := Option.isSome_iff_exists.1 hT
  refine .inl (wp_value (w' := w) (s := do eqGuard .eql T x (.const (.slice none 0 0)) (a.eval x) (a.eval (.const (.slice none 0 0))); binOp .eql T (a.eval x) (a.eval (.const (.slice none 0 0)))) (u := .bool ad.isNone) (by simp only [execOp]) ?_ ?_)
  · rw [hev]
    have hg : (eqGuard .eql T x (.const (.slice none 0 0)) (.slice ad len cap) (.slice none 0 0)).run P w = .ok () w := by
      unfold eqGuard
      split <;> rfl
    show (do eqGuard .eql T x (.const (.slice none 0 0)) (.slice ad len cap) (.slice none 0 0); Go.binOp .eql T (.slice ad len cap) (.slice none 0 0)).run P w = _
    simp only [Sem.run_bind, hg, Result.andThen_ok, Go.binOp, run_nilCmp hy, Sem.run_pure]
  · exact ⟨ρ, _, s, k, h3 ad.isNone, hg, put_env (dst := some d) (.refl _) hs hs.ok hd (.bool _)⟩

end Go.AM

namespace Go.Proofs.X
open Go.AM Go
set_option maxRecDepth 100000
set_option maxHeartbeats 4000000
theorem clone_ne (l : List Int) (hl : l.length ≤ 100000) (hne : l ≠ []) :
    Upd Tryd.prog 51 [] [.rsl 1 (ints l)] (fun k => .sl ⟨0, k, none⟩ 0 l.length none) (fun k => [(0, some ⟨k, k, 1, ints l⟩)]) := by
  have hine : ints l ≠ [] := by cases l with | nil => exact absurd rfl hne | cons a l => simp [ints]
  refine Upd.of_body (rs := [.tmp 2]) Tryd.func51 rfl Tryd.ntmps51 rfl (by simp) ?_
  intro k0 k hk0 hk1
  generalize hQr : retQ _ _ _ = Qr
  refine AW.seq fun K1 hK1 => ?_
  refine AW.regionK 100 (fun _ => none) [0] [] ?_
  simp only [go_sem, reduceIte, reduceCtorEq, zA, zM, zE, zL, zD, zS, zP, zB, zI, zR, ints_len]
  repeat with_reducible refine cj ?_ ?_
  all_goals try first | omega
  refine hK1 _ _ _ ?_; clear hK1
  refine AW.seq fun K2 hK2 => ?_
  refine AW.seq fun K3 hK3 => ?_
  refine AW.regionK 100 (fun _ => none) [0, 4] [] ?_
  simp only [go_sem, reduceIte, reduceCtorEq, zA, zM, zE, zL, zD, zS, zP, zB, zI, zR, ints_len]
  repeat with_reducible refine cj ?_ ?_
  all_goals try first | (exact hine) | omega
  refine hK3 _ _ _ ?_; clear hK3
  refine AW.cond rfl (by simp only [go_sem, reduceIte, reduceCtorEq, zA, zM, zE, zL, zD, zS, zP, zB, zI, zR]) ?_ ?_
  · intro hb
    try simp only [hB, decide_eq_true_eq, decide_eq_false_iff_not] at hb
    exfalso; simp at hb
  · intro hb
    try simp only [hB, decide_eq_true_eq, decide_eq_false_iff_not] at hb
    refine AW.skip ?_
    refine hK2 _ _ _ ?_; clear hK2
    refine AW.seq fun K4 hK4 => ?_
    refine AW.regionK 100 (fun _ => none) [2] [107] ?_
    simp only [go_sem, reduceIte, reduceCtorEq, zA, zM, zE, zL, zD, zS, zP, zB, zI, zR, ints_len]
    repeat with_reducible refine cj ?_ ?_
    all_goals try first | omega | (simp [scP, scalar]; done) | exact scP_words _ | exact scP_ints _ | exact scP_bools _
    refine hK4 _ _ _ ?_; clear hK4
    refine AW.ret ?_
    rw [← hQr]
    simp only [go_sem, reduceIte, reduceCtorEq, zA, zM, zE, zL, zD, zS, zP, zB, zI, zR, ints_len]
    refine ⟨[(107, 0, true)], ?_⟩
    simp only [go_sem, reduceIte, zE, renC_ints]
theorem clone_nil :
    Upd Tryd.prog 51 [] [.rsl 1 []] (fun k => .sl ⟨0, k, none⟩ 0 0 none) (fun k => [(0, some ⟨k, k, 1, []⟩)]) := by
  refine Upd.of_body (rs := [.tmp 2]) Tryd.func51 rfl Tryd.ntmps51 rfl (by simp) ?_
  intro k0 k hk0 hk1
  generalize hQr : retQ _ _ _ = Qr
  refine AW.seq fun K1 hK1 => ?_
  refine AW.regionK 100 (fun _ => none) [0] [] ?_
  simp only [go_sem, reduceIte, reduceCtorEq, zA, zM, zE, zL, zD, zS, zP, zB, zI, zR]
  repeat with_reducible refine cj ?_ ?_
  all_goals try first | omega
  refine hK1 _ _ _ ?_; clear hK1
  refine AW.seq fun K2 hK2 => ?_
  refine AW.seq fun K3 hK3 => ?_
  refine AW.regionNil (l := [_]) 100 (fun _ => none) (by decide) (by rw [slD33]; rfl) ?_
  simp only [go_sem, reduceIte, zE]
  refine ⟨by decide, ⟨_, rfl⟩, fun b => ?_⟩
  try simp only [go_sem, reduceIte, reduceCtorEq, zA, zM, zE, zL, zD, zS, zP, zB, zI, zR]
  refine hK3 _ _ _ ?_; clear hK3
  refine AW.cond rfl (by simp only [go_sem, reduceIte, reduceCtorEq, zA, zM, zE, zL, zD, zS, zP, zB, zI, zR]) ?_ ?_
  · intro hb
    try simp only [hB, decide_eq_true_eq, decide_eq_false_iff_not] at hb
    refine AW.seq fun K4 hK4 => ?_
    refine AW.regionK 100 (fun _ => none) [2] [] ?_
    simp only [go_sem, reduceIte, reduceCtorEq, zA, zM, zE, zL, zD, zS, zP, zB, zI, zR]
    repeat with_reducible refine cj ?_ ?_
    all_goals try first | omega
    refine hK4 _ _ _ ?_; clear hK4
    refine AW.nilOwn 2 107 1 rfl ?_
    simp only [go_sem, reduceIte, zE]
    refine AW.ret ?_
    rw [← hQr]
    simp only [go_sem, reduceIte, reduceCtorEq, zA, zM, zE, zL, zD, zS, zP, zB, zI, zR]
    refine ⟨[(107, 0, true)], ?_⟩
    simp only [go_sem, reduceIte, zE, renC_ints]
  · intro hb
    try simp only [hB, decide_eq_true_eq, decide_eq_false_iff_not] at hb
    refine AW.skip ?_
    refine hK2 _ _ _ ?_; clear hK2
    refine AW.seq fun K5 hK5 => ?_
    refine AW.regionK 100 (fun _ => none) [2] [107] ?_
    simp only [go_sem, reduceIte, reduceCtorEq, zA, zM, zE, zL, zD, zS, zP, zB, zI, zR]
    repeat with_reducible refine cj ?_ ?_
    all_goals try first | omega | (simp [scP, scalar]; done) | exact scP_words _ | exact scP_ints _ | exact scP_bools _
    refine hK5 _ _ _ ?_; clear hK5
    refine AW.ret ?_
    rw [← hQr]
    simp only [go_sem, reduceIte, reduceCtorEq, zA, zM, zE, zL, zD, zS, zP, zB, zI, zR]
    refine ⟨[(107, 0, true)], ?_⟩
    simp only [go_sem, reduceIte, zE, renC_ints]
theorem clone_u (l : List Int) (hl : l.length ≤ 100000) :
    Upd Tryd.prog 51 [] [.rsl 1 (ints l)] (fun k => .sl ⟨0, k, none⟩ 0 l.length none) (fun k => [(0, some ⟨k, k, 1, ints l⟩)]) := by
  by_cases h : l = []
  · subst h; exact clone_nil
  · exact clone_ne l hl h
end Go.Proofs.X

/- The next extension, as the program seeks it. -/
namespace Go.AM
def dAt (n : Nat) (l : List Int) (m : Nat) : List Bool := exD (List.replicate n false) (l.take m)
theorem dAt_len (n : Nat) (l : List Int) (m : Nat) : (dAt n l m).length = n := by unfold dAt; rw [exD_len]; simp
theorem dAt_succ {n : Nat} {l : List Int} {m : Nat} (h : m < l.length) : dAt n l (m + 1) = (dAt n l m).set (l.getD m 0).toNat true := by
  unfold dAt
  rw [List.take_add_one, List.getElem?_eq_getElem h, Option.toList_some, exD_snoc]
  simp [List.getD_eq_getElem?_getD, List.getElem?_eq_getElem h]
theorem extGo_at {n : Nat} {bel : List (List Int)} {d : List Bool} {l : List Int} (h : extGo n bel d l = true) {m : Nat} (hm : m < l.length) : exOk n bel (exD d (l.take m)) (l.getD m 0) = true := by
  have h1 := extGo_app n bel (l.take m) (l.drop m) d
  rw [List.take_append_drop, h] at h1
  have h2 : extGo n bel (exD d (l.take m)) (l.drop m) = true := by
    cases e : extGo n bel (exD d (l.take m)) (l.drop m) with
    | true => rfl
    | false => rw [e] at h1; simp at h1
  rw [List.drop_eq_getElem_cons hm] at h2
  unfold extGo at h2
  simp only [Bool.and_eq_true] at h2
  have : l.getD m 0 = l[m] := by simp [List.getD_eq_getElem?_getD, List.getElem?_eq_getElem hm]
  rw [this]; exact h2.1
structure IsExt (n : Nat) (bel : List (List Int)) (l : List Int) : Prop where
  len : l.length = n
  rng : ∀ m, m < n → 0 ≤ l.getD m 0 ∧ l.getD m 0 < (n : Int)
  free : ∀ m, m < n → freeL bel (dAt n l m) (l.getD m 0).toNat = true
theorem extB_iff {n : Nat} {bel : List (List Int)} {l : List Int} : extB n bel l = true ↔ IsExt n bel l := by
  constructor
  · intro h
    unfold extB at h
    simp only [Bool.and_eq_true, decide_eq_true_eq] at h
    have key := fun m (hm : m < n) => extGo_at h.2 (m := m) (by omega)
    unfold exOk at key
    simp only [Bool.and_eq_true, decide_eq_true_eq] at key
    exact ⟨h.1, fun m hm => (key m hm).1, fun m hm => (key m hm).2⟩
  · intro h
    unfold extB
    simp only [Bool.and_eq_true, decide_eq_true_eq]
    refine ⟨h.len, ?_⟩
    have : ∀ m, m ≤ n → extGo n bel (List.replicate n false) (l.take m) = true := by
      intro m
      induction m with
      | zero => intro _; simp [extGo]
      | succ m ih =>
        intro hm
        rw [List.take_add_one, List.getElem?_eq_getElem (by rw [h.len]; omega), Option.toList_some, extGo_app, ih (by omega), Bool.true_and]
        have h1 := h.rng m (by omega)
        have h2 := h.free m (by omega)
        have e : l[m]'(by rw [h.len]; omega) = l.getD m 0 := by simp [List.getD_eq_getElem?_getD, List.getElem?_eq_getElem (show m < l.length by rw [h.len]; omega)]
        rw [e]
        unfold dAt at h2
        simp only [extGo, exOk, h1.1, h1.2, h2, decide_true, Bool.and_self]
    have := this n (Nat.le_refl _)
    rwa [List.take_of_length_le (by rw [h.len]; exact Nat.le_refl _)] at this
theorem freeL_not {bel : List (List Int)} {d : List Bool} {i : Nat} (h : freeL bel d i = true) : d.getD i false = false := by
  unfold freeL at h
  cases e : d.getD i false with
  | false => rfl
  | true => rw [e] at h; simp at h
theorem IsExt.cnt {n : Nat} {bel : List (List Int)} {l : List Int} (h : IsExt n bel l) : ∀ m, m ≤ n → cntT (dAt n l m) = m
  | 0, _ => by simp [dAt, exD, cntT_rep]
  | m + 1, hm => by
    have h1 := h.rng m (by omega)
    rw [dAt_succ (by rw [h.len]; omega), cntT_set (by rw [dAt_len]; omega) (freeL_not (h.free m (by omega))), h.cnt m (by omega)]
theorem IsExt.back {n : Nat} {bel : List (List Int)} {l : List Int} (h : IsExt n bel l) {m : Nat} (hm : m < n) : (dAt n l (m + 1)).set (l.getD m 0).toNat false = dAt n l m := by
  have h1 := h.rng m hm
  rw [dAt_succ (by rw [h.len]; omega), List.set_set]
  have h2 := freeL_not (h.free m hm)
  apply List.ext_getElem?
  intro x
  rw [List.getElem?_set]
  split
  · rename_i e
    subst e
    rw [if_pos (by rw [dAt_len]; omega), List.getElem?_eq_getElem (by rw [dAt_len]; omega)]
    rw [List.getD_eq_getElem?_getD, List.getElem?_eq_getElem (by rw [dAt_len]; omega)] at h2
    simpa using h2.symm
  · rfl
theorem all_true {d : List Bool} (h : cntT d = d.length) : d = List.replicate d.length true := by
  unfold cntT at h
  rw [List.countP_eq_length] at h
  exact List.eq_replicate_iff.2 ⟨rfl, fun b hb => h b hb⟩
theorem IsExt.full {n : Nat} {bel : List (List Int)} {l : List Int} (h : IsExt n bel l) : dAt n l n = List.replicate n true := by
  have := all_true (d := dAt n l n) (by rw [h.cnt n (Nat.le_refl _), dAt_len])
  rwa [dAt_len] at this
def nextK (bel : List (List Int)) (n : Nat) (l : List Int) : Nat → Option (List Int)
  | 0 => none
  | m + 1 => if 0 ≤ nxt (freeL bel (dAt n l m)) n ((l.getD m 0).toNat + 1) then
      some (finI bel n ((dAt n l m).set (nxt (freeL bel (dAt n l m)) n ((l.getD m 0).toNat + 1)).toNat true, l.take m ++ [nxt (freeL bel (dAt n l m)) n ((l.getD m 0).toNat + 1)]) (n - (m + 1))).2
    else nextK bel n l m
theorem nextK_hit {bel : List (List Int)} {n : Nat} {l : List Int} {m : Nat} (h : 0 ≤ nxt (freeL bel (dAt n l m)) n ((l.getD m 0).toNat + 1)) : nextK bel n l (m + 1) = some (finI bel n ((dAt n l m).set (nxt (freeL bel (dAt n l m)) n ((l.getD m 0).toNat + 1)).toNat true, l.take m ++ [nxt (freeL bel (dAt n l m)) n ((l.getD m 0).toNat + 1)]) (n - (m + 1))).2 := if_pos h
theorem nextK_miss {bel : List (List Int)} {n : Nat} {l : List Int} {m : Nat} (h : ¬ 0 ≤ nxt (freeL bel (dAt n l m)) n ((l.getD m 0).toNat + 1)) : nextK bel n l (m + 1) = nextK bel n l m := if_neg h
end Go.AM

namespace Go.Proofs.X
open Go.AM Go
set_option maxRecDepth 100000
set_option maxHeartbeats 4000000
def nextV : Option (List Int) → AV
  | none => .tup [.rsl 1 [], .int .i64 7]
  | some l => .tup [.rsl 1 (ints l), .int .i64 0]
theorem next_f (n : Nat) (t : List (List Bool)) (hs : Sq n t) (hn : n ≤ 512) (hp : poB n t = true) (l : List Int) (hx : extB n (belL n t) l = true) : Reads Tryd.prog 16 true [relB t, .rsl 1 (ints l)] (nextV (nextK (belL n t) n l n)) := by
  have hv := pvalid_g n t hs hn
  rw [hp] at hv
  have hpo := (poB_iff hs).1 hp
  have hIE := extB_iff.1 hx
  have hln := hIE.len
  have he := extends_g n t hs hn l (by omega)
  rw [hx] at he
  have ho := open_u n t hs hn
  have hok := belL_ok t hn
  have hcl := fun m => clone_u (l.take m)
  have hnext := fun m i hi => next_r hok (dAt n l m) (dAt_len n l m) i hi
  have hfin := fun (m : Nat) (i : Int) (hm : m < n) (h0 : 0 ≤ i) (h1 : freeL (belL n t) (dAt n l m) i.toNat = true) (h2 : i.toNat < n) => finish_u hok ((dAt n l m).set i.toNat true) (l.take m ++ [i]) (by simp [dAt_len]) (by simp; omega)
    (fun j hj => fin_nxt hpo _ _ (by simp [dAt_len]) (by rw [cntT_set (by rw [dAt_len]; exact h2) (freeL_not h1), hIE.cnt m (by omega)]; simp; omega) j hj)
  unfold stO stV relB at *
  generalize belL n t = bel at *
  refine Reads.bodyF (rs := [.tmp 4, .tmp 5]) Tryd.func16 rfl Tryd.ntmps16 rfl (by simp) ?_
  generalize hQr : retQ _ _ _ = Qr
  refine AW.seq fun K1 hK1 => ?_
  refine AW.regionK 0 (fun _ => none) [1, 2] [2, 20] ?_
  simp only [go_sem, reduceIte, reduceCtorEq, zA, zM, zE, zL, zD, zS, zP, zB, zI, zR, bools_len, ints_len]
  repeat with_reducible refine cj ?_ ?_
  all_goals try first | omega
  refine hK1 _ _ _ ?_; clear hK1
  refine AW.seq fun K2 hK2 => ?_
  refine AW.block ?_
  refine AW.seq fun K3 hK3 => ?_
  refine AW.regionK 0 (fun ii => if ii = 1 then some (.reads false (.bool true)) else none) [1, 2, 10] [2, 20] ?_
  simp only [go_sem, reduceIte, reduceCtorEq, zA, zM, zE, zL, zD, zS, zP, zB, zI, zR, bools_len, ints_len]
  repeat with_reducible refine cj ?_ ?_
  all_goals try first | (exact hv) | omega | exact ent (by kernel_rfl)
  refine hK3 _ _ _ ?_; clear hK3
  refine AW.cond rfl (by simp only [go_sem, reduceIte, reduceCtorEq, zA, zM, zE, zL, zD, zS, zP, zB, zI, zR]) ?_ ?_
  · intro hb
    try simp only [hB, decide_eq_true_eq, decide_eq_false_iff_not] at hb
    exfalso; simp at hb
  · intro hb
    try simp only [hB, decide_eq_true_eq, decide_eq_false_iff_not] at hb
    refine AW.seq fun K4 hK4 => ?_
    refine AW.regionK 0 (fun ii => if ii = 2 then some (.reads false (.bool true)) else none) [1, 2, 14] [2, 20] ?_
    simp only [go_sem, reduceIte, reduceCtorEq, zA, zM, zE, zL, zD, zS, zP, zB, zI, zR, bools_len, ints_len]
    repeat with_reducible refine cj ?_ ?_
    all_goals try first | (exact he) | omega | exact ent (by kernel_rfl)
    refine hK4 _ _ _ ?_; clear hK4
    refine AW.cond rfl (by simp only [go_sem, reduceIte, reduceCtorEq, zA, zM, zE, zL, zD, zS, zP, zB, zI, zR]) ?_ ?_
    · intro hb
      try simp only [hB, decide_eq_true_eq, decide_eq_false_iff_not] at hb
      exfalso; simp at hb
    · intro hb
      try simp only [hB, decide_eq_true_eq, decide_eq_false_iff_not] at hb
      refine AW.skip ?_
      refine hK2 _ _ _ ?_; clear hK2
      refine AW.seq fun K5 hK5 => ?_
      refine AW.regionK 0 (fun ii => if ii = 1 then some (.upd [] (fun k => [(0, some ⟨k, k, 3, [[.int .i64 n, .rsl 1 (lisR bel), .osl 1 (bools (List.replicate n false))]]⟩)]) (fun k => .ptr ⟨0, k, none⟩ 0 0)) else none) [1, 6] [20] ?_
      simp only [go_sem, reduceIte, reduceCtorEq, zA, zM, zE, zL, zD, zS, zP, zB, zI, zR, bools_len, ints_len]
      repeat with_reducible refine cj ?_ ?_
      all_goals try first | (exact ho) | omega | exact ent (by kernel_rfl)
      refine hK5 _ _ _ ?_; clear hK5
      refine AW.seq fun K6 hK6 => ?_
      refine AW.seq fun K7 hK7 => ?_
      refine AW.regionK 0 (fun _ => none) [1, 6, 25, 26] [20] ?_
      simp only [go_sem, reduceIte, reduceCtorEq, zA, zM, zE, zL, zD, zS, zP, zB, zI, zR, bools_len, ints_len]
      repeat with_reducible refine cj ?_ ?_
      all_goals try first | omega
      refine hK7 _ _ _ ?_; clear hK7
      refine AW.block ?_
      refine AW.loopE (fun mm ee ss kk => ∃ (j g v : Nat), n - j = mm ∧ ee = [(1, .rsl 1 (ints l)), (6, .ptr ⟨20, g, none⟩ 0 0), (25, .int .i64 n), (26, .int .i64 (j : Nat))] ∧ ss = [(20, some ⟨g, v, 3, [[.int .i64 n, .rsl 1 (lisR bel), .osl 1 (bools (List.replicate j true ++ List.replicate (n - j) false))]]⟩)] ∧ (j ≤ n)) ?_ ?_
      · refine ⟨_, 0, ?_, ?_, rfl, ?henv, ?hstore, ?hst⟩
        case henv =>
          repeat' (first | rfl | refine env_cons ?_ ?_ | refine st_cons ?_ ?_ ?_ ?_ | refine int_eq ?_ | refine bool_eq ?_ | refine rsl_eq ?_ | refine osl_eq ?_ | refine sl_eq ?_ ?_ ?_ | refine ptr_eq ?_ ?_ ?_ | refine agg_eq ?_ | refine es_cons ?_ ?_ | refine row_cons ?_ ?_)
          all_goals (first | omega | (simp; done))
        case hstore =>
          repeat' (first | rfl | refine env_cons ?_ ?_ | refine st_cons ?_ ?_ ?_ ?_ | refine int_eq ?_ | refine bool_eq ?_ | refine rsl_eq ?_ | refine osl_eq ?_ | refine sl_eq ?_ ?_ ?_ | refine ptr_eq ?_ ?_ ?_ | refine agg_eq ?_ | refine es_cons ?_ ?_ | refine row_cons ?_ ?_)
          all_goals (simp)
        case hst =>
          first | trivial | omega | (simp; done) | (simp; omega)
      rintro mm ee ss kk ⟨j, g, v, rfl, rfl, rfl, hI⟩
      generalize hQl1 : thenQ _ _ = Ql1
      refine AW.seq fun K8 hK8 => ?_
      refine AW.regionK 0 (fun _ => none) [1, 6, 25, 26, 27] [20] ?_
      simp only [go_sem, reduceIte, reduceCtorEq, zA, zM, zE, zL, zD, zS, zP, zB, zI, zR, bools_len, ints_len]
      repeat with_reducible refine cj ?_ ?_
      all_goals try first | omega
      refine hK8 _ _ _ ?_; clear hK8
      refine AW.seq fun K9 hK9 => ?_
      refine AW.cond rfl (by simp only [go_sem, reduceIte, reduceCtorEq, zA, zM, zE, zL, zD, zS, zP, zB, zI, zR]) ?_ ?_
      · intro hb
        try simp only [hB, decide_eq_true_eq, decide_eq_false_iff_not] at hb
        have hj : j < n := by omega
        have hrl : (List.replicate j true ++ List.replicate (n - j) false).length = n := by simp; omega
        have hrs : (List.replicate j true ++ List.replicate (n - j) false).set j true = List.replicate (j + 1) true ++ List.replicate (n - (j + 1)) false := by
          rw [List.set_append_right _ _ (by simp), show n - j = (n - (j + 1)) + 1 by omega, List.replicate_succ, List.replicate_succ' (n := j)]
          simp
        refine AW.skip ?_
        refine hK9 _ _ _ ?_; clear hK9
        refine AW.seq fun K10 hK10 => ?_
        refine AW.block ?_
        refine AW.seq fun K11 hK11 => ?_
        refine AW.regionK 0 (fun _ => none) [1, 6, 7, 25, 26] [20] ?_
        simp only [go_sem, reduceIte, reduceCtorEq, zA, zM, zE, zL, zD, zS, zP, zB, zI, zR, bools_len, ints_len]
        repeat with_reducible refine cj ?_ ?_
        all_goals try first | omega
        refine hK11 _ _ _ ?_; clear hK11
        refine AW.regionK 0 (fun _ => none) [1, 6, 25, 26] [20] ?_
        simp only [go_sem, reduceIte, reduceCtorEq, zA, zM, zE, zL, zD, zS, zP, zB, zI, zR, bools_len, ints_len, hrl, hrs, bools_upd]
        repeat with_reducible refine cj ?_ ?_
        all_goals try first | omega
        refine hK10 _ _ _ ?_; clear hK10
        refine AW.regionK 0 (fun _ => none) [1, 6, 25, 26] [20] ?_
        simp only [go_sem, reduceIte, reduceCtorEq, zA, zM, zE, zL, zD, zS, zP, zB, zI, zR, bools_len, ints_len]
        repeat with_reducible refine cj ?_ ?_
        all_goals try first | omega
        rw [← hQl1]
        change Exists _
        refine ⟨_, ?hm, j + 1, ?_, ?_, rfl, ?henv, ?hstore, ?hst⟩
        case henv =>
          repeat' (first | rfl | refine env_cons ?_ ?_ | refine st_cons ?_ ?_ ?_ ?_ | refine int_eq ?_ | refine bool_eq ?_ | refine rsl_eq ?_ | refine osl_eq ?_ | refine sl_eq ?_ ?_ ?_ | refine ptr_eq ?_ ?_ ?_ | refine agg_eq ?_ | refine es_cons ?_ ?_ | refine row_cons ?_ ?_)
          all_goals (first | (simp; done) | omega | (simp; omega))
        case hstore =>
          repeat' (first | rfl | refine env_cons ?_ ?_ | refine st_cons ?_ ?_ ?_ ?_ | refine int_eq ?_ | refine bool_eq ?_ | refine rsl_eq ?_ | refine osl_eq ?_ | refine sl_eq ?_ ?_ ?_ | refine ptr_eq ?_ ?_ ?_ | refine agg_eq ?_ | refine es_cons ?_ ?_ | refine row_cons ?_ ?_)
          all_goals (first | (simp; done) | omega | (simp; omega))
        case hst =>
          omega
        case hm => omega
      · intro hb
        try simp only [hB, decide_eq_true_eq, decide_eq_false_iff_not] at hb
        have hj : n = j := by omega
        subst hj
        have hrf : List.replicate n true ++ List.replicate (n - n) false = dAt n l n := by rw [hIE.full]; simp
        rw [hrf]
        refine AW.keep [1, 6] [20] ?_
        try simp only [go_sem, reduceIte, reduceCtorEq, zA, zM, zE, zL, zD, zS, zP, zB, zI, zR]
        refine AW.exit ?_
        rw [← hQl1]
        refine hK6 _ _ _ ?_; clear hK6
        refine AW.seq fun K12 hK12 => ?_
        refine AW.seq fun K13 hK13 => ?_
        refine AW.regionK 0 (fun _ => none) [1, 6, 8] [20] ?_
        simp only [go_sem, reduceIte, reduceCtorEq, zA, zM, zE, zL, zD, zS, zP, zB, zI, zR, bools_len, ints_len]
        repeat with_reducible refine cj ?_ ?_
        all_goals try first | omega
        refine hK13 _ _ _ ?_; clear hK13
        refine AW.block ?_
        refine AW.loopE (fun mm ee ss kk => ∃ (m g v : Nat), m + 1 = mm ∧ ee = [(1, .rsl 1 (ints l)), (6, .ptr ⟨20, g, none⟩ 0 0), (8, .int .i64 ((m : Int) - 1))] ∧ ss = [(20, some ⟨g, v, 3, [[.int .i64 n, .rsl 1 (lisR bel), .osl 1 (bools (dAt n l m))]]⟩)] ∧ (m ≤ n ∧ nextK bel n l n = nextK bel n l m)) ?_ ?_
        · refine ⟨_, n, ?_, ?_, rfl, ?henv, ?hstore, ?hst⟩
          case henv =>
            repeat' (first | rfl | refine env_cons ?_ ?_ | refine st_cons ?_ ?_ ?_ ?_ | refine int_eq ?_ | refine bool_eq ?_ | refine rsl_eq ?_ | refine osl_eq ?_ | refine sl_eq ?_ ?_ ?_ | refine ptr_eq ?_ ?_ ?_ | refine agg_eq ?_ | refine es_cons ?_ ?_ | refine row_cons ?_ ?_)
            all_goals (first | omega | (simp; done))
          case hstore =>
            repeat' (first | rfl | refine env_cons ?_ ?_ | refine st_cons ?_ ?_ ?_ ?_ | refine int_eq ?_ | refine bool_eq ?_ | refine rsl_eq ?_ | refine osl_eq ?_ | refine sl_eq ?_ ?_ ?_ | refine ptr_eq ?_ ?_ ?_ | refine agg_eq ?_ | refine es_cons ?_ ?_ | refine row_cons ?_ ?_)
            all_goals (first | (simp; done) | omega | (simp; omega))
          case hst =>
            exact ⟨by omega, rfl⟩
        rintro mm ee ss kk ⟨m, g, v, rfl, rfl, rfl, hI⟩
        generalize hQl2 : thenQ _ _ = Ql2
        obtain ⟨hm, hnk⟩ := hI
        refine AW.seq fun K14 hK14 => ?_
        refine AW.seq fun K15 hK15 => ?_
        refine AW.regionK 0 (fun _ => none) [1, 6, 8, 40] [20] ?_
        simp only [go_sem, reduceIte, reduceCtorEq, zA, zM, zE, zL, zD, zS, zP, zB, zI, zR, bools_len, ints_len]
        repeat with_reducible refine cj ?_ ?_
        all_goals try first | omega
        refine hK15 _ _ _ ?_; clear hK15
        refine AW.cond rfl (by simp only [go_sem, reduceIte, reduceCtorEq, zA, zM, zE, zL, zD, zS, zP, zB, zI, zR]) ?_ ?_
        · intro hb
          try simp only [hB, decide_eq_true_eq, decide_eq_false_iff_not] at hb
          obtain ⟨q, rfl⟩ : ∃ q, m = q + 1 := ⟨m - 1, by omega⟩
          have hq : q < n := by omega
          have hq1 : (((q + 1 : Nat) : Int) - 1).toNat = q := by omega
          have hgx := ints_getD (l := l) (i := q) (by omega)
          obtain ⟨hx0, hx1⟩ := hIE.rng q hq
          have hbk := hIE.back hq
          have hdl := dAt_len n l (q + 1)
          have hdl2 := dAt_len n l q
          have hnx := Reads.flat (hnext q ((l.getD q 0).toNat + 1) (by omega)) rfl
          have hkh := nextK_hit (bel := bel) (n := n) (l := l) (m := q)
          have hkm := nextK_miss (bel := bel) (n := n) (l := l) (m := q)
          have hxs : l.getD q 0 + 1 = (((l.getD q 0).toNat + 1 : Nat) : Int) := by omega
          have hil := nxt_lt (freeL bel (dAt n l q)) n ((l.getD q 0).toNat + 1)
          have hii := nxt_is (p := freeL bel (dAt n l q)) (n := n) (i := (l.getD q 0).toNat + 1)
          have hfq := hfin q
          have hcq := hcl q
          generalize hX : l.getD q 0 = x at *
          generalize hN : nxt (freeL bel (dAt n l q)) n (x.toNat + 1) = i at *
          refine AW.skip ?_
          refine hK14 _ _ _ ?_; clear hK14
          refine AW.seq fun K16 hK16 => ?_
          refine AW.block ?_
          refine AW.seq fun K17 hK17 => ?_
          refine AW.regionD mixed 0 (fun _ => none) [1, 6, 8] [20] ?_
          simp only [go_sem, reduceIte, reduceCtorEq, zA, zM, zE, zL, zD, zS, zP, zB, zI, zR, bools_len, ints_len, hq1, hgx, hdl, hbk, bools_upd]
          repeat with_reducible refine cj ?_ ?_
          all_goals try first | omega | exact chk (by kernel_rfl)
          refine hK17 _ _ _ ?_; clear hK17
          refine AW.seq fun K18 hK18 => ?_
          refine AW.regionK 0 (fun ii => if ii = 6 then some (.reads true (.int .i64 i)) else none) [1, 6, 8, 9] [20] ?_
          simp only [go_sem, reduceIte, reduceCtorEq, zA, zM, zE, zL, zD, zS, zP, zB, zI, zR, bools_len, ints_len, hq1, hgx, hxs]
          repeat with_reducible refine cj ?_ ?_
          all_goals try first | (exact hnx) | omega | exact ent (by kernel_rfl)
          refine hK18 _ _ _ ?_; clear hK18
          refine AW.seq fun K19 hK19 => ?_
          refine AW.regionK 0 (fun _ => none) [1, 6, 8, 9, 60] [20] ?_
          simp only [go_sem, reduceIte, reduceCtorEq, zA, zM, zE, zL, zD, zS, zP, zB, zI, zR, bools_len, ints_len]
          repeat with_reducible refine cj ?_ ?_
          all_goals try first | omega
          refine hK19 _ _ _ ?_; clear hK19
          refine AW.cond rfl (by simp only [go_sem, reduceIte, reduceCtorEq, zA, zM, zE, zL, zD, zS, zP, zB, zI, zR]) ?_ ?_
          · intro hb
            try simp only [hB, decide_eq_true_eq, decide_eq_false_iff_not] at hb
            obtain ⟨k, hk1, hk2, hk3, hk4⟩ := hii hb
            have hkn : i.toNat = k := by omega
            have hnk2 := hkh hb
            have hfq := hfq i hq hb (by rw [hkn]; exact hk4) (by omega)
            have hcq := hcq (by simp; omega)
            have hlt : (l.take q).length = q := by simp; omega
            have hlt2 : (l.take q ++ [i]).length = q + 1 := by simp; omega
            have hfl := finI_l bel n ((dAt n l q).set i.toNat true, l.take q ++ [i]) (n - (q + 1))
            simp only [hlt2] at hfl
            rw [hlt2] at hfq
            rw [hlt] at hcq
            generalize hF : finI bel n ((dAt n l q).set i.toNat true, l.take q ++ [i]) (n - (q + 1)) = F at *
            have hft : F.2.take n = F.2 := List.take_of_length_le (by omega)
            refine AW.seq fun K20 hK20 => ?_
            refine AW.regionK 0 (fun _ => none) [1, 6, 8, 9] [20] ?_
            simp only [go_sem, reduceIte, reduceCtorEq, zA, zM, zE, zL, zD, zS, zP, zB, zI, zR, bools_len, ints_len, hdl2, bools_upd]
            repeat with_reducible refine cj ?_ ?_
            all_goals try first | omega
            refine hK20 _ _ _ ?_; clear hK20
            refine AW.seq fun K21 hK21 => ?_
            refine AW.regionK 0 (fun ii => if ii = 4 then some (.upd [] (fun k => [(0, some ⟨k, k, 1, ints (l.take q)⟩)]) (fun k => .sl ⟨0, k, none⟩ 0 q none)) else if ii = 8 then some (.upd [20, 71] (fun k => [(0, some ⟨g, k, 3, [[.int .i64 n, .rsl 1 (lisR bel), .osl 1 (bools F.1)]]⟩), (1, some ⟨k, k, 1, ints F.2⟩)]) (fun k => .sl ⟨1, k, none⟩ 0 n none)) else none) [4, 5] [20, 71] ?_
            simp only [go_sem, reduceIte, reduceCtorEq, zA, zM, zE, zL, zD, zS, zP, zB, zI, zR, bools_len, ints_len, hq1, List.take_take, Nat.min_self, ints_app, renC_ints]
            repeat with_reducible refine cj ?_ ?_
            all_goals try first | (first | exact hcq | exact hfq _ _ _ _) | omega | exact ent (by kernel_rfl) | (simp [scP, scalar]; done) | exact scP_words _ | exact scP_ints _ | exact scP_bools _
            refine hK21 _ _ _ ?_; clear hK21
            refine AW.ret ?_
            rw [← hQl2]
            rw [← hQr]
            simp only [go_sem, reduceIte, reduceCtorEq, zA, zM, zE, zL, zD, zS, zP, zB, zI, zR, bools_len, ints_len]
            exact Wk.of_eq (by rw [hnk, hnk2, hft]; rfl)
          · intro hb
            try simp only [hB, decide_eq_true_eq, decide_eq_false_iff_not] at hb
            have hnk2 := hkm (by omega)
            refine AW.skip ?_
            refine hK16 _ _ _ ?_; clear hK16
            refine AW.regionK 0 (fun _ => none) [1, 6, 8] [20] ?_
            simp only [go_sem, reduceIte, reduceCtorEq, zA, zM, zE, zL, zD, zS, zP, zB, zI, zR, bools_len, ints_len]
            repeat with_reducible refine cj ?_ ?_
            all_goals try first | omega
            rw [← hQl2]
            change Exists _
            refine ⟨_, ?hm, q, ?_, ?_, rfl, ?henv, ?hstore, ?hst⟩
            case henv =>
              repeat' (first | rfl | refine env_cons ?_ ?_ | refine st_cons ?_ ?_ ?_ ?_ | refine int_eq ?_ | refine bool_eq ?_ | refine rsl_eq ?_ | refine osl_eq ?_ | refine sl_eq ?_ ?_ ?_ | refine ptr_eq ?_ ?_ ?_ | refine agg_eq ?_ | refine es_cons ?_ ?_ | refine row_cons ?_ ?_)
              all_goals (omega)
            case hstore =>
              repeat' (first | rfl | refine env_cons ?_ ?_ | refine st_cons ?_ ?_ ?_ ?_ | refine int_eq ?_ | refine bool_eq ?_ | refine rsl_eq ?_ | refine osl_eq ?_ | refine sl_eq ?_ ?_ ?_ | refine ptr_eq ?_ ?_ ?_ | refine agg_eq ?_ | refine es_cons ?_ ?_ | refine row_cons ?_ ?_)
              all_goals (first | (simp; done) | omega | (simp; omega))
            case hst =>
              exact ⟨by omega, by rw [hnk, hnk2]⟩
            case hm => omega
        · intro hb
          try simp only [hB, decide_eq_true_eq, decide_eq_false_iff_not] at hb
          have hm0 : m = 0 := by omega
          subst hm0
          refine AW.keep [] [20] ?_
          try simp only [go_sem, reduceIte, reduceCtorEq, zA, zM, zE, zL, zD, zS, zP, zB, zI, zR]
          refine AW.exit ?_
          rw [← hQl2]
          refine hK12 _ _ _ ?_; clear hK12
          refine AW.seq fun K22 hK22 => ?_
          refine AW.regionK 0 (fun _ => none) [4, 5] [20] ?_
          simp only [go_sem, reduceIte, reduceCtorEq, zA, zM, zE, zL, zD, zS, zP, zB, zI, zR, bools_len, ints_len]
          repeat with_reducible refine cj ?_ ?_
          all_goals try first | omega
          refine hK22 _ _ _ ?_; clear hK22
          refine AW.ret ?_
          rw [← hQr]
          simp only [go_sem, reduceIte, reduceCtorEq, zA, zM, zE, zL, zD, zS, zP, zB, zI, zR, bools_len, ints_len]
          exact Wk.trans (Wk.tup2 (Wk.nil 1) (Wk.refl _)) (Wk.of_eq (by rw [hnk]; rfl))
end Go.Proofs.X

/- How many extensions go on from an ideal; what the map of ways says; ranks. -/
namespace Go.AM
def sumF (p : Nat → Bool) (f : Nat → Nat) (m : Nat) : Nat := fr p (fun s x => s + f x) m 0
theorem sumF_zero (p : Nat → Bool) (f : Nat → Nat) : sumF p f 0 = 0 := rfl
theorem sumF_succ {p : Nat → Bool} (f : Nat → Nat) {k : Nat} (h : p k = true) : sumF p f (k + 1) = sumF p f k + f k := fr_succ _ h _
theorem sumF_miss {p : Nat → Bool} (f : Nat → Nat) {k : Nat} (h : p k = false) : sumF p f (k + 1) = sumF p f k := fr_miss _ h _
theorem sumF_mono (p : Nat → Bool) (f : Nat → Nat) (i : Nat) : ∀ j, i ≤ j → sumF p f i ≤ sumF p f j
  | 0, h => by rw [Nat.le_zero.1 h]; exact Nat.le_refl _
  | j + 1, h => by
    rcases Nat.eq_or_lt_of_le h with e | e
    · rw [e]; exact Nat.le_refl _
    · have := sumF_mono p f i j (by omega)
      cases hp : p j with
      | true => rw [sumF_succ f hp]; omega
      | false => rw [sumF_miss f hp]; exact this
theorem sumF_skip {p : Nat → Bool} (f : Nat → Nat) {i k : Nat} (h : i ≤ k) (hp : ∀ j, i ≤ j → j < k → p j = false) : sumF p f k = sumF p f i := fr_skip _ i k 0 h hp
theorem sum_next {p : Nat → Bool} (f : Nat → Nat) {n i x : Nat} (hi : i ≤ x) (hx : x ≤ n) : ((0 ≤ nxt p n i ∧ nxt p n i < (x : Int)) → ∃ k : Nat, nxt p n i = (k : Nat) ∧ i ≤ k ∧ k < x ∧ p k = true ∧ sumF p f (k + 1) = sumF p f i + f k) ∧ (¬ (0 ≤ nxt p n i ∧ nxt p n i < (x : Int)) → sumF p f x = sumF p f i) := by
  rcases nxt_spec (p := p) (n := n) (n - i) i rfl with ⟨h1, h2⟩ | ⟨k, h1, h2, h3, h4, h5⟩
  · exact ⟨fun h => by omega, fun _ => sumF_skip f hi fun j h3 h4 => h2 j h3 (by omega)⟩
  · refine ⟨fun h => ⟨k, h1, h2, by omega, h4, by rw [sumF_succ f h4, sumF_skip f h2 h5]⟩, fun h => sumF_skip f hi fun j h6 h7 => h5 j h6 (by omega)⟩
/-- How many ways to place the m elements that are left. -/
def cE (bel : List (List Int)) (n : Nat) : Nat → List Bool → Nat
  | 0, _ => 1
  | m + 1, S => sumF (freeL bel S) (fun x => cE bel n m (S.set x true)) n
/-! ### A map after a put. -/
theorem keyEq_eq {S : List Bool} {r : AV} (h : keyEq (.str (keyS S)) r = true) (T : List Bool) : keyEq (.str (keyS T)) r = decide (T = S) := by
  cases r with
  | str b =>
    have h0 : (keyS S == b) = true := h
    have h1 : (keyS S).data = b.data := by rw [ba_beq] at h0; exact eq_of_beq h0
    show (keyS T == b) = _
    rw [ba_beq, ← h1, ← ba_beq]
    exact keyEq_str T S
  | _ => simp [keyEq] at h
theorem mapAt_put (S T : List Bool) (v : AV) : ∀ (es : List (List AV)), mapAt (mapPut es (.str (keyS S)) v) (.str (keyS T)) = if T = S then some v else mapAt es (.str (keyS T)) := by
  have key : ∀ (es : List (List AV)) (i : Nat), (mapFind (mapPut es (.str (keyS S)) v) (.str (keyS T)) i).map (·.2) = if T = S then some v else (mapFind es (.str (keyS T)) i).map (·.2) := by
    intro es
    induction es with
    | nil =>
      intro i
      simp only [mapPut, mapFind]
      have : (([AV.str (keyS S), v] : List AV).getD 0 .any) = .str (keyS S) := rfl
      rw [this, keyEq_str]
      by_cases h : T = S <;> simp [h]
    | cons row es ih =>
      intro i
      unfold mapPut
      by_cases h : keyEq (.str (keyS S)) (row.getD 0 .any) = true
      · rw [if_pos h]
        have hT := keyEq_eq h T
        simp only [mapFind]
        have : (([AV.str (keyS S), v] : List AV).getD 0 .any) = .str (keyS S) := rfl
        rw [this, keyEq_str, hT]
        by_cases e : T = S <;> simp [e]
      · rw [if_neg h]
        simp only [mapFind]
        by_cases e : keyEq (.str (keyS T)) (row.getD 0 .any) = true
        · rw [if_pos e, if_pos e]
          by_cases e2 : T = S
          · subst e2; exact absurd e h
          · simp [e2]
        · rw [if_neg e, if_neg e]
          exact ih (i + 1)
  intro es
  exact key es 0
theorem mapI_put (es : List (List AV)) (S T : List Bool) (v : Int) : mapI (mapPut es (.str (keyS S)) (.int .i64 v)) (.str (keyS T)) = if T = S then v else mapI es (.str (keyS T)) := by
  unfold mapI
  rw [mapAt_put]
  by_cases h : T = S <;> simp [h]
theorem fr_congr {α : Type} {p : Nat → Bool} {f g : α → Nat → α} : ∀ m (a : α), (∀ a x, x < m → p x = true → f a x = g a x) → fr p f m a = fr p g m a
  | 0, _, _ => rfl
  | m + 1, a, h => by
    have ih := fr_congr (p := p) (f := f) (g := g) m a fun a x hx => h a x (by omega)
    cases hp : p m with
    | true => rw [fr_succ f hp, fr_succ g hp, ih, h _ m (by omega) hp]
    | false => rw [fr_miss f hp, fr_miss g hp, ih]
theorem wayS_congr {bel : List (List Int)} {n a : Nat} {es es' : List (List AV)} {S : List Bool} (hS : S.length = n) (h : ∀ T, cntT T = cntT S + 1 → mapI es (.str (keyS T)) = mapI es' (.str (keyS T))) : wayS bel n es S a = wayS bel n es' S a := by
  unfold wayS sumW
  split
  · rfl
  · exact fr_congr n 0 fun s x hx hp => by rw [h (S.set x true) (cntT_set (by omega) (freeL_not hp))]
theorem steps_other {bel : List (List Int)} {n a : Nat} {T : List Bool} : ∀ (L : List (List Bool)) (es : List (List AV)), T ∉ L → mapI (L.foldl (stepW bel n a) es) (.str (keyS T)) = mapI es (.str (keyS T))
  | [], _, _ => rfl
  | S :: L, es, h => by
    rw [List.foldl_cons, steps_other L _ (fun h' => h (List.mem_cons_of_mem _ h'))]
    unfold stepW
    have hne : T ≠ S := fun e => h (by rw [e]; exact List.mem_cons_self)
    rw [mapI_put, if_neg hne]
theorem steps_at {bel : List (List Int)} {n a : Nat} {T : List Bool} : ∀ (L : List (List Bool)) (es : List (List AV)), (∀ S ∈ L, S.length = n ∧ cntT S = a) → T ∈ L → mapI (L.foldl (stepW bel n a) es) (.str (keyS T)) = wayS bel n es T a
  | S :: L, es, hL, h => by
    have hS := hL S List.mem_cons_self
    have hstep : ∀ U, cntT U = a + 1 → mapI (stepW bel n a es S) (.str (keyS U)) = mapI es (.str (keyS U)) := fun U hU => by
      unfold stepW
      rw [mapI_put, if_neg (fun e => by rw [e, hS.2] at hU; omega)]
    rw [List.foldl_cons]
    by_cases hT : T ∈ L
    · rw [steps_at L _ (fun S h => hL S (List.mem_cons_of_mem _ h)) hT]
      have hT2 := hL T (List.mem_cons_of_mem _ hT)
      exact wayS_congr hT2.1 fun U hU => hstep U (by rw [hU, hT2.2])
    · rcases List.mem_cons.1 h with e | e
      · subst e
        rw [steps_other L _ hT]
        unfold stepW
        rw [mapI_put, if_pos rfl]
      · exact absurd e hT
theorem lvAt_cnt {bel : List (List Int)} {n : Nat} : ∀ {j : Nat} {S : List Bool}, S ∈ lvAt bel n j → cntT S = j
  | 0, S, h => by rw [List.mem_singleton.1 h]; exact cntT_rep n
  | j + 1, S, h => by
    obtain ⟨S', h1, x, hx, hf, rfl⟩ := mem_nextL.1 h
    rw [cntT_set (by rw [lvAt_len h1]; exact hx) (freeL_not hf), lvAt_cnt h1]
theorem lvAt_next {bel : List (List Int)} {n j x : Nat} {S : List Bool} (h : S ∈ lvAt bel n j) (hx : x < n) (hf : freeL bel S x = true) : S.set x true ∈ lvAt bel n (j + 1) := mem_nextL.2 ⟨S, h, x, hx, hf, rfl⟩
theorem min_sum {p : Nat → Bool} {f : Nat → Nat} {w : Nat → Int} : ∀ m, (∀ x, x < m → p x = true → w x = min (f x : Int) 1125899906842625) → fr p (fun s x => min (s + w x) 1125899906842625) m (0 : Int) = min (sumF p f m : Int) 1125899906842625
  | 0, _ => by simp only [fr_zero, sumF_zero]; decide
  | m + 1, h => by
    have ih := min_sum (p := p) (f := f) (w := w) m fun x hx => h x (by omega)
    cases hp : p m with
    | true => rw [fr_succ _ hp, sumF_succ f hp, ih, h m (by omega) hp]; omega
    | false => rw [fr_miss _ hp, sumF_miss f hp, ih]
theorem downW_spec {bel : List (List Int)} {n : Nat} : ∀ m, m ≤ n + 1 → ∀ a, n < a + m → a ≤ n → ∀ S ∈ lvAt bel n a, mapI (downW bel n m) (.str (keyS S)) = min (cE bel n (n - a) S : Int) 1125899906842625
  | 0, _, a, h1, h2, _, _ => by omega
  | m + 1, hm, a, h1, h2, S, hS => by
    have ih := downW_spec (bel := bel) (n := n) m (by omega)
    have hL : ∀ T ∈ lvAt bel n (n - m), T.length = n ∧ cntT T = n - m := fun T hT => ⟨lvAt_len hT, lvAt_cnt hT⟩
    show mapI ((lvAt bel n (n - m)).foldl (stepW bel n (n - m)) (downW bel n m)) _ = _
    by_cases e : a = n - m
    · subst e
      rw [steps_at _ _ hL hS]
      unfold wayS
      by_cases e2 : n - m = n
      · rw [if_pos e2, show n - (n - m) = 0 by omega]; simp only [cE]; decide
      · rw [if_neg e2]
        obtain ⟨q, hq⟩ : ∃ q, n - (n - m) = q + 1 := ⟨m - 1, by omega⟩
        rw [hq]
        unfold sumW cE
        refine min_sum n fun x hx hf => ?_
        have := ih (n - m + 1) (by omega) (by omega) _ (lvAt_next hS hx hf)
        rw [show n - (n - m + 1) = q by omega] at this
        exact this
    · rw [steps_other _ _ (fun h => by
        have h3 := lvAt_cnt h
        rw [lvAt_cnt hS] at h3
        exact e h3)]
      exact ih a (by omega) h2 S hS
theorem ways_spec {bel : List (List Int)} {n a : Nat} (ha : a ≤ n) {S : List Bool} (hS : S ∈ lvAt bel n a) : mapI (waysE bel n) (.str (keyS S)) = min (cE bel n (n - a) S : Int) 1125899906842625 :=
  downW_spec (n + 1) (Nat.le_refl _) a (by omega) ha S hS
/-! ### Ranks. -/
theorem IsExt.lv {n : Nat} {bel : List (List Int)} {l : List Int} (h : IsExt n bel l) : ∀ m, m ≤ n → dAt n l m ∈ lvAt bel n m
  | 0, _ => by simp [dAt, exD, lvAt]
  | m + 1, hm => by
    have h1 := h.rng m (by omega)
    rw [dAt_succ (by rw [h.len]; omega)]
    exact lvAt_next (h.lv m (by omega)) (by omega) (h.free m (by omega))
def rankC (bel : List (List Int)) (n : Nat) (l : List Int) : Nat → Nat
  | 0 => 0
  | m + 1 => rankC bel n l m + sumF (freeL bel (dAt n l m)) (fun x => cE bel n (n - (m + 1)) ((dAt n l m).set x true)) (l.getD m 0).toNat
theorem cE_at {bel : List (List Int)} {n m : Nat} (hm : m < n) (S : List Bool) : cE bel n (n - m) S = sumF (freeL bel S) (fun x => cE bel n (n - (m + 1)) (S.set x true)) n := by
  obtain ⟨q, hq⟩ : ∃ q, n - m = q + 1 := ⟨n - m - 1, by omega⟩
  rw [hq, show n - (m + 1) = q by omega]; rfl
theorem IsExt.step {n : Nat} {bel : List (List Int)} {l : List Int} (h : IsExt n bel l) {m : Nat} (hm : m < n) : rankC bel n l (m + 1) + cE bel n (n - (m + 1)) (dAt n l (m + 1)) ≤ rankC bel n l m + cE bel n (n - m) (dAt n l m) := by
  have h1 := h.rng m hm
  have h2 := h.free m hm
  rw [cE_at hm, dAt_succ (by rw [h.len]; omega)]
  have h3 := sumF_succ (p := freeL bel (dAt n l m)) (fun x => cE bel n (n - (m + 1)) ((dAt n l m).set x true)) h2
  have h4 := sumF_mono (freeL bel (dAt n l m)) (fun x => cE bel n (n - (m + 1)) ((dAt n l m).set x true)) ((l.getD m 0).toNat + 1) n (by omega)
  show rankC bel n l m + _ + _ ≤ _
  omega
theorem IsExt.down {n : Nat} {bel : List (List Int)} {l : List Int} (h : IsExt n bel l) (m : Nat) : ∀ q, m ≤ q → q ≤ n → rankC bel n l q + cE bel n (n - q) (dAt n l q) ≤ rankC bel n l m + cE bel n (n - m) (dAt n l m)
  | 0, h1, _ => by rw [Nat.le_zero.1 h1]; exact Nat.le_refl _
  | q + 1, h1, h2 => by
    rcases Nat.eq_or_lt_of_le h1 with e | e
    · rw [e]; exact Nat.le_refl _
    · exact Nat.le_trans (h.step (by omega)) (h.down m q (by omega) (by omega))
theorem rankC_mono (bel : List (List Int)) (n : Nat) (l : List Int) (m : Nat) : ∀ q, m ≤ q → rankC bel n l m ≤ rankC bel n l q
  | 0, h => by rw [Nat.le_zero.1 h]; exact Nat.le_refl _
  | q + 1, h => by
    rcases Nat.eq_or_lt_of_le h with e | e
    · rw [e]; exact Nat.le_refl _
    · have := rankC_mono bel n l m q (by omega)
      show _ ≤ rankC bel n l q + _
      omega
theorem IsExt.rank_lt {n : Nat} {bel : List (List Int)} {l : List Int} (h : IsExt n bel l) {m : Nat} (hm : m ≤ n) : rankC bel n l n < rankC bel n l m + cE bel n (n - m) (dAt n l m) := by
  have := h.down m n hm (Nat.le_refl _)
  rw [Nat.sub_self] at this
  simp only [cE] at this
  omega
theorem IsExt.bound {n : Nat} {bel : List (List Int)} {l : List Int} (h : IsExt n bel l) {m : Nat} (hm : m < n) {i : Nat} (hi : i ≤ n) : rankC bel n l m + sumF (freeL bel (dAt n l m)) (fun x => cE bel n (n - (m + 1)) ((dAt n l m).set x true)) i ≤ cE bel n n (List.replicate n false) := by
  have h1 := h.down 0 m (Nat.zero_le _) (by omega)
  have h2 := cE_at (bel := bel) hm (dAt n l m)
  have h4 := sumF_mono (freeL bel (dAt n l m)) (fun x => cE bel n (n - (m + 1)) ((dAt n l m).set x true)) i n hi
  have h5 : dAt n l 0 = List.replicate n false := rfl
  have h6 : rankC bel n l 0 = 0 := rfl
  rw [h5, h6, Nat.sub_zero] at h1
  omega
/-- The rank by the map of ways. -/
theorem IsExt.ways {n : Nat} {bel : List (List Int)} {l : List Int} (h : IsExt n bel l) (hbig : cE bel n n (List.replicate n false) ≤ 1125899906842624) {m : Nat} (hm : m < n) {x : Nat} (hx : x < n) (hf : freeL bel (dAt n l m) x = true) :
    mapI (waysE bel n) (.str (keyS ((dAt n l m).set x true))) = (cE bel n (n - (m + 1)) ((dAt n l m).set x true) : Int) := by
  rw [ways_spec (a := m + 1) (by omega) (lvAt_next (h.lv m (by omega)) hx hf)]
  have h1 := h.down 0 m (Nat.zero_le _) (by omega)
  have h2 := cE_at (bel := bel) hm (dAt n l m)
  have h3 := sumF_succ (p := freeL bel (dAt n l m)) (fun x => cE bel n (n - (m + 1)) ((dAt n l m).set x true)) hf
  have h4 := sumF_mono (freeL bel (dAt n l m)) (fun x => cE bel n (n - (m + 1)) ((dAt n l m).set x true)) (x + 1) n (by omega)
  have h5 : dAt n l 0 = List.replicate n false := rfl
  have h6 : rankC bel n l 0 = 0 := rfl
  rw [h5, h6, Nat.sub_zero] at h1
  omega
end Go.AM

namespace Go.Proofs.X
open Go.AM Go
set_option maxRecDepth 100000
set_option maxHeartbeats 4000000
theorem allW_eq (n : Nat) (t : List (List Bool)) : allW n t = min (cE (belL n t) n n (List.replicate n false) : Int) 1125899906842625 := by
  have := ways_spec (bel := belL n t) (n := n) (a := 0) (Nat.zero_le _) (S := List.replicate n false) (by simp [lvAt])
  exact this
theorem rank_u (n : Nat) (t : List (List Bool)) (hs : Sq n t) (hn : n ≤ 512) (hp : poB n t = true) (hbud : cntL (belL n t) n n ≤ 5000) (hbig : allW n t ≤ 1125899906842624) (l : List Int) (hx : extB n (belL n t) l = true) :
    Reads Tryd.prog 26 false [relB t, .rsl 1 (ints l)] (.tup [.int .i64 (rankC (belL n t) n l n : Nat), .int .i64 0]) := by
  have hv := pvalid_g n t hs hn
  rw [hp] at hv
  have hIE := extB_iff.1 hx
  have hln := hIE.len
  have hc := counted_u n t hs hn hp hbud hbig
  have hcb : cE (belL n t) n n (List.replicate n false) ≤ 1125899906842624 := by rw [allW_eq] at hbig; omega
  have hWk := downW_ok (belL n t) n (n + 1)
  have hmw := hWk.mapWf (P := Tryd.prog) keyOk9
  have hflt := hWk.flt
  have he := extends_g n t hs hn l (by omega)
  rw [hx] at he
  have ho := open_u n t hs hn
  have hok := belL_ok t hn
  have hways := fun m (hm : m < n) x (hx : x < n) hf => hIE.ways hcb hm hx hf
  have hbnd := fun m (hm : m < n) i hi => hIE.bound (i := i) hm hi
  have hkey := fun d hd => Reads.flat (key_r n (belL n t) d hd hn) rfl
  have hnext := fun m i hi => Reads.flat (next_r hok (dAt n l m) (dAt_len n l m) i hi) rfl
  unfold waysE at *
  generalize downW (belL n t) n (n + 1) = E at *
  generalize allW n t = A at *
  unfold stO stV relB at *
  generalize belL n t = bel at *
  refine Reads.body (rs := [.tmp 4, .tmp 5]) Tryd.func26 rfl Tryd.ntmps26 rfl (by simp) ?_
  generalize hQr : retQ _ _ _ = Qr
  refine AW.seq fun K1 hK1 => ?_
  refine AW.regionK 0 (fun _ => none) [1, 2] [2, 25, 33] ?_
  simp only [go_sem, reduceIte, reduceCtorEq, zA, zM, zE, zL, zD, zS, zP, zB, zI, zR, bools_len, ints_len]
  repeat with_reducible refine cj ?_ ?_
  all_goals try first | omega
  refine hK1 _ _ _ ?_; clear hK1
  refine AW.seq fun K2 hK2 => ?_
  refine AW.block ?_
  refine AW.seq fun K3 hK3 => ?_
  refine AW.regionK 0 (fun ii => if ii = 1 then some (.reads false (.bool true)) else none) [1, 2, 14] [2, 25, 33] ?_
  simp only [go_sem, reduceIte, reduceCtorEq, zA, zM, zE, zL, zD, zS, zP, zB, zI, zR, bools_len, ints_len]
  repeat with_reducible refine cj ?_ ?_
  all_goals try first | (exact hv) | omega | exact ent (by kernel_rfl)
  refine hK3 _ _ _ ?_; clear hK3
  refine AW.cond rfl (by simp only [go_sem, reduceIte, reduceCtorEq, zA, zM, zE, zL, zD, zS, zP, zB, zI, zR]) ?_ ?_
  · intro hb
    try simp only [hB, decide_eq_true_eq, decide_eq_false_iff_not] at hb
    exfalso; simp at hb
  · intro hb
    try simp only [hB, decide_eq_true_eq, decide_eq_false_iff_not] at hb
    refine AW.seq fun K4 hK4 => ?_
    refine AW.regionK 0 (fun ii => if ii = 2 then some (.reads false (.bool true)) else none) [1, 2, 18] [2, 25, 33] ?_
    simp only [go_sem, reduceIte, reduceCtorEq, zA, zM, zE, zL, zD, zS, zP, zB, zI, zR, bools_len, ints_len]
    repeat with_reducible refine cj ?_ ?_
    all_goals try first | (exact he) | omega | exact ent (by kernel_rfl)
    refine hK4 _ _ _ ?_; clear hK4
    refine AW.cond rfl (by simp only [go_sem, reduceIte, reduceCtorEq, zA, zM, zE, zL, zD, zS, zP, zB, zI, zR]) ?_ ?_
    · intro hb
      try simp only [hB, decide_eq_true_eq, decide_eq_false_iff_not] at hb
      exfalso; simp at hb
    · intro hb
      try simp only [hB, decide_eq_true_eq, decide_eq_false_iff_not] at hb
      refine AW.skip ?_
      refine hK2 _ _ _ ?_; clear hK2
      refine AW.seq fun K5 hK5 => ?_
      refine AW.regionK 0 (fun ii => if ii = 1 then some (.upd [] (fun k => [(0, some ⟨k, k, mapSz, E⟩)]) (fun k => .tup [.mp ⟨0, k, none⟩, .int .i64 A, .int .i64 0])) else none) [1, 2, 6, 8] [2, 25] ?_
      simp only [go_sem, reduceIte, reduceCtorEq, zA, zM, zE, zL, zD, zS, zP, zB, zI, zR, bools_len, ints_len, hflt]
      repeat with_reducible refine cj ?_ ?_
      all_goals try first | (exact hc) | omega | exact ent (by kernel_rfl)
      refine hK5 _ _ _ ?_; clear hK5
      refine AW.seq fun K6 hK6 => ?_
      refine AW.seq fun K7 hK7 => ?_
      refine AW.regionK 0 (fun _ => none) [1, 2, 6, 8, 30] [2, 25] ?_
      simp only [go_sem, reduceIte, reduceCtorEq, zA, zM, zE, zL, zD, zS, zP, zB, zI, zR, bools_len, ints_len]
      repeat with_reducible refine cj ?_ ?_
      all_goals try first | omega
      refine hK7 _ _ _ ?_; clear hK7
      refine AW.cond rfl (by simp only [go_sem, reduceIte, reduceCtorEq, zA, zM, zE, zL, zD, zS, zP, zB, zI, zR]) ?_ ?_
      · intro hb
        try simp only [hB, decide_eq_true_eq, decide_eq_false_iff_not] at hb
        exfalso; simp at hb
      · intro hb
        try simp only [hB, decide_eq_true_eq, decide_eq_false_iff_not] at hb
        refine AW.skip ?_
        refine hK6 _ _ _ ?_; clear hK6
        refine AW.seq fun K8 hK8 => ?_
        refine AW.regionK 0 (fun ii => if ii = 1 then some (.upd [] (fun k => [(0, some ⟨k, k, 3, [[.int .i64 n, .rsl 1 (lisR bel), .osl 1 (bools (List.replicate n false))]]⟩)]) (fun k => .ptr ⟨0, k, none⟩ 0 0)) else none) [1, 6, 9] [25, 33] ?_
        simp only [go_sem, reduceIte, reduceCtorEq, zA, zM, zE, zL, zD, zS, zP, zB, zI, zR, bools_len, ints_len]
        repeat with_reducible refine cj ?_ ?_
        all_goals try first | (exact ho) | omega | exact ent (by kernel_rfl)
        refine hK8 _ _ _ ?_; clear hK8
        refine AW.seq fun K9 hK9 => ?_
        refine AW.regionK 0 (fun _ => none) [1, 6, 9, 10] [25, 33] ?_
        simp only [go_sem, reduceIte, reduceCtorEq, zA, zM, zE, zL, zD, zS, zP, zB, zI, zR, bools_len, ints_len]
        repeat with_reducible refine cj ?_ ?_
        all_goals try first | omega
        refine hK9 _ _ _ ?_; clear hK9
        refine AW.seq fun K10 hK10 => ?_
        refine AW.seq fun K11 hK11 => ?_
        refine AW.regionK 0 (fun _ => none) [6, 9, 10, 34, 35, 36] [25, 33] ?_
        simp only [go_sem, reduceIte, reduceCtorEq, zA, zM, zE, zL, zD, zS, zP, zB, zI, zR, bools_len, ints_len]
        repeat with_reducible refine cj ?_ ?_
        all_goals try first | omega
        refine hK11 _ _ _ ?_; clear hK11
        refine AW.block ?_
        refine AW.loopE (fun mm ee ss kk => ∃ (k g3 v3 g5 v5 : Nat), n - k = mm ∧ ee = [(6, .mp ⟨25, g3, none⟩), (9, .ptr ⟨33, g5, none⟩ 0 0), (10, .int .i64 (rankC bel n l k : Nat)), (34, .rsl 1 (ints l)), (35, .int .i64 n), (36, .int .i64 (k : Nat))] ∧ ss = [(25, some ⟨g3, v3, mapSz, E⟩), (33, some ⟨g5, v5, 3, [[.int .i64 n, .rsl 1 (lisR bel), .osl 1 (bools (dAt n l k))]]⟩)] ∧ (k ≤ n)) ?_ ?_
        · refine ⟨_, 0, ?_, ?_, ?_, ?_, rfl, ?henv, ?hstore, ?hst⟩
          case henv =>
            repeat' (first | rfl | refine env_cons ?_ ?_ | refine st_cons ?_ ?_ ?_ ?_ | refine int_eq ?_ | refine bool_eq ?_ | refine rsl_eq ?_ | refine osl_eq ?_ | refine sl_eq ?_ ?_ ?_ | refine ptr_eq ?_ ?_ ?_ | refine agg_eq ?_ | refine es_cons ?_ ?_ | refine row_cons ?_ ?_)
            all_goals (first | omega | rfl | (rw [hln]))
          case hstore =>
            repeat' (first | rfl | refine env_cons ?_ ?_ | refine st_cons ?_ ?_ ?_ ?_ | refine int_eq ?_ | refine bool_eq ?_ | refine rsl_eq ?_ | refine osl_eq ?_ | refine sl_eq ?_ ?_ ?_ | refine ptr_eq ?_ ?_ ?_ | refine agg_eq ?_ | refine es_cons ?_ ?_ | refine row_cons ?_ ?_)
            all_goals (first | (simp; done) | omega | (simp; omega))
          case hst =>
            first | trivial | omega | (simp; done) | (simp; omega)
        rintro mm ee ss kk ⟨k, g3, v3, g5, v5, rfl, rfl, rfl, hI⟩
        generalize hQl1 : thenQ _ _ = Ql1
        have hdl := dAt_len n l k
        refine AW.seq fun K12 hK12 => ?_
        refine AW.regionK 0 (fun _ => none) [6, 9, 10, 34, 35, 36, 37] [25, 33] ?_
        simp only [go_sem, reduceIte, reduceCtorEq, zA, zM, zE, zL, zD, zS, zP, zB, zI, zR, bools_len, ints_len]
        repeat with_reducible refine cj ?_ ?_
        all_goals try first | omega
        refine hK12 _ _ _ ?_; clear hK12
        refine AW.seq fun K13 hK13 => ?_
        refine AW.cond rfl (by simp only [go_sem, reduceIte, reduceCtorEq, zA, zM, zE, zL, zD, zS, zP, zB, zI, zR]) ?_ ?_
        · intro hb
          try simp only [hB, decide_eq_true_eq, decide_eq_false_iff_not] at hb
          have hk : k < n := by omega
          have hgx := ints_getD (l := l) (i := k) (by omega)
          obtain ⟨hx0, hx1⟩ := hIE.rng k hk
          have hfx := hIE.free k hk
          have hds := dAt_succ (n := n) (l := l) (m := k) (by omega)
          have hnx := hnext k
          have hwy := hways k hk
          have hbd := hbnd k hk
          have hrs : rankC bel n l (k + 1) = rankC bel n l k + sumF (freeL bel (dAt n l k)) (fun x => cE bel n (n - (k + 1)) ((dAt n l k).set x true)) (l.getD k 0).toNat := rfl
          generalize hX : l.getD k 0 = x at *
          generalize hD : dAt n l k = d at *
          refine AW.skip ?_
          refine hK13 _ _ _ ?_; clear hK13
          refine AW.seq fun K14 hK14 => ?_
          refine AW.block ?_
          refine AW.seq fun K15 hK15 => ?_
          refine AW.regionK 0 (fun _ => none) [6, 9, 10, 12, 34, 35, 36] [25, 33] ?_
          simp only [go_sem, reduceIte, reduceCtorEq, zA, zM, zE, zL, zD, zS, zP, zB, zI, zR, bools_len, ints_len, hgx]
          repeat with_reducible refine cj ?_ ?_
          all_goals try first | omega
          refine hK15 _ _ _ ?_; clear hK15
          refine AW.seq fun K16 hK16 => ?_
          refine AW.seq fun K17 hK17 => ?_
          refine AW.regionK 0 (fun ii => if ii = 1 then some (.reads true (.int .i64 (nxt (freeL bel d) n 0))) else none) [6, 9, 10, 12, 13, 34, 35, 36] [25, 33] ?_
          simp only [go_sem, reduceIte, reduceCtorEq, zA, zM, zE, zL, zD, zS, zP, zB, zI, zR, bools_len, ints_len]
          repeat with_reducible refine cj ?_ ?_
          all_goals try first | (exact hnx 0 (by omega)) | omega | exact ent (by kernel_rfl)
          refine hK17 _ _ _ ?_; clear hK17
          refine AW.block ?_
          refine AW.loopE (fun mm ee ss kk => ∃ (i g3 v3 g5 v5 : Nat), n + 1 - i = mm ∧ ee = [(6, .mp ⟨25, g3, none⟩), (9, .ptr ⟨33, g5, none⟩ 0 0), (10, .int .i64 (rankC bel n l k + sumF (freeL bel d) (fun x => cE bel n (n - (k + 1)) (d.set x true)) i : Nat)), (12, .int .i64 x), (13, .int .i64 (nxt (freeL bel d) n i)), (34, .rsl 1 (ints l)), (35, .int .i64 n), (36, .int .i64 (k : Nat))] ∧ ss = [(25, some ⟨g3, v3, mapSz, E⟩), (33, some ⟨g5, v5, 3, [[.int .i64 n, .rsl 1 (lisR bel), .osl 1 (bools d)]]⟩)] ∧ (i ≤ x.toNat)) ?_ ?_
          · refine ⟨_, 0, ?_, ?_, ?_, ?_, rfl, ?henv, ?hstore, ?hst⟩
            case henv =>
              repeat' (first | rfl | refine env_cons ?_ ?_ | refine st_cons ?_ ?_ ?_ ?_ | refine int_eq ?_ | refine bool_eq ?_ | refine rsl_eq ?_ | refine osl_eq ?_ | refine sl_eq ?_ ?_ ?_ | refine ptr_eq ?_ ?_ ?_ | refine agg_eq ?_ | refine es_cons ?_ ?_ | refine row_cons ?_ ?_)
              all_goals (first | (simp; done) | omega | (simp; omega))
            case hstore =>
              repeat' (first | rfl | refine env_cons ?_ ?_ | refine st_cons ?_ ?_ ?_ ?_ | refine int_eq ?_ | refine bool_eq ?_ | refine rsl_eq ?_ | refine osl_eq ?_ | refine sl_eq ?_ ?_ ?_ | refine ptr_eq ?_ ?_ ?_ | refine agg_eq ?_ | refine es_cons ?_ ?_ | refine row_cons ?_ ?_)
              all_goals (first | (simp; done) | omega | (simp; omega))
            case hst =>
              first | trivial | omega | (simp; done) | (simp; omega)
          rintro mm ee ss kk ⟨i, g3, v3, g5, v5, rfl, rfl, rfl, hI⟩
          generalize hQl2 : thenQ _ _ = Ql2
          have hsn := sum_next (p := freeL bel d) (fun x => cE bel n (n - (k + 1)) (d.set x true)) (n := n) (i := i) (x := x.toNat) hI (by omega)
          refine AW.seq fun K18 hK18 => ?_
          refine AW.seq fun K19 hK19 => ?_
          refine AW.regionK 0 (fun _ => none) [6, 9, 10, 12, 13, 34, 35, 36, 48] [25, 33] ?_
          simp only [go_sem, reduceIte, reduceCtorEq, zA, zM, zE, zL, zD, zS, zP, zB, zI, zR, bools_len, ints_len]
          repeat with_reducible refine cj ?_ ?_
          all_goals try first | omega | (intros; (repeat' apply And.intro) <;> first | assumption | omega | decide) | (intro hgd; exact absurd hgd (by decide)) | rfl | (simp only [go_sem, reduceIte, reduceCtorEq, zA, zM, zE, zL, zD, zS, zP, zB, zI, zR, bools_len, ints_len]; done) | (intro _hgd; simp_all [go_sem]; done)
          refine hK19 _ _ _ ?_; clear hK19
          refine AW.cond rfl (by simp only [go_sem, reduceIte, reduceCtorEq, zA, zM, zE, zL, zD, zS, zP, zB, zI, zR]) ?_ ?_
          · intro hb
            try simp only [hB, decide_eq_true_eq, decide_eq_false_iff_not] at hb
            have hb2 : 0 ≤ nxt (freeL bel d) n i ∧ nxt (freeL bel d) n i < (x.toNat : Int) := by
              omega
            obtain ⟨q, hq1, hq2, hq3, hq4, hq5⟩ := hsn.1 hb2
            clear hsn
            have hdq := freeL_not hq4
            have hxt : (nxt (freeL bel d) n i).toNat = q := by omega
            have hxr : 0 ≤ nxt (freeL bel d) n i ∧ nxt (freeL bel d) n i < (n : Int) := by omega
            have hxs : nxt (freeL bel d) n i + 1 = ((q + 1 : Nat) : Int) := by omega
            have hd2 : (d.set q true).length = n := by rw [List.length_set]; exact hdl
            have hk2 := hkey _ hd2
            have hw2 := hwy q (by omega) hq4
            have hn2 := hnx (q + 1) (by omega)
            have hb3 := hbd (q + 1) (by omega)
            have hss : (d.set q true).set q false = d := by rw [List.set_set, ← hdq]; exact set_same d q false
            have hsum : ((rankC bel n l k + sumF (freeL bel d) (fun x => cE bel n (n - (k + 1)) (d.set x true)) i : Nat) : Int) + (cE bel n (n - (k + 1)) (d.set q true) : Nat) = ((rankC bel n l k + sumF (freeL bel d) (fun x => cE bel n (n - (k + 1)) (d.set x true)) (q + 1) : Nat) : Int) := by rw [hq5]; omega
            refine AW.skip ?_
            refine hK18 _ _ _ ?_; clear hK18
            refine AW.seq fun K20 hK20 => ?_
            refine AW.block ?_
            refine AW.seq fun K21 hK21 => ?_
            refine AW.regionK 0 (fun _ => none) [6, 9, 10, 12, 13, 34, 35, 36] [25, 33] ?_
            simp only [go_sem, reduceIte, reduceCtorEq, zA, zM, zE, zL, zD, zS, zP, zB, zI, zR, bools_len, ints_len, hxt, hdl, bools_upd]
            repeat with_reducible refine cj ?_ ?_
            all_goals try first | omega
            refine hK21 _ _ _ ?_; clear hK21
            refine AW.seq fun K22 hK22 => ?_
            refine AW.regionK 0 (fun ii => if ii = 3 then some (.reads true (.str (keyS (d.set q true)))) else none) [6, 9, 10, 12, 13, 34, 35, 36] [25, 33] ?_
            simp only [go_sem, reduceIte, reduceCtorEq, zA, zM, zE, zL, zD, zS, zP, zB, zI, zR, bools_len, ints_len, hw2, hsum]
            repeat with_reducible refine cj ?_ ?_
            all_goals try first | (first | exact hk2 | exact hmw) | omega | exact ent (by kernel_rfl)
            refine hK22 _ _ _ ?_; clear hK22
            refine AW.regionK 0 (fun _ => none) [6, 9, 10, 12, 13, 34, 35, 36] [25, 33] ?_
            simp only [go_sem, reduceIte, reduceCtorEq, zA, zM, zE, zL, zD, zS, zP, zB, zI, zR, bools_len, ints_len, hxt, hd2, bools_upd, hss]
            repeat with_reducible refine cj ?_ ?_
            all_goals try first | omega
            refine hK20 _ _ _ ?_; clear hK20
            refine AW.regionK 0 (fun ii => if ii = 3 then some (.reads true (.int .i64 (nxt (freeL bel d) n (q + 1)))) else none) [6, 9, 10, 12, 13, 34, 35, 36] [25, 33] ?_
            simp only [go_sem, reduceIte, reduceCtorEq, zA, zM, zE, zL, zD, zS, zP, zB, zI, zR, bools_len, ints_len, hxs]
            repeat with_reducible refine cj ?_ ?_
            all_goals try first | (exact hn2) | omega | exact ent (by kernel_rfl)
            rw [← hQl2]
            change Exists _
            refine ⟨_, ?hm, q + 1, ?_, ?_, ?_, ?_, rfl, ?henv, ?hstore, ?hst⟩
            case henv =>
              repeat' (first | rfl | refine env_cons ?_ ?_ | refine st_cons ?_ ?_ ?_ ?_ | refine int_eq ?_ | refine bool_eq ?_ | refine rsl_eq ?_ | refine osl_eq ?_ | refine sl_eq ?_ ?_ ?_ | refine ptr_eq ?_ ?_ ?_ | refine agg_eq ?_ | refine es_cons ?_ ?_ | refine row_cons ?_ ?_)
              all_goals (first | (simp; done) | omega | (simp; omega))
            case hstore =>
              repeat' (first | rfl | refine env_cons ?_ ?_ | refine st_cons ?_ ?_ ?_ ?_ | refine int_eq ?_ | refine bool_eq ?_ | refine rsl_eq ?_ | refine osl_eq ?_ | refine sl_eq ?_ ?_ ?_ | refine ptr_eq ?_ ?_ ?_ | refine agg_eq ?_ | refine es_cons ?_ ?_ | refine row_cons ?_ ?_)
              all_goals (first | (simp; done) | omega | (simp; omega))
            case hst =>
              omega
            case hm => omega
          · intro hb
            try simp only [hB, decide_eq_true_eq, decide_eq_false_iff_not] at hb
            have hb9 : ¬ (0 ≤ nxt (freeL bel d) n i ∧ nxt (freeL bel d) n i < (x.toNat : Int)) := by
              clear hsn
              omega
            have hse := hsn.2 hb9
            clear hsn
            rw [← hse, ← hrs]
            refine AW.keep [6, 9, 10, 12, 34, 35, 36] [25, 33] ?_
            try simp only [go_sem, reduceIte, reduceCtorEq, zA, zM, zE, zL, zD, zS, zP, zB, zI, zR]
            refine AW.exit ?_
            rw [← hQl2]
            refine hK16 _ _ _ ?_; clear hK16
            refine AW.regionK 0 (fun _ => none) [6, 9, 10, 34, 35, 36] [25, 33] ?_
            simp only [go_sem, reduceIte, reduceCtorEq, zA, zM, zE, zL, zD, zS, zP, zB, zI, zR, bools_len, ints_len, hdl, bools_upd]
            repeat with_reducible refine cj ?_ ?_
            all_goals try first | omega
            refine hK14 _ _ _ ?_; clear hK14
            refine AW.regionK 0 (fun _ => none) [6, 9, 10, 34, 35, 36] [25, 33] ?_
            simp only [go_sem, reduceIte, reduceCtorEq, zA, zM, zE, zL, zD, zS, zP, zB, zI, zR, bools_len, ints_len]
            repeat with_reducible refine cj ?_ ?_
            all_goals try first | omega
            rw [← hQl1]
            change Exists _
            refine ⟨_, ?hm, k + 1, ?_, ?_, ?_, ?_, rfl, ?henv, ?hstore, ?hst⟩
            case henv =>
              repeat' (first | rfl | refine env_cons ?_ ?_ | refine st_cons ?_ ?_ ?_ ?_ | refine int_eq ?_ | refine bool_eq ?_ | refine rsl_eq ?_ | refine osl_eq ?_ | refine sl_eq ?_ ?_ ?_ | refine ptr_eq ?_ ?_ ?_ | refine agg_eq ?_ | refine es_cons ?_ ?_ | refine row_cons ?_ ?_)
              all_goals (first | (simp; done) | omega | (simp; omega))
            case hstore =>
              repeat' (first | rfl | refine env_cons ?_ ?_ | refine st_cons ?_ ?_ ?_ ?_ | refine int_eq ?_ | refine bool_eq ?_ | refine rsl_eq ?_ | refine osl_eq ?_ | refine sl_eq ?_ ?_ ?_ | refine ptr_eq ?_ ?_ ?_ | refine agg_eq ?_ | refine es_cons ?_ ?_ | refine row_cons ?_ ?_)
              all_goals (rw [hds])
            case hst =>
              omega
            case hm => omega
        · intro hb
          try simp only [hB, decide_eq_true_eq, decide_eq_false_iff_not] at hb
          have hkn : k = n := by omega
          subst hkn
          refine AW.keep [10] [25, 33] ?_
          try simp only [go_sem, reduceIte, reduceCtorEq, zA, zM, zE, zL, zD, zS, zP, zB, zI, zR]
          refine AW.exit ?_
          rw [← hQl1]
          refine hK10 _ _ _ ?_; clear hK10
          refine AW.seq fun K23 hK23 => ?_
          refine AW.regionK 0 (fun _ => none) [4, 5] [25, 33] ?_
          simp only [go_sem, reduceIte, reduceCtorEq, zA, zM, zE, zL, zD, zS, zP, zB, zI, zR, bools_len, ints_len]
          repeat with_reducible refine cj ?_ ?_
          all_goals try first | omega
          refine hK23 _ _ _ ?_; clear hK23
          refine AW.ret ?_
          rw [← hQr]
          simp only [go_sem, reduceIte, reduceCtorEq, zA, zM, zE, zL, zD, zS, zP, zB, zI, zR, bools_len, ints_len]
          exact Wk.refl _
end Go.Proofs.X

namespace Go.Proofs.X
open Go.AM Go
set_option maxRecDepth 100000
set_option maxHeartbeats 4000000
end Go.Proofs.X

/- The reference's words about linear extensions. -/
namespace Go.AM
def eaOk (n : Nat) (d : List Bool) (i : Int) : Bool := decide (0 ≤ i) && decide (i < n) && !d.getD i.toNat false
def eachGo (n : Nat) : List Bool → List Int → Bool
  | _, [] => true
  | d, i :: l => eaOk n d i && eachGo n (d.set i.toNat true) l
def eachB (n : Nat) (l : List Int) : Bool := decide (l.length = n) && eachGo n (List.replicate n false) l
theorem eachGo_app (n : Nat) : ∀ (l m : List Int) (d : List Bool), eachGo n d (l ++ m) = (eachGo n d l && eachGo n (exD d l) m)
  | [], m, d => by simp [eachGo, exD]
  | i :: l, m, d => by
    show (eaOk n d i && eachGo n (d.set i.toNat true) (l ++ m)) = ((eaOk n d i && eachGo n (d.set i.toNat true) l) && eachGo n (exD (d.set i.toNat true) l) m)
    rw [eachGo_app n l m, Bool.and_assoc]
structure IsEach (n : Nat) (l : List Int) : Prop where
  len : l.length = n
  rng : ∀ m, m < n → 0 ≤ l.getD m 0 ∧ l.getD m 0 < (n : Int)
  new : ∀ m, m < n → (dAt n l m).getD (l.getD m 0).toNat false = false
theorem eachGo_at {n : Nat} {d : List Bool} {l : List Int} (h : eachGo n d l = true) {m : Nat} (hm : m < l.length) : eaOk n (exD d (l.take m)) (l.getD m 0) = true := by
  have h1 := eachGo_app n (l.take m) (l.drop m) d
  rw [List.take_append_drop, h] at h1
  have h2 : eachGo n (exD d (l.take m)) (l.drop m) = true := by
    cases e : eachGo n (exD d (l.take m)) (l.drop m) with
    | true => rfl
    | false => rw [e] at h1; simp at h1
  rw [List.drop_eq_getElem_cons hm] at h2
  unfold eachGo at h2
  simp only [Bool.and_eq_true] at h2
  have : l.getD m 0 = l[m] := by simp [List.getD_eq_getElem?_getD, List.getElem?_eq_getElem hm]
  rw [this]; exact h2.1
theorem eachB_iff {n : Nat} {l : List Int} : eachB n l = true ↔ IsEach n l := by
  constructor
  · intro h
    unfold eachB at h
    simp only [Bool.and_eq_true, decide_eq_true_eq] at h
    have key := fun m (hm : m < n) => eachGo_at h.2 (m := m) (by omega)
    unfold eaOk at key
    simp only [Bool.and_eq_true, decide_eq_true_eq, Bool.not_eq_true'] at key
    exact ⟨h.1, fun m hm => (key m hm).1, fun m hm => (key m hm).2⟩
  · intro h
    unfold eachB
    simp only [Bool.and_eq_true, decide_eq_true_eq]
    refine ⟨h.len, ?_⟩
    have : ∀ m, m ≤ n → eachGo n (List.replicate n false) (l.take m) = true := by
      intro m
      induction m with
      | zero => intro _; simp [eachGo]
      | succ m ih =>
        intro hm
        rw [List.take_add_one, List.getElem?_eq_getElem (by rw [h.len]; omega), Option.toList_some, eachGo_app, ih (by omega), Bool.true_and]
        have h1 := h.rng m (by omega)
        have h2 := h.new m (by omega)
        have e : l[m]'(by rw [h.len]; omega) = l.getD m 0 := by simp [List.getD_eq_getElem?_getD, List.getElem?_eq_getElem (show m < l.length by rw [h.len]; omega)]
        rw [e]
        unfold dAt at h2
        simp only [eachGo, eaOk, h1.1, h1.2, h2, decide_true, Bool.and_self, Bool.not_false]
    have := this n (Nat.le_refl _)
    rwa [List.take_of_length_le (by rw [h.len]; exact Nat.le_refl _)] at this
/-- What is marked was in the list. -/
theorem dAt_mem {n : Nat} {l : List Int} (hr : ∀ m, m < n → 0 ≤ l.getD m 0 ∧ l.getD m 0 < (n : Int)) (hl : l.length = n) {i : Nat} (hi : i < n) : ∀ m, m ≤ n → ((dAt n l m).getD i false = true ↔ ∃ k, k < m ∧ l.getD k 0 = (i : Nat))
  | 0, _ => by simp [dAt, exD, List.getD_eq_getElem?_getD, List.getElem?_replicate]; split <;> simp
  | m + 1, hm => by
    have ih := dAt_mem hr hl hi m (by omega)
    have h1 := hr m (by omega)
    rw [dAt_succ (by omega), getD_setB]
    by_cases e : (l.getD m 0).toNat = i
    · rw [if_pos ⟨e, by rw [dAt_len]; omega⟩]
      exact ⟨fun _ => ⟨m, by omega, by omega⟩, fun _ => rfl⟩
    · rw [if_neg (fun h => e h.1), ih]
      constructor
      · rintro ⟨k, h2, h3⟩; exact ⟨k, by omega, h3⟩
      · rintro ⟨k, h2, h3⟩
        rcases Nat.lt_succ_iff_lt_or_eq.1 h2 with h4 | h4
        · exact ⟨k, h4, h3⟩
        · subst h4; omega
theorem IsEach.cnt {n : Nat} {l : List Int} (h : IsEach n l) : ∀ m, m ≤ n → cntT (dAt n l m) = m
  | 0, _ => by simp [dAt, exD, cntT_rep]
  | m + 1, hm => by
    have h1 := h.rng m (by omega)
    rw [dAt_succ (by rw [h.len]; omega), cntT_set (by rw [dAt_len]; omega) (h.new m (by omega)), h.cnt m (by omega)]
theorem IsEach.has {n : Nat} {l : List Int} (h : IsEach n l) {i : Nat} (hi : i < n) : ∃ k, k < n ∧ l.getD k 0 = (i : Nat) := by
  have := all_true (d := dAt n l n) (by rw [h.cnt n (Nat.le_refl _), dAt_len])
  rw [dAt_len] at this
  refine (dAt_mem h.rng h.len hi n (Nat.le_refl _)).1 ?_
  rw [this]; simp [List.getD_eq_getElem?_getD, hi]
theorem IsEach.inj {n : Nat} {l : List Int} (h : IsEach n l) {a b : Nat} (ha : a < b) (hb : b < n) : l.getD a 0 ≠ l.getD b 0 := by
  intro e
  have h1 := h.rng b hb
  have h2 := h.new b hb
  have h3 := (dAt_mem h.rng h.len (i := (l.getD b 0).toNat) (by omega) b (by omega)).2 ⟨a, ha, by omega⟩
  rw [h2] at h3; cases h3
theorem IsExt.each {n : Nat} {bel : List (List Int)} {l : List Int} (h : IsExt n bel l) : IsEach n l := ⟨h.len, h.rng, fun m hm => freeL_not (h.free m hm)⟩
/-- No later element is below an earlier one. -/
def noLess (t : List (List Bool)) (l : List Int) (j i : Nat) : Bool := !atT t (l.getD j 0).toNat (l.getD i 0).toNat
theorem ext_iff {n : Nat} {t : List (List Bool)} (hp : IsPo n t) {l : List Int} : extB n (belL n t) l = true ↔ eachB n l = true ∧ ∀ j, j < n → ∀ i, i < j → noLess t l j i = true := by
  rw [extB_iff, eachB_iff]
  constructor
  · intro h
    refine ⟨h.each, fun j hj i hi => ?_⟩
    have h1 := h.rng i (by omega)
    have h2 := h.rng j hj
    unfold noLess
    cases ha : atT t (l.getD j 0).toNat (l.getD i 0).toNat with
    | false => rfl
    | true =>
      have h3 := ((freeL_iff (by omega)).1 (h.free i (by omega))).2 _ (by omega) ha
      obtain ⟨k, h4, h5⟩ := (dAt_mem h.rng h.len (by omega) i (by omega)).1 h3
      exact absurd (show l.getD k 0 = l.getD j 0 by omega) (h.each.inj (a := k) (b := j) (by omega) hj)
  · rintro ⟨h, hno⟩
    refine ⟨h.len, h.rng, fun m hm => ?_⟩
    have h1 := h.rng m hm
    refine (freeL_iff (by omega)).2 ⟨h.new m hm, fun j hj ha => ?_⟩
    obtain ⟨k, h2, h3⟩ := h.has hj
    refine (dAt_mem h.rng h.len hj m (by omega)).2 ⟨k, ?_, h3⟩
    apply Classical.byContradiction
    intro hk
    rcases Nat.eq_or_lt_of_le (Nat.le_of_not_lt hk) with e | e
    · subst e
      rw [h3, Int.toNat_natCast] at ha
      rw [hp.irr j hj] at ha; cases ha
    · have h4 := hno k h2 m e
      unfold noLess at h4
      rw [h3, Int.toNat_natCast, ha] at h4; cases h4
end Go.AM

namespace Go.Proofs.X
open Go.AM Go
set_option maxRecDepth 100000
set_option maxHeartbeats 4000000
end Go.Proofs.X

namespace Go.Proofs.X
open Go.AM Go
set_option maxRecDepth 100000
set_option maxHeartbeats 4000000
end Go.Proofs.X

namespace Go.Proofs.X
open Go.AM Go
set_option maxRecDepth 100000
set_option maxHeartbeats 4000000
end Go.Proofs.X

namespace Go.Proofs.X
open Go.AM Go
set_option maxRecDepth 100000
set_option maxHeartbeats 4000000
theorem row_f (w : Int) : Reads Tryd.prog 39 true [.int .u64 w] (.agg [.int .i64 3, .rsl 1 (words [w])]) := by
  refine Reads.bodyF (rs := [.cell 2 47]) Tryd.func39 rfl Tryd.ntmps39 rfl (by simp) ?_
  generalize hQr : retQ _ _ _ = Qr
  refine AW.seq fun K1 hK1 => ?_
  refine AW.regionK 0 (fun _ => none) [0, 2] [2] ?_
  simp only [go_sem, reduceIte, reduceCtorEq, zA, zM, zE, zL, zD, zS, zP, zB, zI, zR]
  repeat with_reducible refine cj ?_ ?_
  all_goals try first | omega
  refine hK1 _ _ _ ?_; clear hK1
  refine AW.seq fun K2 hK2 => ?_
  refine AW.regionK 0 (fun _ => none) [2] [2, 4] ?_
  simp only [go_sem, reduceIte, reduceCtorEq, zA, zM, zE, zL, zD, zS, zP, zB, zI, zR]
  repeat with_reducible refine cj ?_ ?_
  all_goals try first | omega
  refine hK2 _ _ _ ?_; clear hK2
  refine AW.ret ?_
  rw [← hQr]
  simp only [go_sem, reduceIte, reduceCtorEq, zA, zM, zE, zL, zD, zS, zP, zB, zI, zR]
  exact Wk.refl _
def t3 : List (List Bool) := [[false, false, false], [false, false, false], [true, false, false]]
theorem t3_sq : Sq 3 t3 := ⟨rfl, by decide⟩
theorem t3_po : poB 3 t3 = true := by decide +kernel
theorem t3_least : leastL 3 t3 = [1, 2, 0] := by decide +kernel
theorem t3_cnt : cntL (belL 3 t3) 3 3 ≤ 5000 := by decide +kernel
theorem t3_cE : cE (belL 3 t3) 3 3 (List.replicate 3 false) = 3 := by decide +kernel
theorem t3_all : allW 3 t3 = 3 := by rw [allW_eq, t3_cE]; rfl
theorem t3_next : nextK (belL 3 t3) 3 [1, 2, 0] 3 = some [2, 0, 1] := by decide +kernel
theorem t3_x1 : extB 3 (belL 3 t3) [1, 2, 0] = true := by decide +kernel
theorem t3_x2 : extB 3 (belL 3 t3) [2, 1, 0] = true := by decide +kernel
theorem t3_rank : rankC (belL 3 t3) 3 [2, 1, 0] 3 = 2 := by decide +kernel
theorem t3_tab : tabR t3 = [[.int .i64 3, .rsl 1 (words [0])], [.int .i64 3, .rsl 1 (words [0])], [.int .i64 3, .rsl 1 (words [1])]] := by
  have h0 : setW [false, false, false] 3 = [0] := by decide +kernel
  have h1 : setW [true, false, false] 3 = [1] := by decide +kernel
  simp [tabR, t3, rowB, h0, h1]
theorem awake_r : Reads Tryd.prog 11 false [] (.bool true) := by
  have hr0 := row_f 0
  have hr1 := row_f 1
  have h1 := least_g 3 t3 t3_sq (by decide) t3_po
  have h2 := count_u 3 t3 t3_sq (by decide) t3_po t3_cnt (by rw [t3_all]; decide)
  have h3 := next_f 3 t3 t3_sq (by decide) t3_po [1, 2, 0] t3_x1
  have h4 := Reads.flat (rank_u 3 t3 t3_sq (by decide) t3_po t3_cnt (by rw [t3_all]; decide) [2, 1, 0] t3_x2) rfl
  have h5 := Reads.flat (eqi_refl [1, 2, 0] (by decide)) rfl
  have h6 := Reads.flat (eqi_refl [2, 0, 1] (by decide)) rfl
  rw [t3_least] at h1
  rw [t3_all] at h2
  rw [t3_next] at h3
  rw [t3_rank] at h4
  unfold relB nextV at *
  rw [t3_tab] at h1 h2 h3 h4
  simp only [ints, words, List.map_cons, List.map_nil] at *
  refine Reads.body (rs := [.tmp 0]) Tryd.func11 rfl Tryd.ntmps11 rfl (by simp) ?_
  generalize hQr : retQ _ _ _ = Qr
  refine AW.seq fun K1 hK1 => ?_
  refine AW.regionK 0 (fun _ => none) [] [1] ?_
  simp only [go_sem, reduceIte, reduceCtorEq, zA, zM, zE, zL, zD, zS, zP, zB, zI, zR]
  repeat with_reducible refine cj ?_ ?_
  all_goals try first | omega
  refine hK1 _ _ _ ?_; clear hK1
  refine AW.seq fun K2 hK2 => ?_
  refine AW.regionK 0 (fun ii => if ii = 0 then some (.reads true (.agg [.int .i64 3, .rsl 1 [[.int .u64 0]]])) else if ii = 1 then some (.reads true (.agg [.int .i64 3, .rsl 1 [[.int .u64 0]]])) else if ii = 2 then some (.reads true (.agg [.int .i64 3, .rsl 1 [[.int .u64 1]]])) else none) [1] [1, 13] ?_
  simp only [go_sem, reduceIte, reduceCtorEq, zA, zM, zE, zL, zD, zS, zP, zB, zI, zR]
  repeat with_reducible refine cj ?_ ?_
  all_goals try first | (first | exact hr0 | exact hr1) | omega | exact ent (by kernel_rfl)
  refine hK2 _ _ _ ?_; clear hK2
  refine AW.frzCellK [13] 5 1 0 0 ?_
  simp only [go_sem, reduceIte, zE]
  refine ⟨rfl, by decide, by decide, by decide, ?_⟩
  refine AW.keep [1] [1] ?_
  simp only [go_sem, reduceIte, zE]
  refine AW.seq fun K3 hK3 => ?_
  refine AW.regionK 0 (fun ii => if ii = 1 then some (.reads false (.tup [.rsl 1 [[.int .i64 1], [.int .i64 2], [.int .i64 0]], .int .i64 0])) else none) [1, 2, 3] [1, 13] ?_
  simp only [go_sem, reduceIte, reduceCtorEq, zA, zM, zE, zL, zD, zS, zP, zB, zI, zR]
  repeat with_reducible refine cj ?_ ?_
  all_goals try first | (exact h1) | omega | exact ent (by kernel_rfl)
  refine hK3 _ _ _ ?_; clear hK3
  refine AW.seq fun K4 hK4 => ?_
  refine AW.regionK 0 (fun ii => if ii = 1 then some (.reads false (.tup [.int .i64 3, .int .i64 0])) else none) [1, 2, 3, 4, 5] [1, 13] ?_
  simp only [go_sem, reduceIte, reduceCtorEq, zA, zM, zE, zL, zD, zS, zP, zB, zI, zR]
  repeat with_reducible refine cj ?_ ?_
  all_goals try first | (exact h2) | omega | exact ent (by kernel_rfl)
  refine hK4 _ _ _ ?_; clear hK4
  refine AW.seq fun K5 hK5 => ?_
  refine AW.regionK 0 (fun ii => if ii = 2 then some (.reads true (.tup [.rsl 1 [[.int .i64 2], [.int .i64 0], [.int .i64 1]], .int .i64 0])) else none) [1, 2, 3, 4, 5, 6, 7] [1, 13] ?_
  simp only [go_sem, reduceIte, reduceCtorEq, zA, zM, zE, zL, zD, zS, zP, zB, zI, zR]
  repeat with_reducible refine cj ?_ ?_
  all_goals try first | (exact h3) | omega | exact ent (by kernel_rfl)
  refine hK5 _ _ _ ?_; clear hK5
  refine AW.seq fun K6 hK6 => ?_
  refine AW.regionK 0 (fun ii => if ii = 2 then some (.reads true (.tup [.int .i64 ((2 : Nat) : Int), .int .i64 0])) else none) [2, 3, 4, 5, 6, 7, 8, 9] [1] ?_
  simp only [go_sem, reduceIte, reduceCtorEq, zA, zM, zE, zL, zD, zS, zP, zB, zI, zR]
  repeat with_reducible refine cj ?_ ?_
  all_goals try first | (exact h4) | omega | exact ent (by kernel_rfl)
  refine hK6 _ _ _ ?_; clear hK6
  refine AW.seq fun K7 hK7 => ?_
  refine AW.regionK 0 (fun ii => if ii = 2 then some (.reads true (.bool true)) else if ii = 18 then some (.reads true (.bool true)) else none) [0] [1] ?_
  simp only [go_sem, reduceIte, reduceCtorEq, zA, zM, zE, zL, zD, zS, zP, zB, zI, zR]
  repeat with_reducible refine cj ?_ ?_
  all_goals try first | (first | exact h5 | exact h6 | exact fun _ => h6) | (intros; (repeat' apply And.intro) <;> first | assumption | (first | exact h5 | exact h6 | exact fun _ => h6)) | omega | exact ent (by kernel_rfl) | (intro hgd; exact absurd hgd (by decide)) | rfl | (simp only [go_sem, reduceIte, reduceCtorEq, zA, zM, zE, zL, zD, zS, zP, zB, zI, zR]; done) | (intro _hgd; simp_all [go_sem]; done)
  refine hK7 _ _ _ ?_; clear hK7
  refine AW.ret ?_
  rw [← hQr]
  simp only [go_sem, reduceIte, reduceCtorEq, zA, zM, zE, zL, zD, zS, zP, zB, zI, zR]
  exact Wk.of_eq (by simp)
end Go.Proofs.X

namespace Go.Proofs.X
open Go.AM Go
set_option maxRecDepth 100000
set_option maxHeartbeats 4000000
end Go.Proofs.X

/- The reference's way to count: from an ideal upwards, with the ways to each one. -/
namespace Go.AM
structure RStE where
  nx : List (List Bool)
  sm : List Int
  bg : Bool
def capM (v : Int) : Int := if 1125899906842624 < v then 1125899906842625 else v
def rNew (st : RStE) (y : List Bool) : RStE := if y ∈ st.nx then st else ⟨st.nx ++ [y], st.sm ++ [0], st.bg⟩
def rPut (st : RStE) (a : Nat) (w : Int) : RStE := ⟨st.nx, st.sm.set a (capM (st.sm.getD a 0 + w)), st.bg || decide (1125899906842624 < st.sm.getD a 0 + w)⟩
def rAdd (w : Int) (st : RStE) (y : List Bool) : RStE := rPut (rNew st y) ((rNew st y).nx.idxOf y) w
def rS (bel : List (List Int)) (S : List Bool) (w : Int) (m : Nat) (st : RStE) : RStE := fr (freeL bel S) (fun st x => rAdd w st (S.set x true)) m st
def rFold (bel : List (List Int)) (n : Nat) (L : List (List Bool × Int)) (st : RStE) : RStE := L.foldl (fun st p => rS bel p.1 p.2 n st) st
structure ROk (st : RStE) : Prop where
  len : st.nx.length = st.sm.length
  rng : ∀ v ∈ st.sm, 0 ≤ v ∧ v ≤ 1125899906842625
  cap : st.bg = false → ∀ v ∈ st.sm, v ≤ 1125899906842624
theorem ROk.new {st : RStE} (h : ROk st) (y : List Bool) : ROk (rNew st y) := by
  unfold rNew
  split
  · exact h
  · refine ⟨by simp [h.len], fun v hv => ?_, fun hb v hv => ?_⟩
    · rcases List.mem_append.1 hv with e | e
      · exact h.rng v e
      · rw [List.mem_singleton.1 e]; exact ⟨by decide, by decide⟩
    · rcases List.mem_append.1 hv with e | e
      · exact h.cap hb v e
      · rw [List.mem_singleton.1 e]; decide
theorem ROk.getD {st : RStE} (h : ROk st) (a : Nat) : 0 ≤ st.sm.getD a 0 ∧ st.sm.getD a 0 ≤ 1125899906842625 := by
  by_cases ha : a < st.sm.length
  · rw [List.getD_eq_getElem?_getD, List.getElem?_eq_getElem ha]
    exact h.rng _ (List.getElem_mem ha)
  · rw [List.getD_eq_getElem?_getD, List.getElem?_eq_none (by omega)]
    exact ⟨by decide, by decide⟩
theorem ROk.put {st : RStE} (h : ROk st) (a : Nat) {w : Int} (hw : 0 ≤ w) : ROk (rPut st a w) := by
  refine ⟨by simp [rPut, h.len], fun v hv => ?_, fun hb v hv => ?_⟩
  · rcases List.mem_or_eq_of_mem_set hv with e | e
    · exact h.rng v e
    · have := h.getD a
      rw [e]; unfold capM; split <;> omega
  · simp only [rPut, Bool.or_eq_false_iff, decide_eq_false_iff_not] at hb
    rcases List.mem_or_eq_of_mem_set hv with e | e
    · exact h.cap hb.1 v e
    · rw [e]; unfold capM; rw [if_neg hb.2]; omega
theorem ROk.add {st : RStE} (h : ROk st) (y : List Bool) {w : Int} (hw : 0 ≤ w) : ROk (rAdd w st y) := (h.new y).put _ hw
theorem ROk.s {bel : List (List Int)} {S : List Bool} {w : Int} (hw : 0 ≤ w) : ∀ (m : Nat) {st : RStE}, ROk st → ROk (rS bel S w m st)
  | 0, _, h => h
  | m + 1, st, h => by
    have ih := ROk.s (bel := bel) (S := S) hw m h
    unfold rS at *
    cases hf : freeL bel S m with
    | true => rw [fr_succ _ hf]; exact ih.add _ hw
    | false => rw [fr_miss _ hf]; exact ih
theorem ROk.fold {bel : List (List Int)} {n : Nat} : ∀ {L : List (List Bool × Int)} {st : RStE}, (∀ p ∈ L, 0 ≤ p.2) → ROk st → ROk (rFold bel n L st)
  | [], _, _, h => h
  | p :: L, st, hL, h => by
    have := ROk.fold (bel := bel) (n := n) (L := L) (fun q hq => hL q (List.mem_cons_of_mem _ hq)) (h.s (bel := bel) (S := p.1) (hL p List.mem_cons_self) n)
    exact this
/-! ### What the sums say. -/
end Go.AM

/- The reference's count is the number of ways. -/
namespace Go.AM
theorem ROk.empty (b : Bool) : ROk ⟨[], [], b⟩ := ⟨rfl, fun v hv => (by cases hv), fun _ v hv => (by cases hv)⟩
theorem cE_pos {n : Nat} {t : List (List Bool)} (hp : IsPo n t) : ∀ (q : Nat) (y : List Bool), y.length = n → cntT y + q = n → 1 ≤ cE (belL n t) n q y
  | 0, _, _, _ => Nat.le_refl _
  | q + 1, y, hy, hc => by
    obtain ⟨k, _, _, hk, hf⟩ := nxt_is (nxt_ge hp hy (by omega))
    have ih := cE_pos hp q (y.set k true) (by rw [List.length_set]; exact hy) (by rw [cntT_set (by omega) (freeL_not hf)]; omega)
    have h1 := sumF_succ (p := freeL (belL n t) y) (fun x => cE (belL n t) n q (y.set x true)) hf
    have h2 := sumF_mono (freeL (belL n t) y) (fun x => cE (belL n t) n q (y.set x true)) (k + 1) n hk
    show 1 ≤ sumF _ _ n
    omega
end Go.AM

namespace Go.Proofs.X
open Go.AM Go
set_option maxRecDepth 100000
set_option maxHeartbeats 8000000
@[go_sem] theorem vwc_rowsR (s : Store) (d : Nat) (t : List (List Bool)) : (rowsR t).map (fun cs => cs.map (vwc s d)) = rowsR t := by simp [rowsR, vwc_rsl]
end Go.Proofs.X

namespace Go.Proofs.X
open Go.AM Go
set_option maxRecDepth 100000
set_option maxHeartbeats 4000000
end Go.Proofs.X

/- Each rank is the rank of an extension. -/
namespace Go.AM
theorem getD_left {l : List Int} {x : Int} {q : Nat} (h : q < l.length) : (l ++ [x]).getD q 0 = l.getD q 0 := by
  rw [List.getD_eq_getElem?_getD, List.getElem?_append_left h, ← List.getD_eq_getElem?_getD]
theorem getD_last {l : List Int} {x : Int} : (l ++ [x]).getD l.length 0 = x := by simp [List.getD_eq_getElem?_getD]
theorem dAt_left {n : Nat} {l : List Int} {x : Int} {q : Nat} (h : q ≤ l.length) : dAt n (l ++ [x]) q = dAt n l q := by
  unfold dAt; rw [List.take_append_of_le_length h]
theorem rankC_left {bel : List (List Int)} {n : Nat} {l : List Int} {x : Int} : ∀ q, q ≤ l.length → rankC bel n (l ++ [x]) q = rankC bel n l q
  | 0, _ => rfl
  | q + 1, h => by
    show rankC bel n (l ++ [x]) q + _ = rankC bel n l q + _
    rw [rankC_left q (by omega), dAt_left (by omega), getD_left (by omega)]
structure IsPre (n : Nat) (bel : List (List Int)) (l : List Int) : Prop where
  le : l.length ≤ n
  rng : ∀ m, m < l.length → 0 ≤ l.getD m 0 ∧ l.getD m 0 < (n : Int)
  free : ∀ m, m < l.length → freeL bel (dAt n l m) (l.getD m 0).toNat = true
theorem IsPre.snoc {n : Nat} {bel : List (List Int)} {l : List Int} (h : IsPre n bel l) {x : Nat} (hl : l.length < n) (hx : x < n) (hf : freeL bel (dAt n l l.length) x = true) : IsPre n bel (l ++ [((x : Nat) : Int)]) := by
  refine ⟨by simp; omega, fun m hm => ?_, fun m hm => ?_⟩
  · simp only [List.length_append, List.length_cons, List.length_nil] at hm
    by_cases e : m < l.length
    · rw [getD_left e]; exact h.rng m e
    · rw [show m = l.length by omega, getD_last]; omega
  · simp only [List.length_append, List.length_cons, List.length_nil] at hm
    by_cases e : m < l.length
    · rw [getD_left e, dAt_left (by omega)]; exact h.free m e
    · rw [show m = l.length by omega, getD_last, dAt_left (Nat.le_refl _)]; exact hf
theorem IsPre.ext {n : Nat} {bel : List (List Int)} {l : List Int} (h : IsPre n bel l) (hl : l.length = n) : IsExt n bel l := ⟨hl, fun m hm => h.rng m (by omega), fun m hm => h.free m (by omega)⟩
end Go.AM

namespace Go.Proofs.X
open Go.AM Go
set_option maxRecDepth 100000
set_option maxHeartbeats 4000000
end Go.Proofs.X

namespace Go.Proofs.X
open Go.AM Go
set_option maxRecDepth 100000
set_option maxHeartbeats 4000000
end Go.Proofs.X

namespace Go.Proofs.X
open Go.AM Go
set_option maxRecDepth 100000
set_option maxHeartbeats 4000000
end Go.Proofs.X

/- The next extension has the next rank. -/
namespace Go.AM
theorem fin_pre {n : Nat} {t : List (List Bool)} (hp : IsPo n t) {l : List Int} (h : IsPre n (belL n t) l) : ∀ j, l.length + j ≤ n →
    IsPre n (belL n t) (finI (belL n t) n (dAt n l l.length, l) j).2 ∧ (finI (belL n t) n (dAt n l l.length, l) j).1 = dAt n (finI (belL n t) n (dAt n l l.length, l) j).2 (l.length + j) ∧
    (finI (belL n t) n (dAt n l l.length, l) j).2.take l.length = l ∧ rankC (belL n t) n (finI (belL n t) n (dAt n l l.length, l) j).2 (l.length + j) = rankC (belL n t) n l l.length
  | 0, _ => ⟨h, rfl, List.take_of_length_le (Nat.le_refl _), rfl⟩
  | j + 1, hj => by
    obtain ⟨h1, h2, h3, h4⟩ := fin_pre hp h j (by omega)
    have hl := finI_l (belL n t) n (dAt n l l.length, l) j
    have hd := (finI_d (belL n t) n (dAt n l l.length, l) j).trans (dAt_len n l l.length)
    generalize hX : finI (belL n t) n (dAt n l l.length, l) j = X at *
    simp only at hl
    have hcnt : ∀ q, q ≤ X.2.length → cntT (dAt n X.2 q) = q := by
      intro q
      induction q with
      | zero => intro _; simp [dAt, exD, cntT_rep]
      | succ q ih =>
        intro hq
        have hr := h1.rng q (by omega)
        rw [dAt_succ (by omega), cntT_set (by rw [dAt_len]; omega) (freeL_not (h1.free q (by omega))), ih (by omega)]
    have hc := hcnt X.2.length (Nat.le_refl _)
    rw [hl] at hc
    obtain ⟨k, hk1, _, hk2, hk3⟩ := nxt_is (nxt_ge hp hd (by rw [h2, hc]; omega))
    have hmin : ∀ y, y < k → freeL (belL n t) X.1 y = false := fun y hy => by
      rcases nxt_spec (p := freeL (belL n t) X.1) (n := n) (n - 0) 0 rfl with ⟨e, _⟩ | ⟨k2, e, _, _, _, h5⟩
      · omega
      · exact h5 y (Nat.zero_le _) (by omega)
    have hstep : finI (belL n t) n (dAt n l l.length, l) (j + 1) = (X.1.set k true, X.2 ++ [((k : Nat) : Int)]) := by
      show finStep (belL n t) n (finI (belL n t) n (dAt n l l.length, l) j) = _
      rw [hX]; unfold finStep; rw [hk1, Int.toNat_natCast]
    rw [hstep]
    have hfree : freeL (belL n t) (dAt n X.2 X.2.length) k = true := by rw [hl, ← h2]; exact hk3
    refine ⟨h1.snoc (by omega) hk2 hfree, ?_, ?_, ?_⟩
    · show X.1.set k true = _
      rw [show l.length + (j + 1) = X.2.length + 1 by omega, dAt_succ (by simp), dAt_left (Nat.le_refl _), getD_last, Int.toNat_natCast, hl, ← h2]
    · show (X.2 ++ [((k : Nat) : Int)]).take l.length = l
      rw [List.take_append_of_le_length (by omega), h3]
    · show rankC (belL n t) n (X.2 ++ [((k : Nat) : Int)]) (l.length + j + 1) = _
      show rankC (belL n t) n (X.2 ++ [((k : Nat) : Int)]) (l.length + j) + _ = _
      rw [rankC_left _ (by omega), h4, dAt_left (by omega), ← hl, getD_last, Int.toNat_natCast]
      have : sumF (freeL (belL n t) (dAt n X.2 X.2.length)) (fun x => cE (belL n t) n (n - (X.2.length + 1)) ((dAt n X.2 X.2.length).set x true)) k = 0 := by
        rw [sumF_skip (i := 0) _ (Nat.zero_le _) (fun y _ hy => by rw [hl, ← h2]; exact hmin y hy)]; rfl
      rw [this]; rfl
theorem fin_ext {n : Nat} {t : List (List Bool)} (hp : IsPo n t) {l : List Int} (h : IsPre n (belL n t) l) : IsExt n (belL n t) (finI (belL n t) n (dAt n l l.length, l) (n - l.length)).2 ∧ (finI (belL n t) n (dAt n l l.length, l) (n - l.length)).2.take l.length = l ∧ rankC (belL n t) n (finI (belL n t) n (dAt n l l.length, l) (n - l.length)).2 n = rankC (belL n t) n l l.length := by
  have hle := h.le
  obtain ⟨h1, h2, h3, h4⟩ := fin_pre hp h (n - l.length) (by omega)
  have hl := finI_l (belL n t) n (dAt n l l.length, l) (n - l.length)
  rw [show l.length + (n - l.length) = n by omega] at h4
  exact ⟨h1.ext (by rw [hl]; simp only; omega), h3, h4⟩
theorem IsExt.pre {n : Nat} {bel : List (List Int)} {l : List Int} (h : IsExt n bel l) (m : Nat) (hm : m ≤ n) : IsPre n bel (l.take m) := by
  have hl : (l.take m).length = m := by simp [h.len, hm]
  have hg : ∀ q, q < m → (l.take m).getD q 0 = l.getD q 0 := fun q hq => by rw [List.getD_eq_getElem?_getD, List.getElem?_take_of_lt hq, ← List.getD_eq_getElem?_getD]
  have hd : ∀ q, q ≤ m → dAt n (l.take m) q = dAt n l q := fun q hq => by unfold dAt; rw [List.take_take, Nat.min_eq_left hq]
  refine ⟨by omega, fun q hq => ?_, fun q hq => ?_⟩
  · rw [hg q (by omega)]; exact h.rng q (by omega)
  · rw [hg q (by omega), hd q (by omega)]; exact h.free q (by omega)
theorem rankC_take {bel : List (List Int)} {n : Nat} {l : List Int} {m : Nat} : ∀ q, q ≤ m → rankC bel n (l.take m) q = rankC bel n l q
  | 0, _ => rfl
  | q + 1, h => by
    show rankC bel n (l.take m) q + _ = rankC bel n l q + _
    rw [rankC_take q (by omega)]
    have hd : dAt n (l.take m) q = dAt n l q := by unfold dAt; rw [List.take_take, Nat.min_eq_left (by omega)]
    have hg : (l.take m).getD q 0 = l.getD q 0 := by rw [List.getD_eq_getElem?_getD, List.getElem?_take_of_lt (by omega), ← List.getD_eq_getElem?_getD]
    rw [hd, hg]
theorem least_ext {n : Nat} {t : List (List Bool)} (hp : IsPo n t) : IsExt n (belL n t) (finI (belL n t) n (List.replicate n false, []) n).2 ∧ rankC (belL n t) n (finI (belL n t) n (List.replicate n false, []) n).2 n = 0 := by
  have h := fin_ext hp (l := []) ⟨Nat.zero_le _, fun m h => by simp at h, fun m h => by simp at h⟩
  exact ⟨h.1, h.2.2⟩
/-- Nothing greater stands from m on. -/
theorem tail_rank {n : Nat} {bel : List (List Int)} {l : List Int} (h : IsExt n bel l) (m : Nat) : ∀ q, m ≤ q → q ≤ n → (∀ r, m ≤ r → r < q → ∀ y, (l.getD r 0).toNat + 1 ≤ y → y < n → freeL bel (dAt n l r) y = false) → rankC bel n l q + cE bel n (n - q) (dAt n l q) = rankC bel n l m + cE bel n (n - m) (dAt n l m)
  | 0, h1, _, _ => by rw [Nat.le_zero.1 h1]
  | q + 1, h1, h2, hno => by
    rcases Nat.eq_or_lt_of_le h1 with e | e
    · rw [e]
    · rw [← tail_rank h m q (by omega) (by omega) (fun r h3 h4 => hno r h3 (by omega))]
      have hr := h.rng q (by omega)
      have hf := h.free q (by omega)
      rw [cE_at (m := q) (by omega), dAt_succ (by rw [h.len]; omega)]
      have h5 := sumF_succ (p := freeL bel (dAt n l q)) (fun x => cE bel n (n - (q + 1)) ((dAt n l q).set x true)) hf
      have h6 := sumF_skip (p := freeL bel (dAt n l q)) (fun x => cE bel n (n - (q + 1)) ((dAt n l q).set x true)) (i := (l.getD q 0).toNat + 1) (k := n) (by omega) (fun y h7 h8 => hno q (by omega) (by omega) y h7 h8)
      show rankC bel n l q + _ + _ = _
      omega
theorem nextK_spec {n : Nat} {t : List (List Bool)} (hp : IsPo n t) {l : List Int} (h : IsExt n (belL n t) l) : ∀ m, m ≤ n → (∀ r, m ≤ r → r < n → ∀ y, (l.getD r 0).toNat + 1 ≤ y → y < n → freeL (belL n t) (dAt n l r) y = false) →
    (nextK (belL n t) n l m = none → rankC (belL n t) n l n + 1 = cE (belL n t) n n (List.replicate n false)) ∧
    ∀ r, nextK (belL n t) n l m = some r → IsExt n (belL n t) r ∧ rankC (belL n t) n r n = rankC (belL n t) n l n + 1 ∧ ∃ q, q < n ∧ r.take q = l.take q ∧ l.getD q 0 < r.getD q 0
  | 0, _, hno => by
    refine ⟨fun _ => ?_, fun r hr => by cases hr⟩
    have := tail_rank h 0 n (Nat.zero_le _) (Nat.le_refl _) hno
    rw [Nat.sub_self] at this
    have h5 : dAt n l 0 = List.replicate n false := rfl
    have h6 : rankC (belL n t) n l 0 = 0 := rfl
    rw [h5, h6, Nat.sub_zero] at this
    simp only [cE] at this
    omega
  | m + 1, hm, hno => by
    have hx := h.rng m (by omega)
    have hfm := h.free m (by omega)
    by_cases hc : 0 ≤ nxt (freeL (belL n t) (dAt n l m)) n ((l.getD m 0).toNat + 1)
    · rw [nextK_hit hc]
      refine ⟨fun e => (by cases e), fun r hr => ?_⟩
      obtain ⟨k, hk1, hk2, hk3, hk4⟩ := nxt_is hc
      have hmin : ∀ y, (l.getD m 0).toNat + 1 ≤ y → y < k → freeL (belL n t) (dAt n l m) y = false := fun y hy1 hy2 => by
        rcases nxt_spec (p := freeL (belL n t) (dAt n l m)) (n := n) (n - ((l.getD m 0).toNat + 1)) ((l.getD m 0).toNat + 1) rfl with ⟨e, _⟩ | ⟨k2, e, _, _, _, h5⟩
        · omega
        · exact h5 y hy1 (by omega)
      rw [hk1, Int.toNat_natCast] at hr
      have hlt : (l.take m).length = m := by simp [h.len]; omega
      have hd0 : dAt n (l.take m) (l.take m).length = dAt n l m := by rw [hlt]; unfold dAt; rw [List.take_take, Nat.min_self]
      have hpre := (h.pre m (by omega)).snoc (x := k) (by omega) hk3 (by rw [hd0]; exact hk4)
      have hlen : (l.take m ++ [((k : Nat) : Int)]).length = m + 1 := by simp [hlt]
      have hd1 : dAt n (l.take m ++ [((k : Nat) : Int)]) (m + 1) = (dAt n l m).set k true := by
        have hgl : (l.take m ++ [((k : Nat) : Int)]).getD m 0 = (k : Nat) := by
          have := getD_last (l := l.take m) (x := ((k : Nat) : Int)); rwa [hlt] at this
        rw [dAt_succ (by omega), dAt_left (by omega), hgl, Int.toNat_natCast]
        congr 1
        unfold dAt; rw [List.take_take, Nat.min_self]
      have hfe := fin_ext hp hpre
      rw [hlen, hd1] at hfe
      obtain rfl := Option.some.inj hr
      obtain ⟨g1, g2, g3⟩ := hfe
      have hrk : rankC (belL n t) n (l.take m ++ [((k : Nat) : Int)]) (m + 1) = rankC (belL n t) n l m + sumF (freeL (belL n t) (dAt n l m)) (fun x => cE (belL n t) n (n - (m + 1)) ((dAt n l m).set x true)) k := by
        show rankC (belL n t) n (l.take m ++ [((k : Nat) : Int)]) m + _ = _
        rw [rankC_left m (by omega), rankC_take m (Nat.le_refl _), dAt_left (by omega)]
        have hgl : (l.take m ++ [((k : Nat) : Int)]).getD m 0 = (k : Nat) := by
          have := getD_last (l := l.take m) (x := ((k : Nat) : Int)); rwa [hlt] at this
        have hdm : dAt n (l.take m) m = dAt n l m := by unfold dAt; rw [List.take_take, Nat.min_self]
        rw [hgl, Int.toNat_natCast, hdm]
      have h5 := sumF_succ (p := freeL (belL n t) (dAt n l m)) (fun x => cE (belL n t) n (n - (m + 1)) ((dAt n l m).set x true)) hfm
      have h6 := sumF_skip (p := freeL (belL n t) (dAt n l m)) (fun x => cE (belL n t) n (n - (m + 1)) ((dAt n l m).set x true)) (i := (l.getD m 0).toNat + 1) (k := k) hk2 hmin
      have h7 := tail_rank h (m + 1) n (by omega) (Nat.le_refl _) hno
      rw [Nat.sub_self, dAt_succ (by rw [h.len]; omega)] at h7
      simp only [cE] at h7
      have h8 : rankC (belL n t) n l (m + 1) = rankC (belL n t) n l m + sumF (freeL (belL n t) (dAt n l m)) (fun x => cE (belL n t) n (n - (m + 1)) ((dAt n l m).set x true)) (l.getD m 0).toNat := rfl
      refine ⟨g1, by rw [g3, hrk]; omega, m, by omega, ?_, ?_⟩
      · have := congrArg (List.take m) g2
        rw [List.take_take, Nat.min_eq_left (by omega), List.take_append_of_le_length (by omega), List.take_take, Nat.min_self] at this
        exact this
      · have : ((finI (belL n t) n ((dAt n l m).set k true, l.take m ++ [((k : Nat) : Int)]) (n - (m + 1))).2.take (m + 1)).getD m 0 = (l.take m ++ [((k : Nat) : Int)]).getD m 0 := by rw [g2]
        rw [List.getD_eq_getElem?_getD, List.getElem?_take_of_lt (by omega), ← List.getD_eq_getElem?_getD] at this
        have hgl : (l.take m ++ [((k : Nat) : Int)]).getD m 0 = (k : Nat) := by
          have := getD_last (l := l.take m) (x := ((k : Nat) : Int)); rwa [hlt] at this
        rw [this, hgl]; omega
    · rw [nextK_miss hc]
      refine nextK_spec hp h m (by omega) fun r h1 h2 y h3 h4 => ?_
      rcases Nat.eq_or_lt_of_le h1 with e | e
      · subst e
        rcases nxt_spec (p := freeL (belL n t) (dAt n l m)) (n := n) (n - ((l.getD m 0).toNat + 1)) ((l.getD m 0).toNat + 1) rfl with ⟨_, h5⟩ | ⟨k2, e, _⟩
        · exact h5 y h3 h4
        · omega
      · exact hno r e h2 y h3 h4
/-! ### Small orders. -/
end Go.AM

namespace Go.Proofs.X
open Go.AM Go
set_option maxRecDepth 100000
set_option maxHeartbeats 4000000
theorem nextV_eq (K : Option (List Int)) : nextV K = .tup [.rsl 1 (ints (K.getD [])), .int .i64 (if K.isSome then 0 else 7)] := by
  cases K <;> rfl
end Go.Proofs.X

/- An order with one more pair. -/
namespace Go.AM
def leT (t : List (List Bool)) (x a : Nat) : Bool := decide (x = a) || atT t x a
def mRow (n : Nat) (t : List (List Bool)) (a b x : Nat) : List Bool := (List.range n).map fun z => atT t x z || (leT t x a && leT t b z)
def mT (n : Nat) (t : List (List Bool)) (a b : Nat) : List (List Bool) := (List.range n).map (mRow n t a b)
theorem mRow_get {n : Nat} {t : List (List Bool)} {a b x z : Nat} (hz : z < n) : (mRow n t a b x).getD z false = (atT t x z || (leT t x a && leT t b z)) := by
  simp [mRow, List.getD_eq_getElem?_getD, hz]
theorem mT_row {n : Nat} {t : List (List Bool)} {a b x : Nat} (hx : x < n) : rowT (mT n t a b) x = mRow n t a b x := by
  simp [rowT, mT, List.getD_eq_getElem?_getD, hx]
theorem mT_at {n : Nat} {t : List (List Bool)} {a b x z : Nat} (hx : x < n) (hz : z < n) : atT (mT n t a b) x z = (atT t x z || (leT t x a && leT t b z)) := by
  unfold atT; rw [mT_row hx, mRow_get hz]; rfl
theorem leT_trans {n : Nat} {t : List (List Bool)} (hp : IsPo n t) {x y z : Nat} (hx : x < n) (hy : y < n) (hz : z < n) (h1 : leT t x y = true) (h2 : leT t y z = true) : leT t x z = true := by
  unfold leT at *
  simp only [Bool.or_eq_true, decide_eq_true_eq] at *
  rcases h1 with rfl | h1
  · exact h2
  · rcases h2 with rfl | h2
    · exact .inr h1
    · exact .inr (hp.trans x y z hx hy hz h1 h2)
theorem mT_po {n : Nat} {t : List (List Bool)} (hp : IsPo n t) {a b : Nat} (ha : a < n) (hb : b < n) (hba : leT t b a = false) : IsPo n (mT n t a b) := by
  have hle : ∀ {x y}, atT t x y = true → leT t x y = true := fun h => by unfold leT; rw [h]; simp
  refine ⟨fun x hx => ?_, fun x y z hx hy hz h1 h2 => ?_⟩
  · rw [mT_at hx hx, hp.irr x hx, Bool.false_or]
    cases e : leT t x a && leT t b x with
    | false => rfl
    | true =>
      rw [Bool.and_eq_true] at e
      rw [leT_trans hp hb hx ha e.2 e.1] at hba; cases hba
  · rw [mT_at hx hy] at h1
    rw [mT_at hy hz] at h2
    rw [mT_at hx hz]
    simp only [Bool.or_eq_true, Bool.and_eq_true] at *
    rcases h1 with h1 | ⟨h1, h1'⟩
    · rcases h2 with h2 | ⟨h2, h2'⟩
      · exact .inl (hp.trans x y z hx hy hz h1 h2)
      · exact .inr ⟨leT_trans hp hx hy ha (hle h1) h2, h2'⟩
    · rcases h2 with h2 | ⟨h2, h2'⟩
      · exact .inr ⟨h1, leT_trans hp hb hy hz h1' (hle h2)⟩
      · exfalso
        rw [leT_trans hp hb hy ha h1' h2] at hba; cases hba
theorem mT_ext {n : Nat} {t : List (List Bool)} (hp : IsPo n t) {a b : Nat} (ha : a < n) (hb : b < n) (hba : leT t b a = false) {l : List Int} (h : extB n (belL n (mT n t a b)) l = true) : extB n (belL n t) l = true := by
  obtain ⟨h1, h2⟩ := (ext_iff (mT_po hp ha hb hba)).1 h
  have hE := eachB_iff.1 h1
  refine (ext_iff hp).2 ⟨h1, fun j hj i hi => ?_⟩
  have h3 := h2 j hj i hi
  have r1 := hE.rng j hj
  have r2 := hE.rng i (by omega)
  unfold noLess at *
  rw [mT_at (by omega) (by omega)] at h3
  cases e : atT t (l.getD j 0).toNat (l.getD i 0).toNat with
  | false => rfl
  | true => rw [e] at h3; simp at h3
theorem ix_each {n : Nat} {l : List Int} (hE : IsEach n l) {k : Nat} (hk : k < n) (x : Int) (hx : l.getD k 0 = x) : ixf (fun y => decide (x = y)) l = (k : Nat) := by
  have hl := hE.len
  have hs : l[k]? = some x := by rw [List.getElem?_eq_getElem (by omega)]; rw [List.getD_eq_getElem?_getD, List.getElem?_eq_getElem (by omega)] at hx; simpa using hx
  refine ixf_at hs (by simp) ?_
  rw [List.any_eq_false]
  intro y hy
  obtain ⟨q, hq, rfl⟩ := List.mem_iff_getElem.1 hy
  simp only [List.length_take] at hq
  have := hE.inj (a := q) (b := k) (by omega) hk
  intro h
  rw [decide_eq_true_eq] at h
  refine this ?_
  rw [hx, h, List.getD_eq_getElem?_getD, List.getElem?_eq_getElem (by omega)]
  simp
theorem mT_before {n : Nat} {t : List (List Bool)} (hp : IsPo n t) {a b : Nat} (ha : a < n) (hb : b < n) (hba : leT t b a = false) {l : List Int} (h : extB n (belL n (mT n t a b)) l = true) : ixf (fun y => decide ((a : Int) = y)) l < ixf (fun y => decide ((b : Int) = y)) l := by
  obtain ⟨h1, h2⟩ := (ext_iff (mT_po hp ha hb hba)).1 h
  have hE := eachB_iff.1 h1
  obtain ⟨ka, q1, q2⟩ := hE.has ha
  obtain ⟨kb, q3, q4⟩ := hE.has hb
  rw [ix_each hE q1 _ q2, ix_each hE q3 _ q4]
  rcases Nat.lt_trichotomy ka kb with e | e | e
  · omega
  · exfalso
    subst e
    have hab : a = b := by omega
    unfold leT at hba
    rw [hab] at hba; simp at hba
  · exfalso
    have h3 := h2 ka q1 kb e
    unfold noLess at h3
    rw [q2, q4, Int.toNat_natCast, Int.toNat_natCast, mT_at ha hb] at h3
    simp [leT] at h3
end Go.AM

namespace Go.Proofs.X
open Go.AM Go
set_option maxRecDepth 100000
set_option maxHeartbeats 4000000
end Go.Proofs.X

namespace Go.Proofs.X
open Go.AM Go
end Go.Proofs.X

/- The order that lists have in common. -/
namespace Go.AM
def plI (n : Nat) (l : List Int) : Nat → List Int
  | 0 => List.replicate n 0
  | m + 1 => (plI n l m).set (l.getD m 0).toNat ((m : Int) + 1)
theorem plI_len (n : Nat) (l : List Int) : ∀ m, (plI n l m).length = n
  | 0 => by simp [plI]
  | m + 1 => by simp [plI, plI_len n l m]
theorem getD_setI (b : List Int) (i j : Nat) (x : Int) : (b.set i x).getD j 0 = if i = j ∧ i < b.length then x else b.getD j 0 := by
  rw [List.getD_eq_getElem?_getD, List.getElem?_set]
  by_cases h : i = j
  · subst h
    by_cases h2 : i < b.length
    · simp [h2]
    · simp [h2, List.getD_eq_getElem?_getD]
  · simp [h, List.getD_eq_getElem?_getD]
theorem plI_iff {n : Nat} {l : List Int} (hl : l.length = n) {i : Nat} (hi : i < n) : ∀ m, m ≤ n → (((plI n l m).getD i 0 ≠ 0 ↔ (dAt n l m).getD i false = true) ∧ 0 ≤ (plI n l m).getD i 0 ∧ (plI n l m).getD i 0 ≤ n)
  | 0, _ => by
    have h1 : (plI n l 0).getD i 0 = 0 := by simp [plI, List.getD_eq_getElem?_getD, hi]
    have h2 : (dAt n l 0).getD i false = false := by simp [dAt, exD, List.getD_eq_getElem?_getD, hi]
    rw [h1, h2]; simp
  | m + 1, hm => by
    obtain ⟨h1, h2, h3⟩ := plI_iff hl hi m (by omega)
    rw [dAt_succ (by omega), getD_setB]
    show (((plI n l m).set (l.getD m 0).toNat ((m : Int) + 1)).getD i 0 ≠ 0 ↔ _) ∧ 0 ≤ ((plI n l m).set (l.getD m 0).toNat ((m : Int) + 1)).getD i 0 ∧ ((plI n l m).set (l.getD m 0).toNat ((m : Int) + 1)).getD i 0 ≤ n
    rw [getD_setI, plI_len, dAt_len]
    by_cases e : (l.getD m 0).toNat = i ∧ (l.getD m 0).toNat < n
    · rw [if_pos e, if_pos e]; simp; omega
    · rw [if_neg e, if_neg e]; exact ⟨h1, h2, h3⟩
theorem plI_at {n : Nat} {l : List Int} (hE : IsEach n l) : ∀ m, m ≤ n → ∀ k, k < m → (plI n l m).getD (l.getD k 0).toNat 0 = (k : Int) + 1
  | 0, _, k, hk => by omega
  | m + 1, hm, k, hk => by
    have hr := hE.rng m (by omega)
    have hrk := hE.rng k (by omega)
    show ((plI n l m).set (l.getD m 0).toNat ((m : Int) + 1)).getD (l.getD k 0).toNat 0 = _
    rw [getD_setI, plI_len]
    by_cases e : k = m
    · subst e; rw [if_pos ⟨rfl, by omega⟩]
    · have hne := hE.inj (a := k) (b := m) (by omega) (by omega)
      rw [if_neg (fun h => hne (by omega))]
      exact plI_at hE m (by omega) k (by omega)
def gtA (i j : Nat) (at_ : List Int) : Bool := decide (at_.getD j 0 < at_.getD i 0)
def meetF (n : Nat) (ls : List (List Int)) (i j : Nat) : Bool := !decide (i = j) && !(ls.map fun l => plI n l n).any (gtA i j)
def meetT (n : Nat) (ls : List (List Int)) : List (List Bool) := tabF n (meetF n ls)
/-- The place of i in l, as the reference finds it. -/
def refA (l : List Int) (i : Int) : Nat → Int
  | 0 => 0
  | m + 1 => if l.getD m 0 = i then (m : Nat) else refA l i m
def bfA (n : Nat) (i j : Nat) (l : List Int) : Bool := decide (refA l i n < refA l j n)
def meetR (n : Nat) (ls : List (List Int)) (i j : Nat) : Bool := !decide (i = j) && ls.all (bfA n i j)
theorem refA_at {n : Nat} {l : List Int} (hE : IsEach n l) {k : Nat} {i : Int} (hk : l.getD k 0 = i) : ∀ m, m ≤ n → k < m → refA l i m = (k : Nat)
  | 0, _, h => by omega
  | m + 1, hm, h => by
    unfold refA
    by_cases e : k = m
    · subst e; rw [if_pos hk]
    · have hne := hE.inj (a := k) (b := m) (by omega) (by omega)
      rw [if_neg (fun h => hne (by rw [hk, h]))]
      exact refA_at hE hk m (by omega) (by omega)
theorem atv_ref {n : Nat} {l : List Int} (hE : IsEach n l) {i : Nat} (hi : i < n) : (plI n l n).getD i 0 = refA l (i : Nat) n + 1 ∧ ∃ k : Nat, k < n ∧ l.getD k 0 = (i : Nat) ∧ refA l (i : Nat) n = (k : Nat) := by
  obtain ⟨k, hk, he⟩ := hE.has hi
  have h1 := plI_at hE n (Nat.le_refl _) k hk
  rw [he, Int.toNat_natCast] at h1
  have h2 := refA_at hE he n (Nat.le_refl _) hk
  exact ⟨by rw [h1, h2], k, hk, he, h2⟩
theorem meet_eq {n : Nat} {ls : List (List Int)} (h : ∀ l ∈ ls, IsEach n l) {i j : Nat} (hi : i < n) (hj : j < n) : meetF n ls i j = meetR n ls i j := by
  unfold meetF meetR
  by_cases e : i = j
  · subst e; simp
  · congr 1
    rw [Bool.eq_iff_iff]
    simp only [Bool.not_eq_true', List.any_eq_false, List.mem_map, List.all_eq_true, bfA, decide_eq_true_eq, gtA]
    constructor
    · intro hh l hl
      have h1 := hh (plI n l n) ⟨l, hl, rfl⟩
      obtain ⟨a1, k1, b1, c1, d1⟩ := atv_ref (h l hl) hi
      obtain ⟨a2, k2, b2, c2, d2⟩ := atv_ref (h l hl) hj
      have hne : k1 ≠ k2 := fun e2 => e (by subst e2; omega)
      omega
    · rintro hh x ⟨l, hl, rfl⟩
      have h1 := hh l hl
      obtain ⟨a1, _⟩ := atv_ref (h l hl) hi
      obtain ⟨a2, _⟩ := atv_ref (h l hl) hj
      omega
end Go.AM

namespace Go.Proofs.X
open Go.AM Go
set_option maxRecDepth 100000
set_option maxHeartbeats 4000000
theorem gta_r (i j : Nat) (x : List Int) (hi : i < x.length) (hj : j < x.length) : Reads Tryd.prog 60 false [.rsl 1 (ints x), .rptr [.int .i64 i], .rptr [.int .i64 j]] (.bool (gtA i j x)) := by
  have h1 := ints_getD (l := x) (i := i) hi
  have h2 := ints_getD (l := x) (i := j) hj
  refine Reads.body (rs := [.tmp 4]) Tryd.func60 rfl Tryd.ntmps60 rfl (by simp) ?_
  generalize hQr : retQ _ _ _ = Qr
  refine AW.seq fun K1 hK1 => ?_
  refine AW.regionK 0 (fun _ => none) [0, 1, 2] [] ?_
  simp only [go_sem, reduceIte, reduceCtorEq, zA, zM, zE, zL, zD, zS, zP, zB, zI, zR, ints_len, h1, h2, Int.toNat_natCast]
  repeat with_reducible refine cj ?_ ?_
  all_goals try first | omega
  refine hK1 _ _ _ ?_; clear hK1
  refine AW.seq fun K2 hK2 => ?_
  refine AW.regionD mixed 0 (fun _ => none) [4] [] ?_
  simp only [go_sem, reduceIte, reduceCtorEq, zA, zM, zE, zL, zD, zS, zP, zB, zI, zR, ints_len, h1, h2, Int.toNat_natCast]
  repeat with_reducible refine cj ?_ ?_
  all_goals try first | omega | exact chk (by kernel_rfl)
  refine hK2 _ _ _ ?_; clear hK2
  refine AW.ret ?_
  rw [← hQr]
  simp only [go_sem, reduceIte, reduceCtorEq, zA, zM, zE, zL, zD, zS, zP, zB, zI, zR, ints_len, h1, h2, Int.toNat_natCast]
  exact Wk.refl _
theorem ixgta_r (a b n : Nat) (ls : List (List Int)) (hl : ls.length ≤ 9223372036854775807) (hA : a < n) (hC : b < n) (hx : ∀ x ∈ ls, x.length = n) : Reads Tryd.prog 58 false [.rsl 1 (lisR ls), .fn 60 [.rptr [.int .i64 a], .rptr [.int .i64 b]]] (.int .i64 (ixf (gtA a b) ls)) := by
  have hx0 := hx
  refine Reads.body (rs := [.tmp 4]) Tryd.func58 rfl Tryd.ntmps58 rfl (by simp) ?_
  generalize hQr : retQ _ _ _ = Qr
  refine AW.seq fun K1 hK1 => ?_
  refine AW.regionK 0 (fun _ => none) [0, 1] [] ?_
  simp only [go_sem, reduceIte, reduceCtorEq, zA, zM, zE, zL, zD, zS, zP, zB, zI, zR, lisR_len]
  repeat with_reducible refine cj ?_ ?_
  all_goals try first | omega
  refine hK1 _ _ _ ?_; clear hK1
  refine AW.seq fun K2 hK2 => ?_
  refine AW.seq fun K3 hK3 => ?_
  refine AW.regionK 0 (fun _ => none) [0, 1, 7, 8] [] ?_
  simp only [go_sem, reduceIte, reduceCtorEq, zA, zM, zE, zL, zD, zS, zP, zB, zI, zR, lisR_len]
  repeat with_reducible refine cj ?_ ?_
  all_goals try first | omega
  refine hK3 _ _ _ ?_; clear hK3
  refine AW.block ?_
  refine AW.loopE (fun mm ee ss kk => ∃ (j : Nat), ls.length - j = mm ∧ ee = [(0, .rsl 1 (lisR ls)), (1, .fn 60 [.rptr [.int .i64 a], .rptr [.int .i64 b]]), (7, .int .i64 ls.length), (8, .int .i64 (j : Nat))] ∧ ss = [] ∧ (j ≤ ls.length ∧ (ls.take j).any (gtA a b) = false)) ?_ ?_
  · refine ⟨_, 0, rfl, ?henv, ?hstore, ?hst⟩
    case henv =>
      repeat' (first | rfl | refine env_cons ?_ ?_ | refine st_cons ?_ ?_ ?_ ?_ | refine int_eq ?_ | refine bool_eq ?_ | refine rsl_eq ?_ | refine osl_eq ?_ | refine sl_eq ?_ ?_ ?_ | refine ptr_eq ?_ ?_ ?_ | refine agg_eq ?_ | refine es_cons ?_ ?_ | refine row_cons ?_ ?_)
      all_goals (first | (simp; done) | omega | (simp; omega))
    case hstore =>
      repeat' (first | rfl | refine env_cons ?_ ?_ | refine st_cons ?_ ?_ ?_ ?_ | refine int_eq ?_ | refine bool_eq ?_ | refine rsl_eq ?_ | refine osl_eq ?_ | refine sl_eq ?_ ?_ ?_ | refine ptr_eq ?_ ?_ ?_ | refine agg_eq ?_ | refine es_cons ?_ ?_ | refine row_cons ?_ ?_)
      all_goals (first | (simp; done) | omega | (simp; omega))
    case hst =>
      first | trivial | omega | (simp; done) | (simp; omega)
  rintro mm ee ss kk ⟨j, rfl, rfl, rfl, hI⟩
  generalize hQl1 : thenQ _ _ = Ql1
  obtain ⟨hj, hall⟩ := hI
  refine AW.seq fun K4 hK4 => ?_
  refine AW.regionK 0 (fun _ => none) [0, 1, 7, 8, 9] [] ?_
  simp only [go_sem, reduceIte, reduceCtorEq, zA, zM, zE, zL, zD, zS, zP, zB, zI, zR, lisR_len]
  repeat with_reducible refine cj ?_ ?_
  all_goals try first | omega
  refine hK4 _ _ _ ?_; clear hK4
  refine AW.seq fun K5 hK5 => ?_
  refine AW.cond rfl (by simp only [go_sem, reduceIte, reduceCtorEq, zA, zM, zE, zL, zD, zS, zP, zB, zI, zR]) ?_ ?_
  · intro hb
    try simp only [hB, decide_eq_true_eq, decide_eq_false_iff_not] at hb
    obtain ⟨x, hx⟩ := getI (l := ls) (j := j) (by omega)
    have hgx : (lisR ls).getD j [] = [.rsl 1 (ints x)] := by simp [lisR, List.getD_eq_getElem?_getD, hx]
    have hats := any_take_succ (p := gtA a b) hx
    have hbx := gta_r a b x (by rw [hx0 x (List.mem_of_getElem? hx)]; exact hA) (by rw [hx0 x (List.mem_of_getElem? hx)]; exact hC)
    refine AW.skip ?_
    refine hK5 _ _ _ ?_; clear hK5
    refine AW.seq fun K6 hK6 => ?_
    refine AW.block ?_
    refine AW.seq fun K7 hK7 => ?_
    refine AW.regionK 0 (fun _ => none) [0, 1, 5, 7, 8] [] ?_
    simp only [go_sem, reduceIte, reduceCtorEq, zA, zM, zE, zL, zD, zS, zP, zB, zI, zR, lisR_len]
    repeat with_reducible refine cj ?_ ?_
    all_goals try first | omega
    refine hK7 _ _ _ ?_; clear hK7
    refine AW.seq fun K8 hK8 => ?_
    refine AW.regionK 0 (fun ii => if ii = 5 then some (.reads false (.bool (gtA a b x))) else none) [0, 1, 5, 7, 8, 16] [] ?_
    simp only [go_sem, reduceIte, reduceCtorEq, zA, zM, zE, zL, zD, zS, zP, zB, zI, zR, lisR_len, hgx]
    repeat with_reducible refine cj ?_ ?_
    all_goals try first | (exact hbx) | omega | exact ent (by kernel_rfl)
    refine hK8 _ _ _ ?_; clear hK8
    refine AW.cond rfl (by simp only [go_sem, reduceIte, reduceCtorEq, zA, zM, zE, zL, zD, zS, zP, zB, zI, zR]) ?_ ?_
    · intro hb
      try simp only [hB, decide_eq_true_eq, decide_eq_false_iff_not] at hb
      refine AW.seq fun K9 hK9 => ?_
      refine AW.regionK 0 (fun _ => none) [4] [] ?_
      simp only [go_sem, reduceIte, reduceCtorEq, zA, zM, zE, zL, zD, zS, zP, zB, zI, zR, lisR_len]
      repeat with_reducible refine cj ?_ ?_
      all_goals try first | omega
      refine hK9 _ _ _ ?_; clear hK9
      refine AW.ret ?_
      rw [← hQl1]
      rw [← hQr]
      simp only [go_sem, reduceIte, reduceCtorEq, zA, zM, zE, zL, zD, zS, zP, zB, zI, zR, lisR_len]
      exact Wk.of_eq (by rw [ixf_at hx hb hall])
    · intro hb
      try simp only [hB, decide_eq_true_eq, decide_eq_false_iff_not] at hb
      refine AW.skip ?_
      refine hK6 _ _ _ ?_; clear hK6
      refine AW.regionK 0 (fun _ => none) [0, 1, 7, 8] [] ?_
      simp only [go_sem, reduceIte, reduceCtorEq, zA, zM, zE, zL, zD, zS, zP, zB, zI, zR, lisR_len]
      repeat with_reducible refine cj ?_ ?_
      all_goals try first | omega
      rw [← hQl1]
      change Exists _
      refine ⟨_, ?hm, j + 1, rfl, ?henv, ?hstore, ?hst⟩
      case henv =>
        repeat' (first | rfl | refine env_cons ?_ ?_ | refine st_cons ?_ ?_ ?_ ?_ | refine int_eq ?_ | refine bool_eq ?_ | refine rsl_eq ?_ | refine osl_eq ?_ | refine sl_eq ?_ ?_ ?_ | refine ptr_eq ?_ ?_ ?_ | refine agg_eq ?_ | refine es_cons ?_ ?_ | refine row_cons ?_ ?_)
        all_goals (first | (simp; done) | omega | (simp; omega))
      case hstore =>
        repeat' (first | rfl | refine env_cons ?_ ?_ | refine st_cons ?_ ?_ ?_ ?_ | refine int_eq ?_ | refine bool_eq ?_ | refine rsl_eq ?_ | refine osl_eq ?_ | refine sl_eq ?_ ?_ ?_ | refine ptr_eq ?_ ?_ ?_ | refine agg_eq ?_ | refine es_cons ?_ ?_ | refine row_cons ?_ ?_)
        all_goals (first | (simp; done) | omega | (simp; omega))
      case hst =>
        exact ⟨by omega, by rw [hats, hall, hb]; rfl⟩
      case hm => omega
  · intro hb
    try simp only [hB, decide_eq_true_eq, decide_eq_false_iff_not] at hb
    refine AW.keep [] [] ?_
    try simp only [go_sem, reduceIte, reduceCtorEq, zA, zM, zE, zL, zD, zS, zP, zB, zI, zR]
    refine AW.exit ?_
    rw [← hQl1]
    refine hK2 _ _ _ ?_; clear hK2
    refine AW.seq fun K10 hK10 => ?_
    refine AW.regionK 0 (fun _ => none) [4] [] ?_
    simp only [go_sem, reduceIte, reduceCtorEq, zA, zM, zE, zL, zD, zS, zP, zB, zI, zR, lisR_len]
    repeat with_reducible refine cj ?_ ?_
    all_goals try first | omega
    refine hK10 _ _ _ ?_; clear hK10
    refine AW.ret ?_
    rw [← hQr]
    simp only [go_sem, reduceIte, reduceCtorEq, zA, zM, zE, zL, zD, zS, zP, zB, zI, zR, lisR_len]
    exact Wk.of_eq (by rw [List.take_of_length_le (by omega)] at hall; rw [ixf_none hall])
theorem ctgta_r (a b n : Nat) (ls : List (List Int)) (hl : ls.length ≤ 9223372036854775807) (hA : a < n) (hC : b < n) (hx : ∀ x ∈ ls, x.length = n) : Reads Tryd.prog 30 false [.rsl 1 (lisR ls), .fn 60 [.rptr [.int .i64 a], .rptr [.int .i64 b]]] (.bool (ls.any (gtA a b))) := by
  have h := ixgta_r a b n ls hl hA hC hx
  have hge := ixf_ge (gtA a b) ls
  refine Reads.body (rs := [.tmp 4]) Tryd.func30 rfl Tryd.ntmps30 rfl (by simp) ?_
  generalize hQr : retQ _ _ _ = Qr
  refine AW.seq fun K1 hK1 => ?_
  refine AW.regionK 0 (fun _ => none) [0, 1] [] ?_
  simp only [go_sem, reduceIte, reduceCtorEq, zA, zM, zE, zL, zD, zS, zP, zB, zI, zR]
  repeat with_reducible refine cj ?_ ?_
  all_goals try first | omega
  refine hK1 _ _ _ ?_; clear hK1
  refine AW.seq fun K2 hK2 => ?_
  refine AW.regionK 0 (fun ii => if ii = 2 then some (.reads false (.int .i64 (ixf (gtA a b) ls))) else none) [4] [] ?_
  simp only [go_sem, reduceIte, reduceCtorEq, zA, zM, zE, zL, zD, zS, zP, zB, zI, zR]
  repeat with_reducible refine cj ?_ ?_
  all_goals try first | (exact h) | omega | exact ent (by kernel_rfl)
  refine hK2 _ _ _ ?_; clear hK2
  refine AW.ret ?_
  rw [← hQr]
  simp only [go_sem, reduceIte, reduceCtorEq, zA, zM, zE, zL, zD, zS, zP, zB, zI, zR]
  exact Wk.of_eq (by rw [hge])
theorem places_r (n : Nat) (hn : n ≤ 512) (l : List Int) (hl : l.length ≤ 9223372036854775807) : Reads Tryd.prog 59 false [.int .i64 n, .rsl 1 (ints l)] (.tup [.rsl 1 (ints (if eachB n l then plI n l n else [])), .bool (eachB n l)]) := by
  have hz : List.replicate n [AV.int .i64 0] = ints (plI n l 0) := by simp [plI, ints]
  have hE : eachB n l = (decide (l.length = n) && eachGo n (List.replicate n false) l) := rfl
  refine Reads.body (rs := [.tmp 4, .tmp 5]) Tryd.func59 rfl Tryd.ntmps59 rfl (by simp) ?_
  generalize hQr : retQ _ _ _ = Qr
  refine AW.seq fun K1 hK1 => ?_
  refine AW.regionK 0 (fun _ => none) [0, 1] [] ?_
  simp only [go_sem, reduceIte, reduceCtorEq, zA, zM, zE, zL, zD, zS, zP, zB, zI, zR, ints_len]
  repeat with_reducible refine cj ?_ ?_
  all_goals try first | omega
  refine hK1 _ _ _ ?_; clear hK1
  refine AW.seq fun K2 hK2 => ?_
  refine AW.regionK 0 (fun _ => none) [0, 1, 6] [10] ?_
  simp only [go_sem, reduceIte, reduceCtorEq, zA, zM, zE, zL, zD, zS, zP, zB, zI, zR, ints_len]
  repeat with_reducible refine cj ?_ ?_
  all_goals try first | omega
  refine hK2 _ _ _ ?_; clear hK2
  refine AW.seq fun K3 hK3 => ?_
  refine AW.seq fun K4 hK4 => ?_
  refine AW.regionK 0 (fun _ => none) [0, 1, 6, 14] [10] ?_
  simp only [go_sem, reduceIte, reduceCtorEq, zA, zM, zE, zL, zD, zS, zP, zB, zI, zR, ints_len]
  repeat with_reducible refine cj ?_ ?_
  all_goals try first | omega
  refine hK4 _ _ _ ?_; clear hK4
  refine AW.cond rfl (by simp only [go_sem, reduceIte, reduceCtorEq, zA, zM, zE, zL, zD, zS, zP, zB, zI, zR]) ?_ ?_
  · intro hb
    try simp only [hB, decide_eq_true_eq, decide_eq_false_iff_not] at hb
    have hE2 : eachB n l = false := by rw [hE]; simp; omega
    refine AW.seq fun K5 hK5 => ?_
    refine AW.regionK 0 (fun _ => none) [4, 5] [] ?_
    simp only [go_sem, reduceIte, reduceCtorEq, zA, zM, zE, zL, zD, zS, zP, zB, zI, zR, ints_len]
    repeat with_reducible refine cj ?_ ?_
    all_goals try first | omega
    refine hK5 _ _ _ ?_; clear hK5
    refine AW.ret ?_
    rw [← hQr]
    simp only [go_sem, reduceIte, reduceCtorEq, zA, zM, zE, zL, zD, zS, zP, zB, zI, zR, ints_len]
    exact Wk.trans (Wk.tup2 (Wk.nil 1) (Wk.refl _)) (Wk.of_eq (by rw [hE2]; rfl))
  · intro hb
    try simp only [hB, decide_eq_true_eq, decide_eq_false_iff_not] at hb
    have hln : l.length = n := by omega
    have hpi := fun i hi m hm => plI_iff (n := n) (l := l) hln (i := i) hi m hm
    refine AW.skip ?_
    refine hK3 _ _ _ ?_; clear hK3
    refine AW.seq fun K6 hK6 => ?_
    refine AW.seq fun K7 hK7 => ?_
    refine AW.regionK 0 (fun _ => none) [0, 6, 15, 16, 17] [10] ?_
    simp only [go_sem, reduceIte, reduceCtorEq, zA, zM, zE, zL, zD, zS, zP, zB, zI, zR, ints_len]
    repeat with_reducible refine cj ?_ ?_
    all_goals try first | omega
    refine hK7 _ _ _ ?_; clear hK7
    refine AW.block ?_
    refine AW.loopE (fun mm ee ss kk => ∃ (k g v : Nat), n - k = mm ∧ ee = [(0, .int .i64 n), (6, .sl ⟨10, g, none⟩ 0 n none), (15, .rsl 1 (ints l)), (16, .int .i64 n), (17, .int .i64 (k : Nat))] ∧ ss = [(10, some ⟨g, v, 1, ints (plI n l k)⟩)] ∧ (k ≤ n ∧ eachGo n (List.replicate n false) (l.take k) = true)) ?_ ?_
    · refine ⟨_, 0, ?_, ?_, rfl, ?henv, ?hstore, ?hst⟩
      case henv =>
        repeat' (first | rfl | refine env_cons ?_ ?_ | refine st_cons ?_ ?_ ?_ ?_ | refine int_eq ?_ | refine bool_eq ?_ | refine rsl_eq ?_ | refine osl_eq ?_ | refine sl_eq ?_ ?_ ?_ | refine ptr_eq ?_ ?_ ?_ | refine agg_eq ?_ | refine es_cons ?_ ?_ | refine row_cons ?_ ?_)
        all_goals (first | omega | rfl | (rw [hln]) | (simp [hln]))
      case hstore =>
        repeat' (first | rfl | refine env_cons ?_ ?_ | refine st_cons ?_ ?_ ?_ ?_ | refine int_eq ?_ | refine bool_eq ?_ | refine rsl_eq ?_ | refine osl_eq ?_ | refine sl_eq ?_ ?_ ?_ | refine ptr_eq ?_ ?_ ?_ | refine agg_eq ?_ | refine es_cons ?_ ?_ | refine row_cons ?_ ?_)
        all_goals (rw [hz])
      case hst =>
        exact ⟨Nat.zero_le _, rfl⟩
    rintro mm ee ss kk ⟨k, g, v, rfl, rfl, rfl, hI⟩
    generalize hQl1 : thenQ _ _ = Ql1
    obtain ⟨hk, hall⟩ := hI
    have hdl := plI_len n l k
    have hbl := ints_len (plI n l k)
    rw [hdl] at hbl
    refine AW.seq fun K8 hK8 => ?_
    refine AW.regionK 0 (fun _ => none) [0, 6, 15, 16, 17, 18] [10] ?_
    simp only [go_sem, reduceIte, reduceCtorEq, zA, zM, zE, zL, zD, zS, zP, zB, zI, zR, ints_len]
    repeat with_reducible refine cj ?_ ?_
    all_goals try first | omega
    refine hK8 _ _ _ ?_; clear hK8
    refine AW.seq fun K9 hK9 => ?_
    refine AW.cond rfl (by simp only [go_sem, reduceIte, reduceCtorEq, zA, zM, zE, zL, zD, zS, zP, zB, zI, zR]) ?_ ?_
    · intro hb
      try simp only [hB, decide_eq_true_eq, decide_eq_false_iff_not] at hb
      have hk2 : k < n := by omega
      have hgx := ints_getD (l := l) (i := k) (by omega)
      have hgd := fun h => ints_getD (l := plI n l k) (i := (l.getD k 0).toNat) h
      have hpk := fun hi => hpi (l.getD k 0).toNat hi k (by omega)
      have hps : plI n l (k + 1) = (plI n l k).set (l.getD k 0).toNat ((k : Int) + 1) := rfl
      have htk : l.take (k + 1) = l.take k ++ [l.getD k 0] := by rw [List.take_add_one, List.getElem?_eq_getElem (by omega)]; simp [List.getD_eq_getElem?_getD, List.getElem?_eq_getElem (show k < l.length by omega)]
      have hap := eachGo_app n (l.take k) [l.getD k 0] (List.replicate n false)
      rw [← htk, hall, Bool.true_and] at hap
      have hdd : exD (List.replicate n false) (l.take k) = dAt n l k := rfl
      have hat := fun h => eachGo_at (n := n) (d := List.replicate n false) (l := l) h (m := k) (by omega)
      rw [hdd] at hap hat
      generalize hX : l.getD k 0 = x at *
      generalize hD : dAt n l k = d at *
      generalize hPk : plI n l k = P at *
      have hx3 : (0 ≤ x ∧ x < (n : Int)) ∨ x < 0 ∨ (n : Int) ≤ x := by omega
      refine AW.skip ?_
      refine hK9 _ _ _ ?_; clear hK9
      refine AW.seq fun K10 hK10 => ?_
      refine AW.block ?_
      refine AW.seq fun K11 hK11 => ?_
      refine AW.regionK 0 (fun _ => none) [0, 6, 7, 8, 15, 16, 17] [10] ?_
      simp only [go_sem, reduceIte, reduceCtorEq, zA, zM, zE, zL, zD, zS, zP, zB, zI, zR, ints_len, hgx]
      repeat with_reducible refine cj ?_ ?_
      all_goals try first | omega
      refine hK11 _ _ _ ?_; clear hK11
      refine AW.seq fun K12 hK12 => ?_
      refine AW.seq fun K13 hK13 => ?_
      have hD7 : ∀  (kk : Nat), K13 [(0, .int .i64 n), (6, .sl ⟨10, g, none⟩ 0 n none), (7, .int .i64 (k : Nat)), (8, .int .i64 x), (15, .rsl 1 (ints l)), (16, .int .i64 n), (17, .int .i64 (k : Nat)), (35, .bool (!eaOk n d x))] [(10, some ⟨g, v, 1, ints P⟩)] kk := by
        intro  kk
        refine hK13 _ _ _ ?_; clear hK13
        refine AW.cond rfl (by simp only [go_sem, reduceIte, reduceCtorEq, zA, zM, zE, zL, zD, zS, zP, zB, zI, zR]) ?_ ?_
        · intro hb
          try simp only [hB, decide_eq_true_eq, decide_eq_false_iff_not] at hb
          have hf : eaOk n d x = false := by revert hb; simp
          have hE2 : eachB n l = false := by
            rw [hE]
            cases e : eachGo n (List.replicate n false) l with
            | false => simp
            | true => rw [hat e] at hf; cases hf
          refine AW.seq fun K15 hK15 => ?_
          refine AW.regionK 0 (fun _ => none) [4, 5] [] ?_
          simp only [go_sem, reduceIte, reduceCtorEq, zA, zM, zE, zL, zD, zS, zP, zB, zI, zR, ints_len]
          repeat with_reducible refine cj ?_ ?_
          all_goals try first | omega
          refine hK15 _ _ _ ?_; clear hK15
          refine AW.ret ?_
          rw [← hQl1]
          rw [← hQr]
          simp only [go_sem, reduceIte, reduceCtorEq, zA, zM, zE, zL, zD, zS, zP, zB, zI, zR, ints_len]
          exact Wk.trans (Wk.tup2 (Wk.nil 1) (Wk.refl _)) (Wk.of_eq (by rw [hE2]; rfl))
        · intro hb
          try simp only [hB, decide_eq_true_eq, decide_eq_false_iff_not] at hb
          have hf : eaOk n d x = true := by revert hb; simp
          have hxr : 0 ≤ x ∧ x < (n : Int) := by
            unfold eaOk at hf
            simp only [Bool.and_eq_true, decide_eq_true_eq] at hf
            exact hf.1
          refine AW.skip ?_
          refine hK12 _ _ _ ?_; clear hK12
          refine AW.regionK 0 (fun _ => none) [0, 6, 15, 16, 17] [10] ?_
          simp only [go_sem, reduceIte, reduceCtorEq, zA, zM, zE, zL, zD, zS, zP, zB, zI, zR, ints_len, hgx, hbl, ints_upd, ← hps]
          repeat with_reducible refine cj ?_ ?_
          all_goals try first | omega
          refine hK10 _ _ _ ?_; clear hK10
          refine AW.regionK 0 (fun _ => none) [0, 6, 15, 16, 17] [10] ?_
          simp only [go_sem, reduceIte, reduceCtorEq, zA, zM, zE, zL, zD, zS, zP, zB, zI, zR, ints_len]
          repeat with_reducible refine cj ?_ ?_
          all_goals try first | omega
          rw [← hQl1]
          change Exists _
          refine ⟨_, ?hm, k + 1, ?_, ?_, rfl, ?henv, ?hstore, ?hst⟩
          case henv =>
            repeat' (first | rfl | refine env_cons ?_ ?_ | refine st_cons ?_ ?_ ?_ ?_ | refine int_eq ?_ | refine bool_eq ?_ | refine rsl_eq ?_ | refine osl_eq ?_ | refine sl_eq ?_ ?_ ?_ | refine ptr_eq ?_ ?_ ?_ | refine agg_eq ?_ | refine es_cons ?_ ?_ | refine row_cons ?_ ?_)
            all_goals (first | (simp; done) | omega | (simp; omega))
          case hstore =>
            repeat' (first | rfl | refine env_cons ?_ ?_ | refine st_cons ?_ ?_ ?_ ?_ | refine int_eq ?_ | refine bool_eq ?_ | refine rsl_eq ?_ | refine osl_eq ?_ | refine sl_eq ?_ ?_ ?_ | refine ptr_eq ?_ ?_ ?_ | refine agg_eq ?_ | refine es_cons ?_ ?_ | refine row_cons ?_ ?_)
            all_goals (first | (simp; done) | omega | (simp; omega))
          case hst =>
            exact ⟨by omega, by rw [hap]; simp [eachGo, hf]⟩
          case hm => omega
      rcases hx3 with hxr | hxr | hxr
      · -- region 7
        have hgx2 := hgd (by omega)
        obtain ⟨hp1, hp2, hp3⟩ := hpk (by omega)
        have hdp : (!decide (P.getD x.toNat 0 = 0)) = d.getD x.toNat false := by
          cases e : d.getD x.toNat false with
          | true => rw [e] at hp1; simpa using hp1.2 rfl
          | false => rw [e] at hp1; simpa using hp1
        have hea : (decide (x < 0) || decide ((n : Int) ≤ x) || !decide (P.getD x.toNat 0 = 0)) = !eaOk n d x := by
          rw [hdp]; unfold eaOk
          simp only [show ¬ x < 0 by omega, show ¬ (n : Int) ≤ x by omega, hxr.1, hxr.2, decide_true, decide_false, Bool.or_false, Bool.false_or, Bool.and_true, Bool.true_and, Bool.not_not]
        rw [← hea] at hD7
        refine AW.regionK 0 (fun _ => none) [0, 6, 7, 8, 15, 16, 17, 35] [10] ?_
        simp only [go_sem, reduceIte, reduceCtorEq, zA, zM, zE, zL, zD, zS, zP, zB, zI, zR, ints_len, hbl, hgx2]
        repeat with_reducible refine cj ?_ ?_
        all_goals try first | (first | (simp only [Bool.or_eq_true, decide_eq_true_eq]; omega) | (intro hh; refine ⟨hh, hh, ?_, ?_⟩ <;> (simp only [Bool.or_eq_false_iff, decide_eq_false_iff_not] at hh; omega)) | (intro hh; exfalso; simp only [Bool.or_eq_false_iff, decide_eq_false_iff_not] at hh; omega)) | (intros; (repeat' apply And.intro) <;> first | assumption | (first | (simp only [Bool.or_eq_true, decide_eq_true_eq]; omega) | (intro hh; refine ⟨hh, hh, ?_, ?_⟩ <;> (simp only [Bool.or_eq_false_iff, decide_eq_false_iff_not] at hh; omega)) | (intro hh; exfalso; simp only [Bool.or_eq_false_iff, decide_eq_false_iff_not] at hh; omega))) | omega | (intro hgd; exact absurd hgd (by decide)) | rfl | (simp only [go_sem, reduceIte, reduceCtorEq, zA, zM, zE, zL, zD, zS, zP, zB, zI, zR, ints_len, hbl, hgx2]; done) | (intro _hgd; simp_all [go_sem]; done)
        exact hD7 _
      · -- region 7
        have hgx2 := hgd (by omega)
        have hea : (decide (x < 0) || decide ((n : Int) ≤ x) || !decide (P.getD x.toNat 0 = 0)) = !eaOk n d x := by
          unfold eaOk
          simp only [hxr, show ¬ 0 ≤ x by omega, decide_true, decide_false, Bool.true_or, Bool.false_and, Bool.not_false]
        rw [← hea] at hD7
        refine AW.regionK 0 (fun _ => none) [0, 6, 7, 8, 15, 16, 17, 35] [10] ?_
        simp only [go_sem, reduceIte, reduceCtorEq, zA, zM, zE, zL, zD, zS, zP, zB, zI, zR, ints_len, hbl, hgx2]
        repeat with_reducible refine cj ?_ ?_
        all_goals try first | (first | (simp only [Bool.or_eq_true, decide_eq_true_eq]; omega) | (intro hh; refine ⟨hh, hh, ?_, ?_⟩ <;> (simp only [Bool.or_eq_false_iff, decide_eq_false_iff_not] at hh; omega)) | (intro hh; exfalso; simp only [Bool.or_eq_false_iff, decide_eq_false_iff_not] at hh; omega)) | (intros; (repeat' apply And.intro) <;> first | assumption | (first | (simp only [Bool.or_eq_true, decide_eq_true_eq]; omega) | (intro hh; refine ⟨hh, hh, ?_, ?_⟩ <;> (simp only [Bool.or_eq_false_iff, decide_eq_false_iff_not] at hh; omega)) | (intro hh; exfalso; simp only [Bool.or_eq_false_iff, decide_eq_false_iff_not] at hh; omega))) | omega | (intro hgd; exact absurd hgd (by decide)) | rfl | (simp only [go_sem, reduceIte, reduceCtorEq, zA, zM, zE, zL, zD, zS, zP, zB, zI, zR, ints_len, hbl, hgx2]; done) | (intro _hgd; simp_all [go_sem]; done)
        exact hD7 _
      · -- region 7
        have hgx2 : (ints P).getD x.toNat [] = [] := by rw [List.getD_eq_getElem?_getD, List.getElem?_eq_none (by omega)]; rfl
        have hea : true = !eaOk n d x := by
          unfold eaOk
          simp only [show ¬ x < (n : Int) by omega, decide_false, Bool.and_false, Bool.false_and, Bool.not_false]
        rw [← hea] at hD7
        refine AW.regionK 0 (fun _ => none) [0, 6, 7, 8, 15, 16, 17, 35] [10] ?_
        simp only [go_sem, reduceIte, reduceCtorEq, zA, zM, zE, zL, zD, zS, zP, zB, zI, zR, ints_len, hbl, hgx2]
        repeat with_reducible refine cj ?_ ?_
        all_goals try first | (first | (simp only [Bool.or_eq_true, decide_eq_true_eq]; omega) | (intro hh; refine ⟨hh, hh, ?_, ?_⟩ <;> (simp only [Bool.or_eq_false_iff, decide_eq_false_iff_not] at hh; omega)) | (intro hh; exfalso; simp only [Bool.or_eq_false_iff, decide_eq_false_iff_not] at hh; omega)) | (intros; (repeat' apply And.intro) <;> first | assumption | (first | (simp only [Bool.or_eq_true, decide_eq_true_eq]; omega) | (intro hh; refine ⟨hh, hh, ?_, ?_⟩ <;> (simp only [Bool.or_eq_false_iff, decide_eq_false_iff_not] at hh; omega)) | (intro hh; exfalso; simp only [Bool.or_eq_false_iff, decide_eq_false_iff_not] at hh; omega))) | omega | (intro hgd; exact absurd hgd (by decide)) | rfl | (simp only [go_sem, reduceIte, reduceCtorEq, zA, zM, zE, zL, zD, zS, zP, zB, zI, zR, ints_len, hbl, hgx2]; done) | (intro _hgd; simp_all [go_sem]; done)
        exact hD7 _
    · intro hb
      try simp only [hB, decide_eq_true_eq, decide_eq_false_iff_not] at hb
      have hkn : n = k := by omega
      subst hkn
      rw [List.take_of_length_le (by omega)] at hall
      have hE2 : eachB n l = true := by rw [hE, hall, hln]; simp
      have htp : (plI n l n).take n = plI n l n := List.take_of_length_le (by omega)
      refine AW.keep [6] [10] ?_
      try simp only [go_sem, reduceIte, reduceCtorEq, zA, zM, zE, zL, zD, zS, zP, zB, zI, zR]
      refine AW.exit ?_
      rw [← hQl1]
      refine hK6 _ _ _ ?_; clear hK6
      refine AW.seq fun K16 hK16 => ?_
      refine AW.regionK 0 (fun _ => none) [4, 5] [10] ?_
      simp only [go_sem, reduceIte, reduceCtorEq, zA, zM, zE, zL, zD, zS, zP, zB, zI, zR, ints_len]
      repeat with_reducible refine cj ?_ ?_
      all_goals try first | omega
      refine hK16 _ _ _ ?_; clear hK16
      refine AW.ret ?_
      rw [← hQr]
      simp only [go_sem, reduceIte, reduceCtorEq, zA, zM, zE, zL, zD, zS, zP, zB, zI, zR, ints_len]
      exact Wk.of_eq (by rw [hE2, htp]; rfl)
end Go.Proofs.X

namespace Go.Proofs.X
open Go.AM Go
set_option maxRecDepth 100000
set_option maxHeartbeats 4000000
theorem meet_g (n : Nat) (hn : n ≤ 512) (ls : List (List Int)) (h1 : 1 ≤ ls.length) (h2 : ls.length ≤ 100) (hle : ∀ x ∈ ls, x.length ≤ 9223372036854775807) (hx : ls.all (eachB n) = true) : Reads Tryd.prog 32 false [.int .i64 n, .rsl 1 (lisR ls)] (.tup [relB (meetT n ls), .int .i64 0]) := by
  have hgood := hx
  have hpl := fun x hx => places_r n hn x hx
  have hml : (ls.map fun l => plI n l n).length = ls.length := by simp
  have hme : ∀ x ∈ ls.map (fun l => plI n l n), x.length = n := fun x hx => by obtain ⟨l, _, rfl⟩ := List.mem_map.1 hx; exact plI_len n l n
  have hct := fun i j hi hj => Reads.flat (ctgta_r i j n (ls.map fun l => plI n l n) (by rw [hml]; omega) hi hj hme) rfl
  have hmF : ∀ i j, meetF n ls i j = (!decide (i = j) && !(ls.map fun l => plI n l n).any (gtA i j)) := fun _ _ => rfl
  have hof := fun (l : List Int) hl hr => of_r (n : Int) l (by omega) (by omega) hl hr
  have hmt : meetT n ls = tabF n (meetF n ls) := rfl
  have hsq := tabF_sq n (meetF n ls)
  have hTl : (meetT n ls).length = n := hsq.len
  have hTr : ∀ i, i < n → rowT (meetT n ls) i = setR n (meetF n ls i) := fun i hi => rowT_tabF hi
  unfold relB
  refine Reads.body (rs := [.cell 4 24, .tmp 5]) Tryd.func32 rfl Tryd.ntmps32 rfl (by simp) ?_
  generalize hQr : retQ _ _ _ = Qr
  refine AW.seq fun K1 hK1 => ?_
  refine AW.regionK 0 (fun _ => none) [0, 1, 4] [4] ?_
  simp only [go_sem, reduceIte, reduceCtorEq, zA, zM, zE, zL, zD, zS, zP, zB, zI, zR, lisR_len]
  repeat with_reducible refine cj ?_ ?_
  all_goals try first | omega
  refine hK1 _ _ _ ?_; clear hK1
  refine AW.seq fun K2 hK2 => ?_
  refine AW.block ?_
  refine AW.seq fun K3 hK3 => ?_
  refine AW.regionK 0 (fun _ => none) [0, 1, 4, 17] [4] ?_
  simp only [go_sem, reduceIte, reduceCtorEq, zA, zM, zE, zL, zD, zS, zP, zB, zI, zR, lisR_len]
  repeat with_reducible refine cj ?_ ?_
  all_goals try first | omega | (intros; (repeat' apply And.intro) <;> first | assumption | omega | decide) | (intro hgd; exact absurd hgd (by decide)) | rfl | (simp only [go_sem, reduceIte, reduceCtorEq, zA, zM, zE, zL, zD, zS, zP, zB, zI, zR, lisR_len]; done) | (intro _hgd; simp_all [go_sem]; done)
  refine hK3 _ _ _ ?_; clear hK3
  refine AW.cond rfl (by simp only [go_sem, reduceIte, reduceCtorEq, zA, zM, zE, zL, zD, zS, zP, zB, zI, zR]) ?_ ?_
  · intro hb
    try simp only [hB, decide_eq_true_eq, decide_eq_false_iff_not] at hb
    exfalso; omega
  · intro hb
    try simp only [hB, decide_eq_true_eq, decide_eq_false_iff_not] at hb
    refine AW.seq fun K4 hK4 => ?_
    refine AW.regionK 0 (fun _ => none) [0, 1, 4, 25] [4] ?_
    simp only [go_sem, reduceIte, reduceCtorEq, zA, zM, zE, zL, zD, zS, zP, zB, zI, zR, lisR_len]
    repeat with_reducible refine cj ?_ ?_
    all_goals try first | omega
    refine hK4 _ _ _ ?_; clear hK4
    refine AW.cond rfl (by simp only [go_sem, reduceIte, reduceCtorEq, zA, zM, zE, zL, zD, zS, zP, zB, zI, zR]) ?_ ?_
    · intro hb
      try simp only [hB, decide_eq_true_eq, decide_eq_false_iff_not] at hb
      exfalso; omega
    · intro hb
      try simp only [hB, decide_eq_true_eq, decide_eq_false_iff_not] at hb
      refine AW.seq fun K5 hK5 => ?_
      refine AW.regionK 0 (fun _ => none) [0, 1, 4, 30] [4] ?_
      simp only [go_sem, reduceIte, reduceCtorEq, zA, zM, zE, zL, zD, zS, zP, zB, zI, zR, lisR_len]
      repeat with_reducible refine cj ?_ ?_
      all_goals try first | omega
      refine hK5 _ _ _ ?_; clear hK5
      refine AW.cond rfl (by simp only [go_sem, reduceIte, reduceCtorEq, zA, zM, zE, zL, zD, zS, zP, zB, zI, zR]) ?_ ?_
      · intro hb
        try simp only [hB, decide_eq_true_eq, decide_eq_false_iff_not] at hb
        exfalso; omega
      · intro hb
        try simp only [hB, decide_eq_true_eq, decide_eq_false_iff_not] at hb
        refine AW.skip ?_
        refine hK2 _ _ _ ?_; clear hK2
        refine AW.seq fun K6 hK6 => ?_
        refine AW.regionK 0 (fun _ => none) [0, 1, 4, 6] [4] ?_
        simp only [go_sem, reduceIte, reduceCtorEq, zA, zM, zE, zL, zD, zS, zP, zB, zI, zR, lisR_len]
        repeat with_reducible refine cj ?_ ?_
        all_goals try first | omega
        refine hK6 _ _ _ ?_; clear hK6
        refine AW.nilOwn 6 200 1 rfl ?_
        refine AW.keep [0, 1, 4, 6] [4, 200] ?_
        simp only [go_sem, reduceIte, zE]
        refine AW.seq fun K7 hK7 => ?_
        refine AW.seq fun K8 hK8 => ?_
        refine AW.regionK 0 (fun _ => none) [0, 4, 6, 35, 36, 37] [4, 200] ?_
        simp only [go_sem, reduceIte, reduceCtorEq, zA, zM, zE, zL, zD, zS, zP, zB, zI, zR, lisR_len]
        repeat with_reducible refine cj ?_ ?_
        all_goals try first | omega
        refine hK8 _ _ _ ?_; clear hK8
        refine AW.block ?_
        refine AW.loopE (fun mm ee ss kk => ∃ (k g4 v4 g v : Nat), ls.length - k = mm ∧ ee = [(0, .int .i64 n), (4, .ptr ⟨4, g4, none⟩ 0 0), (6, .sl ⟨200, g, none⟩ 0 k none), (35, .rsl 1 (lisR ls)), (36, .int .i64 ls.length), (37, .int .i64 (k : Nat))] ∧ ss = [(4, some ⟨g4, v4, 1, [[.nilsl]]⟩), (200, some ⟨g, v, 1, lisR ((ls.take k).map fun l => plI n l n)⟩)] ∧ (k ≤ ls.length ∧ (ls.take k).all (eachB n) = true)) ?_ ?_
        · refine ⟨_, 0, ?_, ?_, ?_, ?_, rfl, ?henv, ?hstore, ?hst⟩
          case henv =>
            repeat' (first | rfl | refine env_cons ?_ ?_ | refine st_cons ?_ ?_ ?_ ?_ | refine int_eq ?_ | refine bool_eq ?_ | refine rsl_eq ?_ | refine osl_eq ?_ | refine sl_eq ?_ ?_ ?_ | refine ptr_eq ?_ ?_ ?_ | refine agg_eq ?_ | refine es_cons ?_ ?_ | refine row_cons ?_ ?_)
            all_goals (first | (simp; done) | omega | (simp; omega))
          case hstore =>
            repeat' (first | rfl | refine env_cons ?_ ?_ | refine st_cons ?_ ?_ ?_ ?_ | refine int_eq ?_ | refine bool_eq ?_ | refine rsl_eq ?_ | refine osl_eq ?_ | refine sl_eq ?_ ?_ ?_ | refine ptr_eq ?_ ?_ ?_ | refine agg_eq ?_ | refine es_cons ?_ ?_ | refine row_cons ?_ ?_)
            all_goals (first | (simp; done) | omega | (simp; omega))
          case hst =>
            exact ⟨Nat.zero_le _, rfl⟩
        rintro mm ee ss kk ⟨k, g4, v4, g, v, rfl, rfl, rfl, hI⟩
        generalize hQl1 : thenQ _ _ = Ql1
        obtain ⟨hk, hall⟩ := hI
        refine AW.seq fun K9 hK9 => ?_
        refine AW.regionK 0 (fun _ => none) [0, 4, 6, 35, 36, 37, 38] [4, 200] ?_
        simp only [go_sem, reduceIte, reduceCtorEq, zA, zM, zE, zL, zD, zS, zP, zB, zI, zR, lisR_len]
        repeat with_reducible refine cj ?_ ?_
        all_goals try first | omega
        refine hK9 _ _ _ ?_; clear hK9
        refine AW.seq fun K10 hK10 => ?_
        refine AW.cond rfl (by simp only [go_sem, reduceIte, reduceCtorEq, zA, zM, zE, zL, zD, zS, zP, zB, zI, zR]) ?_ ?_
        · intro hb
          try simp only [hB, decide_eq_true_eq, decide_eq_false_iff_not] at hb
          obtain ⟨x, hx⟩ := getI (l := ls) (j := k) (by omega)
          have hgx : (lisR ls).getD k [] = [.rsl 1 (ints x)] := by simp [lisR, List.getD_eq_getElem?_getD, hx]
          have hats := all_take_succ (p := eachB n) hx
          have hxl := hle x (List.mem_of_getElem? hx)
          have hpx := hpl x hxl
          have hxm := List.mem_of_getElem? hx
          have hmk : (ls.take (k + 1)).map (fun l => plI n l n) = (ls.take k).map (fun l => plI n l n) ++ [plI n x n] := by rw [List.take_add_one, hx]; simp
          have htk : (lisR ((ls.take k).map fun l => plI n l n)).take k = lisR ((ls.take k).map fun l => plI n l n) := List.take_of_length_le (by rw [lisR_len]; simp; omega)
          have hap : lisR ((ls.take k).map fun l => plI n l n) ++ [[.rsl 1 (ints (plI n x n))]] = lisR ((ls.take k).map (fun l => plI n l n) ++ [plI n x n]) := by simp [lisR]
          refine AW.skip ?_
          refine hK10 _ _ _ ?_; clear hK10
          refine AW.seq fun K11 hK11 => ?_
          refine AW.block ?_
          refine AW.seq fun K12 hK12 => ?_
          refine AW.regionK 0 (fun _ => none) [0, 4, 6, 8, 35, 36, 37] [4, 200] ?_
          simp only [go_sem, reduceIte, reduceCtorEq, zA, zM, zE, zL, zD, zS, zP, zB, zI, zR, lisR_len, hgx]
          repeat with_reducible refine cj ?_ ?_
          all_goals try first | omega
          refine hK12 _ _ _ ?_; clear hK12
          refine AW.seq fun K13 hK13 => ?_
          refine AW.regionK 0 (fun ii => if ii = 2 then some (.reads false (.tup [.rsl 1 (ints (if eachB n x then plI n x n else [])), .bool (eachB n x)])) else none) [0, 4, 6, 9, 10, 35, 36, 37] [4, 200] ?_
          simp only [go_sem, reduceIte, reduceCtorEq, zA, zM, zE, zL, zD, zS, zP, zB, zI, zR, lisR_len]
          repeat with_reducible refine cj ?_ ?_
          all_goals try first | (exact hpx) | omega | exact ent (by kernel_rfl)
          refine hK13 _ _ _ ?_; clear hK13
          refine AW.seq fun K14 hK14 => ?_
          refine AW.seq fun K15 hK15 => ?_
          refine AW.regionK 0 (fun _ => none) [0, 4, 6, 9, 35, 36, 37, 48] [4, 200] ?_
          simp only [go_sem, reduceIte, reduceCtorEq, zA, zM, zE, zL, zD, zS, zP, zB, zI, zR, lisR_len]
          repeat with_reducible refine cj ?_ ?_
          all_goals try first | omega
          refine hK15 _ _ _ ?_; clear hK15
          refine AW.cond rfl (by simp only [go_sem, reduceIte, reduceCtorEq, zA, zM, zE, zL, zD, zS, zP, zB, zI, zR]) ?_ ?_
          · intro hb
            try simp only [hB, decide_eq_true_eq, decide_eq_false_iff_not] at hb
            exfalso; have hex : eachB n x = true := (List.all_eq_true.1 hgood) x hxm
            rw [hex] at hb; simp at hb
          · intro hb
            try simp only [hB, decide_eq_true_eq, decide_eq_false_iff_not] at hb
            have hex : eachB n x = true := by simpa using hb
            simp only [hex, if_true]
            refine AW.skip ?_
            refine hK14 _ _ _ ?_; clear hK14
            refine AW.regionK 0 (fun _ => none) [0, 4, 6, 35, 36, 37] [4, 200] ?_
            simp only [go_sem, reduceIte, reduceCtorEq, zA, zM, zE, zL, zD, zS, zP, zB, zI, zR, lisR_len, htk, hap]
            repeat with_reducible refine cj ?_ ?_
            all_goals try first | omega | (simp [scP, scalar]; done) | exact scP_words _ | exact scP_ints _ | exact scP_bools _
            refine hK11 _ _ _ ?_; clear hK11
            refine AW.regionK 0 (fun _ => none) [0, 4, 6, 35, 36, 37] [4, 200] ?_
            simp only [go_sem, reduceIte, reduceCtorEq, zA, zM, zE, zL, zD, zS, zP, zB, zI, zR, lisR_len]
            repeat with_reducible refine cj ?_ ?_
            all_goals try first | omega
            rw [← hQl1]
            change Exists _
            refine ⟨_, ?hm, k + 1, ?_, ?_, ?_, ?_, rfl, ?henv, ?hstore, ?hst⟩
            case henv =>
              repeat' (first | rfl | refine env_cons ?_ ?_ | refine st_cons ?_ ?_ ?_ ?_ | refine int_eq ?_ | refine bool_eq ?_ | refine rsl_eq ?_ | refine osl_eq ?_ | refine sl_eq ?_ ?_ ?_ | refine ptr_eq ?_ ?_ ?_ | refine agg_eq ?_ | refine es_cons ?_ ?_ | refine row_cons ?_ ?_)
              all_goals (first | (simp; done) | omega | (simp; omega))
            case hstore =>
              repeat' (first | rfl | refine env_cons ?_ ?_ | refine st_cons ?_ ?_ ?_ ?_ | refine int_eq ?_ | refine bool_eq ?_ | refine rsl_eq ?_ | refine osl_eq ?_ | refine sl_eq ?_ ?_ ?_ | refine ptr_eq ?_ ?_ ?_ | refine agg_eq ?_ | refine es_cons ?_ ?_ | refine row_cons ?_ ?_)
              all_goals (rw [hmk])
            case hst =>
              exact ⟨by omega, by rw [hats, hall, (List.all_eq_true.1 hgood) x hxm]; rfl⟩
            case hm => omega
        · intro hb
          try simp only [hB, decide_eq_true_eq, decide_eq_false_iff_not] at hb
          have hkl : k = ls.length := by omega
          rw [hkl, List.take_of_length_le (Nat.le_refl _)]
          have htl : (lisR (ls.map fun l => plI n l n)).take ls.length = lisR (ls.map fun l => plI n l n) := List.take_of_length_le (by rw [lisR_len, hml]; omega)
          generalize hA : (ls.map fun l => plI n l n) = A at *
          refine AW.keep [0, 4, 6] [4, 200] ?_
          try simp only [go_sem, reduceIte, reduceCtorEq, zA, zM, zE, zL, zD, zS, zP, zB, zI, zR]
          refine AW.exit ?_
          rw [← hQl1]
          refine hK7 _ _ _ ?_; clear hK7
          refine AW.seq fun K16 hK16 => ?_
          refine AW.freezeK [200] [6] [0, 4] [4] ?_
          simp only [go_sem, reduceIte, zE, htl, vwc_lisR]
          refine AW.regionK 0 (fun _ => none) [0, 4, 6, 11] [4, 11] ?_
          simp only [go_sem, reduceIte, reduceCtorEq, zA, zM, zE, zL, zD, zS, zP, zB, zI, zR, lisR_len]
          repeat with_reducible refine cj ?_ ?_
          all_goals try first | omega
          refine hK16 _ _ _ ?_; clear hK16
          refine AW.seq fun K17 hK17 => ?_
          refine AW.seq fun K18 hK18 => ?_
          refine AW.regionK 0 (fun _ => none) [0, 4, 6, 11, 55, 56] [4, 11] ?_
          simp only [go_sem, reduceIte, reduceCtorEq, zA, zM, zE, zL, zD, zS, zP, zB, zI, zR, lisR_len]
          repeat with_reducible refine cj ?_ ?_
          all_goals try first | omega
          refine hK18 _ _ _ ?_; clear hK18
          refine AW.block ?_
          refine AW.nilCellK 11 0 0 201 2 ?_
          simp only [go_sem, reduceIte, zE]
          repeat refine cj ?_ ?_
          all_goals first | decide | skip
          refine AW.keep [0, 4, 6, 11, 55, 56] [4, 11, 201] ?_
          simp only [go_sem, reduceIte, zE]
          refine AW.loopE (fun mm ee ss kk => ∃ (i g4 v4 g11 v11 g v : Nat), n - i = mm ∧ ee = [(0, .int .i64 n), (4, .ptr ⟨4, g4, none⟩ 0 0), (6, .rsl 1 (lisR A)), (11, .ptr ⟨11, g11, none⟩ 0 0), (55, .int .i64 n), (56, .int .i64 (i : Nat))] ∧ ss = [(4, some ⟨g4, v4, 1, [[.nilsl]]⟩), (11, some ⟨g11, v11, 1, [[.sl ⟨201, g, none⟩ 0 i none]]⟩), (201, some ⟨g, v, 2, tabR ((meetT n ls).take i)⟩)] ∧ (i ≤ n)) ?_ ?_
          · refine ⟨_, 0, ?_, ?_, ?_, ?_, ?_, ?_, rfl, ?henv, ?hstore, ?hst⟩
            case henv =>
              repeat' (first | rfl | refine env_cons ?_ ?_ | refine st_cons ?_ ?_ ?_ ?_ | refine int_eq ?_ | refine bool_eq ?_ | refine rsl_eq ?_ | refine osl_eq ?_ | refine sl_eq ?_ ?_ ?_ | refine ptr_eq ?_ ?_ ?_ | refine agg_eq ?_ | refine es_cons ?_ ?_ | refine row_cons ?_ ?_)
              all_goals (first | (simp; done) | omega | (simp; omega))
            case hstore =>
              repeat' (first | rfl | refine env_cons ?_ ?_ | refine st_cons ?_ ?_ ?_ ?_ | refine int_eq ?_ | refine bool_eq ?_ | refine rsl_eq ?_ | refine osl_eq ?_ | refine sl_eq ?_ ?_ ?_ | refine ptr_eq ?_ ?_ ?_ | refine agg_eq ?_ | refine es_cons ?_ ?_ | refine row_cons ?_ ?_)
              all_goals (first | (simp; done) | omega | (simp; omega))
            case hst =>
              first | trivial | omega | (simp; done) | (simp; omega)
          rintro mm ee ss kk ⟨i, g4, v4, g11, v11, g, v, rfl, rfl, rfl, hI⟩
          generalize hQl2 : thenQ _ _ = Ql2
          refine AW.seq fun K19 hK19 => ?_
          refine AW.regionK 0 (fun _ => none) [0, 4, 6, 11, 55, 56, 57] [4, 11, 201] ?_
          simp only [go_sem, reduceIte, reduceCtorEq, zA, zM, zE, zL, zD, zS, zP, zB, zI, zR, lisR_len]
          repeat with_reducible refine cj ?_ ?_
          all_goals try first | omega
          refine hK19 _ _ _ ?_; clear hK19
          refine AW.seq fun K20 hK20 => ?_
          refine AW.cond rfl (by simp only [go_sem, reduceIte, reduceCtorEq, zA, zM, zE, zL, zD, zS, zP, zB, zI, zR]) ?_ ?_
          · intro hb
            try simp only [hB, decide_eq_true_eq, decide_eq_false_iff_not] at hb
            have hin : i < n := by omega
            have hTi := hTr i hin
            have htT : (meetT n ls).take (i + 1) = (meetT n ls).take i ++ [rowT (meetT n ls) i] := by rw [List.take_add_one]; unfold rowT; rw [List.getElem?_eq_getElem (by omega)]; simp [List.getD_eq_getElem?_getD, List.getElem?_eq_getElem (show i < (meetT n ls).length by omega)]
            rw [hTi] at htT
            generalize hTT : (meetT n ls).take i = T at *
            have hTlen : T.length = i := by rw [← hTT]; simp; omega
            refine AW.skip ?_
            refine hK20 _ _ _ ?_; clear hK20
            refine AW.seq fun K21 hK21 => ?_
            refine AW.block ?_
            refine AW.seq fun K22 hK22 => ?_
            refine AW.regionK 0 (fun _ => none) [0, 4, 6, 11, 12, 55, 56] [4, 11, 12, 201] ?_
            simp only [go_sem, reduceIte, reduceCtorEq, zA, zM, zE, zL, zD, zS, zP, zB, zI, zR, lisR_len]
            repeat with_reducible refine cj ?_ ?_
            all_goals try first | omega
            refine hK22 _ _ _ ?_; clear hK22
            refine AW.seq fun K23 hK23 => ?_
            refine AW.regionK 0 (fun _ => none) [0, 4, 6, 11, 12, 13, 55, 56] [4, 11, 12, 201] ?_
            simp only [go_sem, reduceIte, reduceCtorEq, zA, zM, zE, zL, zD, zS, zP, zB, zI, zR, lisR_len]
            repeat with_reducible refine cj ?_ ?_
            all_goals try first | omega
            refine hK23 _ _ _ ?_; clear hK23
            refine AW.nilOwn 13 202 1 rfl ?_
            refine AW.keep [0, 4, 6, 11, 12, 13, 55, 56] [4, 11, 12, 201, 202] ?_
            simp only [go_sem, reduceIte, zE]
            refine AW.seq fun K24 hK24 => ?_
            refine AW.seq fun K25 hK25 => ?_
            refine AW.regionK 0 (fun _ => none) [0, 4, 6, 11, 12, 13, 55, 56, 59, 60] [4, 11, 12, 201, 202] ?_
            simp only [go_sem, reduceIte, reduceCtorEq, zA, zM, zE, zL, zD, zS, zP, zB, zI, zR, lisR_len]
            repeat with_reducible refine cj ?_ ?_
            all_goals try first | omega
            refine hK25 _ _ _ ?_; clear hK25
            refine AW.block ?_
            refine AW.loopE (fun mm ee ss kk => ∃ (j g4 v4 g11 v11 g12 v12 g v g2 v2 : Nat), n - j = mm ∧ ee = [(0, .int .i64 n), (4, .ptr ⟨4, g4, none⟩ 0 0), (6, .rsl 1 (lisR A)), (11, .ptr ⟨11, g11, none⟩ 0 0), (12, .ptr ⟨12, g12, none⟩ 0 0), (13, .sl ⟨202, g2, none⟩ 0 ((List.range j).filter (meetF n ls i)).length none), (55, .int .i64 n), (56, .int .i64 (i : Nat)), (59, .int .i64 n), (60, .int .i64 (j : Nat))] ∧ ss = [(4, some ⟨g4, v4, 1, [[.nilsl]]⟩), (11, some ⟨g11, v11, 1, [[.sl ⟨201, g, none⟩ 0 i none]]⟩), (12, some ⟨g12, v12, 1, [[.int .i64 (i : Nat)]]⟩), (201, some ⟨g, v, 2, tabR T⟩), (202, some ⟨g2, v2, 1, ints (((List.range j).filter (meetF n ls i)).map fun k : Nat => (k : Int))⟩)] ∧ (j ≤ n)) ?_ ?_
            · refine ⟨_, 0, ?_, ?_, ?_, ?_, ?_, ?_, ?_, ?_, ?_, ?_, rfl, ?henv, ?hstore, ?hst⟩
              case henv =>
                repeat' (first | rfl | refine env_cons ?_ ?_ | refine st_cons ?_ ?_ ?_ ?_ | refine int_eq ?_ | refine bool_eq ?_ | refine rsl_eq ?_ | refine osl_eq ?_ | refine sl_eq ?_ ?_ ?_ | refine ptr_eq ?_ ?_ ?_ | refine agg_eq ?_ | refine es_cons ?_ ?_ | refine row_cons ?_ ?_)
                all_goals (first | (simp; done) | omega | (simp; omega))
              case hstore =>
                repeat' (first | rfl | refine env_cons ?_ ?_ | refine st_cons ?_ ?_ ?_ ?_ | refine int_eq ?_ | refine bool_eq ?_ | refine rsl_eq ?_ | refine osl_eq ?_ | refine sl_eq ?_ ?_ ?_ | refine ptr_eq ?_ ?_ ?_ | refine agg_eq ?_ | refine es_cons ?_ ?_ | refine row_cons ?_ ?_)
                all_goals (first | (simp; done) | omega | (simp; omega))
              case hst =>
                first | trivial | omega | (simp; done) | (simp; omega)
            rintro mm ee ss kk ⟨j, g4, v4, g11, v11, g12, v12, g, v, g2, v2, rfl, rfl, rfl, hI⟩
            generalize hQl3 : thenQ _ _ = Ql3
            have hfl : ((List.range j).filter (meetF n ls i)).length ≤ 512 := Nat.le_trans (List.length_filter_le _ _) (by simp; omega)
            refine AW.seq fun K26 hK26 => ?_
            refine AW.regionK 0 (fun _ => none) [0, 4, 6, 11, 12, 13, 55, 56, 59, 60, 61] [4, 11, 12, 201, 202] ?_
            simp only [go_sem, reduceIte, reduceCtorEq, zA, zM, zE, zL, zD, zS, zP, zB, zI, zR, lisR_len]
            repeat with_reducible refine cj ?_ ?_
            all_goals try first | omega
            refine hK26 _ _ _ ?_; clear hK26
            refine AW.seq fun K27 hK27 => ?_
            refine AW.cond rfl (by simp only [go_sem, reduceIte, reduceCtorEq, zA, zM, zE, zL, zD, zS, zP, zB, zI, zR]) ?_ ?_
            · intro hb
              try simp only [hB, decide_eq_true_eq, decide_eq_false_iff_not] at hb
              have hjn : j < n := by omega
              have hc := hct i j hin hjn
              have hm1 := hmF i j
              have hij : decide ((i : Int) = (j : Int)) = decide (i = j) := decide_eq_decide.2 (by omega)
              have hrs : (List.range (j + 1)).filter (meetF n ls i) = (List.range j).filter (meetF n ls i) ++ if meetF n ls i j then [j] else [] := by rw [List.range_succ, List.filter_append]; cases e : meetF n ls i j <;> simp [e]
              have hft : (ints (((List.range j).filter (meetF n ls i)).map fun k : Nat => (k : Int))).take ((List.range j).filter (meetF n ls i)).length = ints (((List.range j).filter (meetF n ls i)).map fun k : Nat => (k : Int)) := List.take_of_length_le (by rw [ints_len, List.length_map]; omega)
              refine AW.skip ?_
              refine hK27 _ _ _ ?_; clear hK27
              refine AW.seq fun K28 hK28 => ?_
              refine AW.block ?_
              refine AW.seq fun K29 hK29 => ?_
              refine AW.regionK 0 (fun _ => none) [0, 4, 6, 11, 12, 13, 14, 55, 56, 59, 60] [4, 11, 12, 14, 201, 202] ?_
              simp only [go_sem, reduceIte, reduceCtorEq, zA, zM, zE, zL, zD, zS, zP, zB, zI, zR, lisR_len]
              repeat with_reducible refine cj ?_ ?_
              all_goals try first | omega
              refine hK29 _ _ _ ?_; clear hK29
              refine AW.seq fun K30 hK30 => ?_
              refine AW.regionK 0 (fun ii => if ii = 6 then some (.reads true (.bool (A.any (gtA i j)))) else none) [0, 4, 6, 11, 12, 13, 14, 55, 56, 59, 60, 71] [4, 11, 12, 14, 201, 202] ?_
              simp only [go_sem, reduceIte, reduceCtorEq, zA, zM, zE, zL, zD, zS, zP, zB, zI, zR, lisR_len, hij]
              repeat with_reducible refine cj ?_ ?_
              all_goals try first | ((intros; (repeat' apply And.intro) <;> first | assumption | exact hc)) | (intros; (repeat' apply And.intro) <;> first | assumption | ((intros; (repeat' apply And.intro) <;> first | assumption | exact hc))) | omega | exact ent (by kernel_rfl) | (intro hgd; exact absurd hgd (by decide)) | rfl | (simp only [go_sem, reduceIte, reduceCtorEq, zA, zM, zE, zL, zD, zS, zP, zB, zI, zR, lisR_len, hij]; done) | (intro _hgd; simp_all [go_sem]; done)
              refine hK30 _ _ _ ?_; clear hK30
              have hJ8 : ∀ (g2 v2 : Nat) (kk : Nat), K28 [(0, .int .i64 n), (4, .ptr ⟨4, g4, none⟩ 0 0), (6, .rsl 1 (lisR A)), (11, .ptr ⟨11, g11, none⟩ 0 0), (12, .ptr ⟨12, g12, none⟩ 0 0), (13, .sl ⟨202, g2, none⟩ 0 ((List.range (j + 1)).filter (meetF n ls i)).length none), (55, .int .i64 n), (56, .int .i64 (i : Nat)), (59, .int .i64 n), (60, .int .i64 (j : Nat))] [(4, some ⟨g4, v4, 1, [[.nilsl]]⟩), (11, some ⟨g11, v11, 1, [[.sl ⟨201, g, none⟩ 0 i none]]⟩), (12, some ⟨g12, v12, 1, [[.int .i64 (i : Nat)]]⟩), (201, some ⟨g, v, 2, tabR T⟩), (202, some ⟨g2, v2, 1, ints (((List.range (j + 1)).filter (meetF n ls i)).map fun k : Nat => (k : Int))⟩)] kk := by
                intro g2 v2 kk
                refine hK28 _ _ _ ?_; clear hK28
                refine AW.regionK 0 (fun _ => none) [0, 4, 6, 11, 12, 13, 55, 56, 59, 60] [4, 11, 12, 201, 202] ?_
                simp only [go_sem, reduceIte, reduceCtorEq, zA, zM, zE, zL, zD, zS, zP, zB, zI, zR, lisR_len]
                repeat with_reducible refine cj ?_ ?_
                all_goals try first | omega
                rw [← hQl3]
                change Exists _
                refine ⟨_, ?hm, j + 1, ?_, ?_, ?_, ?_, ?_, ?_, ?_, ?_, ?_, ?_, rfl, ?henv, ?hstore, ?hst⟩
                case henv =>
                  repeat' (first | rfl | refine env_cons ?_ ?_ | refine st_cons ?_ ?_ ?_ ?_ | refine int_eq ?_ | refine bool_eq ?_ | refine rsl_eq ?_ | refine osl_eq ?_ | refine sl_eq ?_ ?_ ?_ | refine ptr_eq ?_ ?_ ?_ | refine agg_eq ?_ | refine es_cons ?_ ?_ | refine row_cons ?_ ?_)
                  all_goals (first | omega | (rw [List.range_succ]))
                case hstore =>
                  repeat' (first | rfl | refine env_cons ?_ ?_ | refine st_cons ?_ ?_ ?_ ?_ | refine int_eq ?_ | refine bool_eq ?_ | refine rsl_eq ?_ | refine osl_eq ?_ | refine sl_eq ?_ ?_ ?_ | refine ptr_eq ?_ ?_ ?_ | refine agg_eq ?_ | refine es_cons ?_ ?_ | refine row_cons ?_ ?_)
                  all_goals (rw [List.range_succ])
                case hst =>
                  omega
                case hm => omega
              refine AW.cond rfl (by simp only [go_sem, reduceIte, reduceCtorEq, zA, zM, zE, zL, zD, zS, zP, zB, zI, zR]) ?_ ?_
              · intro hb
                try simp only [hB, decide_eq_true_eq, decide_eq_false_iff_not] at hb
                have hmt1 : meetF n ls i j = true := by rw [hm1]; revert hb; simp
                rw [hmt1, if_pos rfl] at hrs
                simp only [hrs, List.length_append, List.length_cons, List.length_nil, Nat.zero_add, List.map_append, List.map_cons, List.map_nil] at hJ8
                refine AW.regionK 0 (fun _ => none) [0, 4, 6, 11, 12, 13, 55, 56, 59, 60] [4, 11, 12, 201, 202] ?_
                simp only [go_sem, reduceIte, reduceCtorEq, zA, zM, zE, zL, zD, zS, zP, zB, zI, zR, lisR_len, hft, ints_app]
                repeat with_reducible refine cj ?_ ?_
                all_goals try first | omega | (simp [scP, scalar]; done) | exact scP_words _ | exact scP_ints _ | exact scP_bools _
                exact hJ8 _ _ _
              · intro hb
                try simp only [hB, decide_eq_true_eq, decide_eq_false_iff_not] at hb
                have hmt1 : meetF n ls i j = false := by rw [hm1]; revert hb; simp; exact fun h h2 => h.resolve_left h2
                rw [hmt1, if_neg (by simp), List.append_nil] at hrs
                simp only [hrs] at hJ8
                refine AW.keep [0, 4, 6, 11, 12, 13, 55, 56, 59, 60] [4, 11, 12, 201, 202] ?_
                try simp only [go_sem, reduceIte, reduceCtorEq, zA, zM, zE, zL, zD, zS, zP, zB, zI, zR]
                refine AW.skip ?_
                exact hJ8 _ _ _
            · intro hb
              try simp only [hB, decide_eq_true_eq, decide_eq_false_iff_not] at hb
              have hjn : j = n := by omega
              rw [hjn] at hfl ⊢
              have hft : (ints (((List.range n).filter (meetF n ls i)).map fun k : Nat => (k : Int))).take ((List.range n).filter (meetF n ls i)).length = ints (((List.range n).filter (meetF n ls i)).map fun k : Nat => (k : Int)) := List.take_of_length_le (by rw [ints_len, List.length_map]; omega)
              have hft2 : (((List.range n).filter (meetF n ls i)).map fun k : Nat => (k : Int)).take ((List.range n).filter (meetF n ls i)).length = ((List.range n).filter (meetF n ls i)).map fun k : Nat => (k : Int) := List.take_of_length_le (by rw [List.length_map]; omega)
              have hin2 : ∀ y ∈ ((List.range n).filter (meetF n ls i)).map (fun k : Nat => (k : Int)), 0 ≤ y ∧ y < (n : Int) := fun y hy => by
                obtain ⟨k, hk, rfl⟩ := List.mem_map.1 hy
                have := List.mem_range.1 (List.mem_filter.1 hk).1
                omega
              have hofi := hof _ (by rw [List.length_map]; omega) hin2
              rw [ofW_row hin2, rowL_nats, show (setR n fun k => decide (k ∈ (List.range n).filter (meetF n ls i))) = setR n (meetF n ls i) from setR_ext fun k hk => by rw [Bool.eq_iff_iff, decide_eq_true_eq, List.mem_filter, List.mem_range]; exact ⟨fun h => h.2, fun h => ⟨hk, h⟩⟩] at hofi
              have hrl := setR_len n (meetF n ls i)
              generalize hRR : setR n (meetF n ls i) = R at *
              have htr : (tabR T).take i = tabR T := List.take_of_length_le (by rw [tabR_len]; omega)
              have har : tabR T ++ [[.int .i64 n, .rsl 1 (words (setW R n))]] = tabR (T ++ [R]) := by simp [tabR, rowB, hrl]
              have htl2 := tabR_len T
              refine AW.keep [0, 4, 6, 11, 13, 55, 56] [4, 11, 12, 201, 202] ?_
              try simp only [go_sem, reduceIte, reduceCtorEq, zA, zM, zE, zL, zD, zS, zP, zB, zI, zR]
              refine AW.exit ?_
              rw [← hQl3]
              refine hK24 _ _ _ ?_; clear hK24
              refine AW.seq fun K31 hK31 => ?_
              refine AW.regionK 0 (fun ii => if ii = 2 then some (.reads true (.tup [.agg [.int .i64 n, .rsl 1 (words (setW R n))], .int .i64 0])) else none) [0, 4, 6, 11, 15, 16, 55, 56] [4, 11, 15, 201] ?_
              simp only [go_sem, reduceIte, reduceCtorEq, zA, zM, zE, zL, zD, zS, zP, zB, zI, zR, lisR_len, hft, hft2]
              repeat with_reducible refine cj ?_ ?_
              all_goals try first | (exact hofi) | omega | exact ent (by kernel_rfl)
              refine hK31 _ _ _ ?_; clear hK31
              refine AW.seq fun K32 hK32 => ?_
              refine AW.seq fun K33 hK33 => ?_
              refine AW.regionK 0 (fun _ => none) [0, 4, 6, 11, 15, 16, 55, 56, 84] [4, 11, 15, 201] ?_
              simp only [go_sem, reduceIte, reduceCtorEq, zA, zM, zE, zL, zD, zS, zP, zB, zI, zR, lisR_len]
              repeat with_reducible refine cj ?_ ?_
              all_goals try first | omega
              refine hK33 _ _ _ ?_; clear hK33
              refine AW.cond rfl (by simp only [go_sem, reduceIte, reduceCtorEq, zA, zM, zE, zL, zD, zS, zP, zB, zI, zR]) ?_ ?_
              · intro hb
                try simp only [hB, decide_eq_true_eq, decide_eq_false_iff_not] at hb
                exfalso; simp at hb
              · intro hb
                try simp only [hB, decide_eq_true_eq, decide_eq_false_iff_not] at hb
                refine AW.skip ?_
                refine hK32 _ _ _ ?_; clear hK32
                refine AW.regionK 0 (fun _ => none) [0, 4, 6, 11, 55, 56] [4, 11, 201] ?_
                simp only [go_sem, reduceIte, reduceCtorEq, zA, zM, zE, zL, zD, zS, zP, zB, zI, zR, lisR_len, htr, har]
                repeat with_reducible refine cj ?_ ?_
                all_goals try first | omega | (simp [scP, scalar]; done) | exact scP_words _ | exact scP_ints _ | exact scP_bools _
                refine hK21 _ _ _ ?_; clear hK21
                refine AW.regionK 0 (fun _ => none) [0, 4, 6, 11, 55, 56] [4, 11, 201] ?_
                simp only [go_sem, reduceIte, reduceCtorEq, zA, zM, zE, zL, zD, zS, zP, zB, zI, zR, lisR_len]
                repeat with_reducible refine cj ?_ ?_
                all_goals try first | omega
                rw [← hQl2]
                change Exists _
                refine ⟨_, ?hm, i + 1, ?_, ?_, ?_, ?_, ?_, ?_, rfl, ?henv, ?hstore, ?hst⟩
                case henv =>
                  repeat' (first | rfl | refine env_cons ?_ ?_ | refine st_cons ?_ ?_ ?_ ?_ | refine int_eq ?_ | refine bool_eq ?_ | refine rsl_eq ?_ | refine osl_eq ?_ | refine sl_eq ?_ ?_ ?_ | refine ptr_eq ?_ ?_ ?_ | refine agg_eq ?_ | refine es_cons ?_ ?_ | refine row_cons ?_ ?_)
                  all_goals (first | (simp; done) | omega | (simp; omega))
                case hstore =>
                  repeat' (first | rfl | refine env_cons ?_ ?_ | refine st_cons ?_ ?_ ?_ ?_ | refine int_eq ?_ | refine bool_eq ?_ | refine rsl_eq ?_ | refine osl_eq ?_ | refine sl_eq ?_ ?_ ?_ | refine ptr_eq ?_ ?_ ?_ | refine agg_eq ?_ | refine es_cons ?_ ?_ | refine row_cons ?_ ?_)
                  all_goals (rw [htT])
                case hst =>
                  omega
                case hm => omega
          · intro hb
            try simp only [hB, decide_eq_true_eq, decide_eq_false_iff_not] at hb
            have hin : i = n := by omega
            rw [hin, List.take_of_length_le (by omega)]
            have htT : (tabR (meetT n ls)).take n = tabR (meetT n ls) := List.take_of_length_le (by rw [tabR_len]; omega)
            refine AW.keep [4, 11] [4, 11, 201] ?_
            try simp only [go_sem, reduceIte, reduceCtorEq, zA, zM, zE, zL, zD, zS, zP, zB, zI, zR]
            refine AW.exit ?_
            rw [← hQl2]
            refine hK17 _ _ _ ?_; clear hK17
            refine AW.seq fun K34 hK34 => ?_
            refine AW.regionK 0 (fun _ => none) [4, 5] [4, 201] ?_
            simp only [go_sem, reduceIte, reduceCtorEq, zA, zM, zE, zL, zD, zS, zP, zB, zI, zR, lisR_len]
            repeat with_reducible refine cj ?_ ?_
            all_goals try first | omega
            refine hK34 _ _ _ ?_; clear hK34
            refine AW.ret ?_
            rw [← hQr]
            simp only [go_sem, reduceIte, reduceCtorEq, zA, zM, zE, zL, zD, zS, zP, zB, zI, zR, lisR_len]
            exact Wk.of_eq (by rw [htT, vwc_tabR])
end Go.Proofs.X

namespace Go.Proofs.X
open Go.AM Go
set_option maxRecDepth 100000
set_option maxHeartbeats 4000000
theorem same_refl (n : Nat) (t : List (List Bool)) (hs : Sq n t) (hn : n ≤ 512) : Reads Tryd.prog 35 false [relB t, relB t] (.bool true) := by
  have hlt : (tabR t).length = n := by rw [tabR_len, hs.len]
  have hgr := fun i hi => tabR_get (t := t) (i := i) hi
  have hlen := hs.len
  unfold relB rowB at *
  refine Reads.body (rs := [.tmp 4]) Tryd.func35 rfl Tryd.ntmps35 rfl (by simp) ?_
  generalize hQr : retQ _ _ _ = Qr
  refine AW.seq fun K1 hK1 => ?_
  refine AW.regionK 0 (fun _ => none) [2, 3] [2, 3] ?_
  simp only [go_sem, reduceIte, reduceCtorEq, zA, zM, zE, zL, zD, zS, zP, zB, zI, zR, hlt, words_len]
  repeat with_reducible refine cj ?_ ?_
  all_goals try first | omega
  refine hK1 _ _ _ ?_; clear hK1
  refine AW.seq fun K2 hK2 => ?_
  refine AW.seq fun K3 hK3 => ?_
  refine AW.regionK 0 (fun _ => none) [2, 3, 15] [2, 3] ?_
  simp only [go_sem, reduceIte, reduceCtorEq, zA, zM, zE, zL, zD, zS, zP, zB, zI, zR, hlt, words_len]
  repeat with_reducible refine cj ?_ ?_
  all_goals try first | omega
  refine hK3 _ _ _ ?_; clear hK3
  refine AW.cond rfl (by simp only [go_sem, reduceIte, reduceCtorEq, zA, zM, zE, zL, zD, zS, zP, zB, zI, zR]) ?_ ?_
  · intro hb
    try simp only [hB, decide_eq_true_eq, decide_eq_false_iff_not] at hb
    exfalso; revert hb; simp
  · intro hb
    try simp only [hB, decide_eq_true_eq, decide_eq_false_iff_not] at hb
    refine AW.skip ?_
    refine hK2 _ _ _ ?_; clear hK2
    refine AW.seq fun K4 hK4 => ?_
    refine AW.seq fun K5 hK5 => ?_
    refine AW.regionK 0 (fun _ => none) [2, 3, 5] [2, 3] ?_
    simp only [go_sem, reduceIte, reduceCtorEq, zA, zM, zE, zL, zD, zS, zP, zB, zI, zR, hlt, words_len]
    repeat with_reducible refine cj ?_ ?_
    all_goals try first | omega
    refine hK5 _ _ _ ?_; clear hK5
    refine AW.block ?_
    refine AW.loopE (fun mm ee ss kk => ∃ (i g2 v2 g3 v3 : Nat), n - i = mm ∧ ee = [(2, .ptr ⟨2, g2, none⟩ 0 0), (3, .ptr ⟨3, g3, none⟩ 0 0), (5, .int .i64 (i : Nat))] ∧ ss = [(2, some ⟨g2, v2, 1, [[.rsl 2 (tabR t)]]⟩), (3, some ⟨g3, v3, 1, [[.rsl 2 (tabR t)]]⟩)] ∧ (i ≤ n)) ?_ ?_
    · refine ⟨_, 0, ?_, ?_, ?_, ?_, rfl, ?henv, ?hstore, ?hst⟩
      case henv =>
        repeat' (first | rfl | refine env_cons ?_ ?_ | refine st_cons ?_ ?_ ?_ ?_ | refine int_eq ?_ | refine bool_eq ?_ | refine rsl_eq ?_ | refine osl_eq ?_ | refine sl_eq ?_ ?_ ?_ | refine ptr_eq ?_ ?_ ?_ | refine agg_eq ?_ | refine es_cons ?_ ?_ | refine row_cons ?_ ?_)
        all_goals (first | (simp; done) | omega | (simp; omega))
      case hstore =>
        repeat' (first | rfl | refine env_cons ?_ ?_ | refine st_cons ?_ ?_ ?_ ?_ | refine int_eq ?_ | refine bool_eq ?_ | refine rsl_eq ?_ | refine osl_eq ?_ | refine sl_eq ?_ ?_ ?_ | refine ptr_eq ?_ ?_ ?_ | refine agg_eq ?_ | refine es_cons ?_ ?_ | refine row_cons ?_ ?_)
        all_goals (first | (simp; done) | omega | (simp; omega))
      case hst =>
        first | trivial | omega | (simp; done) | (simp; omega)
    rintro mm ee ss kk ⟨i, g2, v2, g3, v3, rfl, rfl, rfl, hI⟩
    generalize hQl1 : thenQ _ _ = Ql1
    refine AW.seq fun K6 hK6 => ?_
    refine AW.seq fun K7 hK7 => ?_
    refine AW.regionK 0 (fun _ => none) [2, 3, 5, 20] [2, 3] ?_
    simp only [go_sem, reduceIte, reduceCtorEq, zA, zM, zE, zL, zD, zS, zP, zB, zI, zR, hlt, words_len]
    repeat with_reducible refine cj ?_ ?_
    all_goals try first | omega
    refine hK7 _ _ _ ?_; clear hK7
    refine AW.cond rfl (by simp only [go_sem, reduceIte, reduceCtorEq, zA, zM, zE, zL, zD, zS, zP, zB, zI, zR]) ?_ ?_
    · intro hb
      try simp only [hB, decide_eq_true_eq, decide_eq_false_iff_not] at hb
      have hin : i < n := by omega
      have hgi := hgr i (by omega)
      have hri := hs.rowLen hin
      have hwl := setW_len' (rowT t i)
      have hwn := wordsN_rng (n := (n : Int)) (by omega)
      rw [hri] at hwl hgi
      have hgw := fun q (hq : q < (setW (rowT t i) n).length) => words_getD (l := setW (rowT t i) n) (i := q) hq
      generalize hW : setW (rowT t i) n = W at *
      refine AW.skip ?_
      refine hK6 _ _ _ ?_; clear hK6
      refine AW.seq fun K8 hK8 => ?_
      refine AW.block ?_
      refine AW.seq fun K9 hK9 => ?_
      refine AW.regionD mixed 0 (fun _ => none) [2, 3, 5, 6, 7] [2, 3, 6, 7] ?_
      simp only [go_sem, reduceIte, reduceCtorEq, zA, zM, zE, zL, zD, zS, zP, zB, zI, zR, hlt, words_len, hgi]
      repeat with_reducible refine cj ?_ ?_
      all_goals try first | omega | exact chk (by kernel_rfl)
      refine hK9 _ _ _ ?_; clear hK9
      refine AW.seq fun K10 hK10 => ?_
      refine AW.seq fun K11 hK11 => ?_
      refine AW.regionK 0 (fun _ => none) [2, 3, 5, 6, 7, 46] [2, 3, 6, 7] ?_
      simp only [go_sem, reduceIte, reduceCtorEq, zA, zM, zE, zL, zD, zS, zP, zB, zI, zR, hlt, words_len]
      repeat with_reducible refine cj ?_ ?_
      all_goals try first | omega | (intros; (repeat' apply And.intro) <;> first | assumption | omega | decide) | (intro hgd; exact absurd hgd (by decide)) | rfl | (simp only [go_sem, reduceIte, reduceCtorEq, zA, zM, zE, zL, zD, zS, zP, zB, zI, zR, hlt, words_len]; done) | (intro _hgd; simp_all [go_sem]; done)
      refine hK11 _ _ _ ?_; clear hK11
      refine AW.cond rfl (by simp only [go_sem, reduceIte, reduceCtorEq, zA, zM, zE, zL, zD, zS, zP, zB, zI, zR]) ?_ ?_
      · intro hb
        try simp only [hB, decide_eq_true_eq, decide_eq_false_iff_not] at hb
        exfalso; revert hb; simp
      · intro hb
        try simp only [hB, decide_eq_true_eq, decide_eq_false_iff_not] at hb
        refine AW.skip ?_
        refine hK10 _ _ _ ?_; clear hK10
        refine AW.seq fun K12 hK12 => ?_
        refine AW.regionK 0 (fun _ => none) [2, 3, 5, 6, 7, 8] [2, 3, 6, 7] ?_
        simp only [go_sem, reduceIte, reduceCtorEq, zA, zM, zE, zL, zD, zS, zP, zB, zI, zR, hlt, words_len]
        repeat with_reducible refine cj ?_ ?_
        all_goals try first | omega
        refine hK12 _ _ _ ?_; clear hK12
        refine AW.block ?_
        refine AW.loopE (fun mm ee ss kk => ∃ (q g2 v2 g3 v3 g6 v6 g7 v7 : Nat), W.length - q = mm ∧ ee = [(2, .ptr ⟨2, g2, none⟩ 0 0), (3, .ptr ⟨3, g3, none⟩ 0 0), (5, .int .i64 (i : Nat)), (6, .ptr ⟨6, g6, none⟩ 0 0), (7, .ptr ⟨7, g7, none⟩ 0 0), (8, .int .i64 (q : Nat))] ∧ ss = [(2, some ⟨g2, v2, 1, [[.rsl 2 (tabR t)]]⟩), (3, some ⟨g3, v3, 1, [[.rsl 2 (tabR t)]]⟩), (6, some ⟨g6, v6, 2, [[.int .i64 n, .rsl 1 (words W)]]⟩), (7, some ⟨g7, v7, 2, [[.int .i64 n, .rsl 1 (words W)]]⟩)] ∧ (q ≤ W.length)) ?_ ?_
        · refine ⟨_, 0, ?_, ?_, ?_, ?_, ?_, ?_, ?_, ?_, rfl, ?henv, ?hstore, ?hst⟩
          case henv =>
            repeat' (first | rfl | refine env_cons ?_ ?_ | refine st_cons ?_ ?_ ?_ ?_ | refine int_eq ?_ | refine bool_eq ?_ | refine rsl_eq ?_ | refine osl_eq ?_ | refine sl_eq ?_ ?_ ?_ | refine ptr_eq ?_ ?_ ?_ | refine agg_eq ?_ | refine es_cons ?_ ?_ | refine row_cons ?_ ?_)
            all_goals (first | (simp; done) | omega | (simp; omega))
          case hstore =>
            repeat' (first | rfl | refine env_cons ?_ ?_ | refine st_cons ?_ ?_ ?_ ?_ | refine int_eq ?_ | refine bool_eq ?_ | refine rsl_eq ?_ | refine osl_eq ?_ | refine sl_eq ?_ ?_ ?_ | refine ptr_eq ?_ ?_ ?_ | refine agg_eq ?_ | refine es_cons ?_ ?_ | refine row_cons ?_ ?_)
            all_goals (first | (simp; done) | omega | (simp; omega))
          case hst =>
            first | trivial | omega | (simp; done) | (simp; omega)
        rintro mm ee ss kk ⟨q, g2, v2, g3, v3, g6, v6, g7, v7, rfl, rfl, rfl, hI⟩
        generalize hQl2 : thenQ _ _ = Ql2
        refine AW.seq fun K13 hK13 => ?_
        refine AW.seq fun K14 hK14 => ?_
        refine AW.regionK 0 (fun _ => none) [2, 3, 5, 6, 7, 8, 51] [2, 3, 6, 7] ?_
        simp only [go_sem, reduceIte, reduceCtorEq, zA, zM, zE, zL, zD, zS, zP, zB, zI, zR, hlt, words_len]
        repeat with_reducible refine cj ?_ ?_
        all_goals try first | omega
        refine hK14 _ _ _ ?_; clear hK14
        refine AW.cond rfl (by simp only [go_sem, reduceIte, reduceCtorEq, zA, zM, zE, zL, zD, zS, zP, zB, zI, zR]) ?_ ?_
        · intro hb
          try simp only [hB, decide_eq_true_eq, decide_eq_false_iff_not] at hb
          have hgq := hgw q (by omega)
          refine AW.skip ?_
          refine hK13 _ _ _ ?_; clear hK13
          refine AW.seq fun K15 hK15 => ?_
          refine AW.block ?_
          refine AW.seq fun K16 hK16 => ?_
          refine AW.regionD mixed 0 (fun _ => none) [2, 3, 5, 6, 7, 8, 64] [2, 3, 6, 7] ?_
          simp only [go_sem, reduceIte, reduceCtorEq, zA, zM, zE, zL, zD, zS, zP, zB, zI, zR, hlt, words_len, hgq]
          repeat with_reducible refine cj ?_ ?_
          all_goals try first | omega | exact chk (by kernel_rfl)
          refine hK16 _ _ _ ?_; clear hK16
          refine AW.cond rfl (by simp only [go_sem, reduceIte, reduceCtorEq, zA, zM, zE, zL, zD, zS, zP, zB, zI, zR]) ?_ ?_
          · intro hb
            try simp only [hB, decide_eq_true_eq, decide_eq_false_iff_not] at hb
            exfalso; revert hb; simp
          · intro hb
            try simp only [hB, decide_eq_true_eq, decide_eq_false_iff_not] at hb
            refine AW.skip ?_
            refine hK15 _ _ _ ?_; clear hK15
            refine AW.regionK 0 (fun _ => none) [2, 3, 5, 6, 7, 8] [2, 3, 6, 7] ?_
            simp only [go_sem, reduceIte, reduceCtorEq, zA, zM, zE, zL, zD, zS, zP, zB, zI, zR, hlt, words_len]
            repeat with_reducible refine cj ?_ ?_
            all_goals try first | omega
            rw [← hQl2]
            change Exists _
            refine ⟨_, ?hm, q + 1, ?_, ?_, ?_, ?_, ?_, ?_, ?_, ?_, rfl, ?henv, ?hstore, ?hst⟩
            case henv =>
              repeat' (first | rfl | refine env_cons ?_ ?_ | refine st_cons ?_ ?_ ?_ ?_ | refine int_eq ?_ | refine bool_eq ?_ | refine rsl_eq ?_ | refine osl_eq ?_ | refine sl_eq ?_ ?_ ?_ | refine ptr_eq ?_ ?_ ?_ | refine agg_eq ?_ | refine es_cons ?_ ?_ | refine row_cons ?_ ?_)
              all_goals (first | (simp; done) | omega | (simp; omega))
            case hstore =>
              repeat' (first | rfl | refine env_cons ?_ ?_ | refine st_cons ?_ ?_ ?_ ?_ | refine int_eq ?_ | refine bool_eq ?_ | refine rsl_eq ?_ | refine osl_eq ?_ | refine sl_eq ?_ ?_ ?_ | refine ptr_eq ?_ ?_ ?_ | refine agg_eq ?_ | refine es_cons ?_ ?_ | refine row_cons ?_ ?_)
              all_goals (first | (simp; done) | omega | (simp; omega))
            case hst =>
              omega
            case hm => omega
        · intro hb
          try simp only [hB, decide_eq_true_eq, decide_eq_false_iff_not] at hb
          refine AW.keep [2, 3, 5] [2, 3] ?_
          try simp only [go_sem, reduceIte, reduceCtorEq, zA, zM, zE, zL, zD, zS, zP, zB, zI, zR]
          refine AW.exit ?_
          rw [← hQl2]
          refine hK8 _ _ _ ?_; clear hK8
          refine AW.regionK 0 (fun _ => none) [2, 3, 5] [2, 3] ?_
          simp only [go_sem, reduceIte, reduceCtorEq, zA, zM, zE, zL, zD, zS, zP, zB, zI, zR, hlt, words_len]
          repeat with_reducible refine cj ?_ ?_
          all_goals try first | omega
          rw [← hQl1]
          change Exists _
          refine ⟨_, ?hm, i + 1, ?_, ?_, ?_, ?_, rfl, ?henv, ?hstore, ?hst⟩
          case henv =>
            repeat' (first | rfl | refine env_cons ?_ ?_ | refine st_cons ?_ ?_ ?_ ?_ | refine int_eq ?_ | refine bool_eq ?_ | refine rsl_eq ?_ | refine osl_eq ?_ | refine sl_eq ?_ ?_ ?_ | refine ptr_eq ?_ ?_ ?_ | refine agg_eq ?_ | refine es_cons ?_ ?_ | refine row_cons ?_ ?_)
            all_goals (first | (simp; done) | omega | (simp; omega))
          case hstore =>
            repeat' (first | rfl | refine env_cons ?_ ?_ | refine st_cons ?_ ?_ ?_ ?_ | refine int_eq ?_ | refine bool_eq ?_ | refine rsl_eq ?_ | refine osl_eq ?_ | refine sl_eq ?_ ?_ ?_ | refine ptr_eq ?_ ?_ ?_ | refine agg_eq ?_ | refine es_cons ?_ ?_ | refine row_cons ?_ ?_)
            all_goals (first | (simp; done) | omega | (simp; omega))
          case hst =>
            omega
          case hm => omega
    · intro hb
      try simp only [hB, decide_eq_true_eq, decide_eq_false_iff_not] at hb
      refine AW.keep [] [] ?_
      try simp only [go_sem, reduceIte, reduceCtorEq, zA, zM, zE, zL, zD, zS, zP, zB, zI, zR]
      refine AW.exit ?_
      rw [← hQl1]
      refine hK4 _ _ _ ?_; clear hK4
      refine AW.seq fun K17 hK17 => ?_
      refine AW.regionK 0 (fun _ => none) [4] [] ?_
      simp only [go_sem, reduceIte, reduceCtorEq, zA, zM, zE, zL, zD, zS, zP, zB, zI, zR, hlt, words_len]
      repeat with_reducible refine cj ?_ ?_
      all_goals try first | omega
      refine hK17 _ _ _ ?_; clear hK17
      refine AW.ret ?_
      rw [← hQr]
      simp only [go_sem, reduceIte, reduceCtorEq, zA, zM, zE, zL, zD, zS, zP, zB, zI, zR, hlt, words_len]
      exact Wk.refl _
end Go.Proofs.X

namespace Go.Proofs.X
open Go.AM Go
set_option maxRecDepth 100000
set_option maxHeartbeats 4000000
end Go.Proofs.X

/- The meet of all extensions is the order. -/
namespace Go.AM
theorem rank_lt_of {n : Nat} {bel : List (List Int)} {l r : List Int} (hl : IsExt n bel l) (hr : IsExt n bel r) {q : Nat} (hq : q < n) (ht : l.take q = r.take q) (hlt : l.getD q 0 < r.getD q 0) : rankC bel n l n < rankC bel n r n := by
  have h1 := hl.rank_lt (m := q + 1) (by omega)
  have h2 := rankC_mono bel n r (q + 1) n (by omega)
  have hx := hl.rng q hq
  have hy := hr.rng q hq
  have hf := hl.free q hq
  have hd : dAt n l q = dAt n r q := by unfold dAt; rw [ht]
  have hrk : rankC bel n l q = rankC bel n r q := by rw [← rankC_take (m := q) q (Nat.le_refl _), ht, rankC_take q (Nat.le_refl _)]
  rw [dAt_succ (by rw [hl.len]; omega)] at h1
  have h3 : rankC bel n l (q + 1) = rankC bel n l q + sumF (freeL bel (dAt n l q)) (fun x => cE bel n (n - (q + 1)) ((dAt n l q).set x true)) (l.getD q 0).toNat := rfl
  have h4 : rankC bel n r (q + 1) = rankC bel n r q + sumF (freeL bel (dAt n r q)) (fun x => cE bel n (n - (q + 1)) ((dAt n r q).set x true)) (r.getD q 0).toNat := rfl
  rw [← hd, ← hrk] at h4
  have h5 := sumF_succ (p := freeL bel (dAt n l q)) (fun x => cE bel n (n - (q + 1)) ((dAt n l q).set x true)) hf
  have h6 := sumF_mono (freeL bel (dAt n l q)) (fun x => cE bel n (n - (q + 1)) ((dAt n l q).set x true)) ((l.getD q 0).toNat + 1) (r.getD q 0).toNat (by omega)
  omega
theorem first_diff (l r : List Int) (n : Nat) (hl : l.length = n) (hr : r.length = n) : ∀ m, m ≤ n → l.take m = r.take m ∨ ∃ q, q < m ∧ l.take q = r.take q ∧ l.getD q 0 ≠ r.getD q 0
  | 0, _ => .inl (by simp)
  | m + 1, hm => by
    rcases first_diff l r n hl hr m (by omega) with h | ⟨q, h1, h2⟩
    · by_cases e : l.getD m 0 = r.getD m 0
      · left
        rw [List.take_add_one, List.take_add_one, h, List.getElem?_eq_getElem (by omega), List.getElem?_eq_getElem (by omega)]
        rw [List.getD_eq_getElem?_getD, List.getD_eq_getElem?_getD, List.getElem?_eq_getElem (by omega), List.getElem?_eq_getElem (by omega)] at e
        simp only [Option.getD_some] at e
        rw [e]
      · exact .inr ⟨m, by omega, h, e⟩
    · exact .inr ⟨q, by omega, h2⟩
theorem rank_inj {n : Nat} {bel : List (List Int)} {l r : List Int} (hl : IsExt n bel l) (hr : IsExt n bel r) (h : rankC bel n l n = rankC bel n r n) : l = r := by
  rcases first_diff l r n hl.len hr.len n (Nat.le_refl _) with h1 | ⟨q, h1, h2, h3⟩
  · rwa [List.take_of_length_le (by rw [hl.len]; exact Nat.le_refl _), List.take_of_length_le (by rw [hr.len]; exact Nat.le_refl _)] at h1
  · exfalso
    rcases Int.lt_or_gt_of_ne h3 with h4 | h4
    · have := rank_lt_of hl hr h1 h2 h4; omega
    · have := rank_lt_of hr hl h1 h2.symm h4; omega
theorem sumF_cnt {p : Nat → Bool} {f : Nat → Nat} {B : Nat} : ∀ m, (∀ x, x < m → p x = true → f x ≤ B) → sumF p f m ≤ ((List.range m).filter p).length * B
  | 0, _ => by simp [sumF_zero]
  | m + 1, h => by
    have ih := sumF_cnt (p := p) (f := f) (B := B) m fun x hx => h x (by omega)
    rw [List.range_succ, List.filter_append, List.length_append, Nat.add_mul]
    cases hp : p m with
    | true => rw [sumF_succ f hp]; have := h m (by omega) hp; simp [hp]; omega
    | false => rw [sumF_miss f hp]; simp [hp]; exact ih
theorem undone_cnt : ∀ S : List Bool, ((List.range S.length).filter fun i => !S.getD i false).length + cntT S = S.length
  | [] => by simp [cntT]
  | b :: S => by
    have ih := undone_cnt S
    have hr : List.range (b :: S).length = 0 :: (List.range S.length).map Nat.succ := by rw [List.length_cons, List.range_succ_eq_map]
    have e : ((fun i => !(b :: S).getD i false) ∘ Nat.succ) = fun i => !S.getD i false := by funext i; simp
    rw [hr, List.filter_cons, List.filter_map, e]
    have hc : cntT (b :: S) = cntT S + (if b then 1 else 0) := by unfold cntT; rw [List.countP_cons]; rfl
    have h0 : (b :: S).getD 0 false = b := rfl
    rw [hc, h0, show (b :: S).length = S.length + 1 from List.length_cons]
    cases b
    · rw [if_pos (show (!false) = true from rfl), List.length_cons, List.length_map]; simp only [Bool.false_eq_true, if_false]; omega
    · rw [if_neg (by decide), List.length_map]; simp only [if_true]; omega
theorem free_cnt {bel : List (List Int)} {S : List Bool} : ((List.range S.length).filter (freeL bel S)).length + cntT S ≤ S.length := by
  have h1 : ((List.range S.length).filter (freeL bel S)).length ≤ ((List.range S.length).filter fun i => !S.getD i false).length := by
    rw [← List.countP_eq_length_filter, ← List.countP_eq_length_filter]
    refine List.countP_mono_left fun x _ h => ?_
    rw [freeL_not h]; rfl
  have := undone_cnt S
  omega
def factN : Nat → Nat
  | 0 => 1
  | n + 1 => (n + 1) * factN n
theorem cE_fact {bel : List (List Int)} {n : Nat} : ∀ (q : Nat) (S : List Bool), S.length = n → cntT S + q = n → cE bel n q S ≤ factN q
  | 0, _, _, _ => Nat.le_refl _
  | q + 1, S, hS, hc => by
    have h1 := sumF_cnt (p := freeL bel S) (f := fun x => cE bel n q (S.set x true)) (B := factN q) n fun x hx hf => cE_fact q (S.set x true) (by rw [List.length_set]; exact hS) (by rw [cntT_set (by omega) (freeL_not hf)]; omega)
    have h2 := free_cnt (bel := bel) (S := S)
    rw [hS] at h2
    show sumF _ _ n ≤ (q + 1) * factN q
    exact Nat.le_trans h1 (Nat.mul_le_mul_right _ (by omega))
/-- Of an extension: what is less stands before. -/
theorem ext_bf {n : Nat} {t : List (List Bool)} (hp : IsPo n t) {l : List Int} (hx : extB n (belL n t) l = true) {i j : Nat} (hi : i < n) (hj : j < n) (ha : atT t i j = true) : bfA n i j l = true := by
  obtain ⟨h1, h2⟩ := (ext_iff hp).1 hx
  have hE := eachB_iff.1 h1
  obtain ⟨_, ki, b1, c1, d1⟩ := atv_ref hE hi
  obtain ⟨_, kj, b2, c2, d2⟩ := atv_ref hE hj
  unfold bfA
  rw [d1, d2, decide_eq_true_eq]
  rcases Nat.lt_trichotomy ki kj with e | e | e
  · omega
  · exfalso
    subst e
    have : i = j := by omega
    subst this
    rw [hp.irr i hi] at ha; cases ha
  · exfalso
    have h3 := h2 ki b1 kj e
    unfold noLess at h3
    rw [c1, c2, Int.toNat_natCast, Int.toNat_natCast, ha] at h3
    cases h3
structure SzI (n : Nat) (bel : List (List Int)) (C : Nat) (A : List (List Int)) (L : List Int) : Prop where
  pos : 1 ≤ A.length
  le : A.length ≤ C
  ok : ∀ j, j < A.length → IsExt n bel (A.getD j []) ∧ rankC bel n (A.getD j []) n = j
  last : A.getD (A.length - 1) [] = L
theorem SzI.snoc {n : Nat} {bel : List (List Int)} {C : Nat} {A : List (List Int)} {L r : List Int} (h : SzI n bel C A L) (hC : A.length < C) (hr : IsExt n bel r) (hk : rankC bel n r n = A.length) : SzI n bel C (A ++ [r]) r := by
  refine ⟨by simp, by simp; omega, fun j hj => ?_, by simp [List.getD_eq_getElem?_getD]⟩
  simp only [List.length_append, List.length_cons, List.length_nil] at hj
  by_cases e : j < A.length
  · rw [List.getD_eq_getElem?_getD, List.getElem?_append_left e, ← List.getD_eq_getElem?_getD]; exact h.ok j e
  · have e2 : j = A.length := by omega
    subst e2
    rw [List.getD_eq_getElem?_getD, List.getElem?_append_right (Nat.le_refl _)]
    simp
    exact ⟨hr, hk⟩
theorem SzI.mem {n : Nat} {bel : List (List Int)} {A : List (List Int)} {L : List Int} {C : Nat} (h : SzI n bel C A L) {l : List Int} (hl : l ∈ A) : IsExt n bel l := by
  obtain ⟨j, hj, rfl⟩ := List.mem_iff_getElem.1 hl
  have := (h.ok j hj).1
  rwa [List.getD_eq_getElem?_getD, List.getElem?_eq_getElem hj] at this
theorem sz_meet {n : Nat} {t : List (List Bool)} (hs : Sq n t) (hp : IsPo n t) {A : List (List Int)} {L : List Int} (h : SzI n (belL n t) (cE (belL n t) n n (List.replicate n false)) A L) (hlen : A.length = cE (belL n t) n n (List.replicate n false)) : meetT n A = t := by
  have hE : ∀ l ∈ A, IsEach n l := fun l hl => (h.mem hl).each
  have hall : ∀ l, IsExt n (belL n t) l → l ∈ A := fun l hl => by
    have h1 := hl.rank_lt (Nat.zero_le n)
    have h5 : dAt n l 0 = List.replicate n false := rfl
    have h6 : rankC (belL n t) n l 0 = 0 := rfl
    rw [h5, h6, Nat.sub_zero, Nat.zero_add, ← hlen] at h1
    have h2 := h.ok _ h1
    have h3 := rank_inj hl h2.1 h2.2.symm
    rw [h3, List.getD_eq_getElem?_getD, List.getElem?_eq_getElem h1]
    exact List.getElem_mem h1
  unfold meetT
  refine tab_ext (tabF_sq n _) hs fun i j hi hj => ?_
  rw [atT_tabF hi hj, meet_eq hE hi hj]
  unfold meetR
  cases ha : atT t i j with
  | true =>
    have hij : i ≠ j := fun e => by subst e; rw [hp.irr i hi] at ha; cases ha
    have : A.all (bfA n i j) = true := List.all_eq_true.2 fun l hl => ext_bf hp (extB_iff.2 (h.mem hl)) hi hj ha
    rw [this]; simp [hij]
  | false =>
    by_cases hij : i = j
    · simp [hij]
    · have hbl : leT t i j = false := by unfold leT; rw [ha, decide_eq_false hij]; rfl
      have hext := least_ext (mT_po hp hj hi hbl)
      have hx := extB_iff.2 hext.1
      have h1 := mT_ext hp hj hi hbl hx
      have h2 := mT_before hp hj hi hbl hx
      have hm := hall _ (extB_iff.1 h1)
      generalize (finI (belL n (mT n t j i)) n (List.replicate n false, []) n).2 = l at *
      have hEl := hE l hm
      obtain ⟨_, ki, b1, c1, d1⟩ := atv_ref hEl hi
      obtain ⟨_, kj, b2, c2, d2⟩ := atv_ref hEl hj
      rw [ix_each hEl b1 _ c1, ix_each hEl b2 _ c2] at h2
      have : A.all (bfA n i j) = false := by
        rw [List.all_eq_false]
        refine ⟨l, hm, ?_⟩
        unfold bfA
        rw [d1, d2, decide_eq_true_eq]
        omega
      rw [this]; simp
end Go.AM

namespace Go.Proofs.X
open Go.AM Go
set_option maxRecDepth 100000
set_option maxHeartbeats 4000000
abbrev LLI := List (List Int)
theorem szp_b (rs : List USet) (hl : longR rs) (hv2 : Reads Tryd.prog 14 false [relV rs] (.bool false)) : Reads Tryd.prog 9 false [relV rs] (.bool true) := by
  have ha := awake_r
  have hl1 := hl.1
  unfold relV at *
  refine Reads.body (rs := [.tmp 2]) Tryd.func9 rfl Tryd.ntmps9 rfl (by simp) ?_
  generalize hQr : retQ _ _ _ = Qr
  refine AW.seq fun K1 hK1 => ?_
  refine AW.regionK 0 (fun _ => none) [1] [1] ?_
  simp only [go_sem, reduceIte, reduceCtorEq, zA, zM, zE, zL, zD, zS, zP, zB, zI, zR]
  repeat with_reducible refine cj ?_ ?_
  all_goals try first | omega
  refine hK1 _ _ _ ?_; clear hK1
  refine AW.seq fun K2 hK2 => ?_
  refine AW.seq fun K3 hK3 => ?_
  refine AW.regionK 0 (fun ii => if ii = 0 then some (.reads false (.bool true)) else none) [1, 10] [1] ?_
  simp only [go_sem, reduceIte, reduceCtorEq, zA, zM, zE, zL, zD, zS, zP, zB, zI, zR]
  repeat with_reducible refine cj ?_ ?_
  all_goals try first | (exact ha) | omega | exact ent (by kernel_rfl)
  refine hK3 _ _ _ ?_; clear hK3
  refine AW.cond rfl (by simp only [go_sem, reduceIte, reduceCtorEq, zA, zM, zE, zL, zD, zS, zP, zB, zI, zR]) ?_ ?_
  · intro hb
    try simp only [hB, decide_eq_true_eq, decide_eq_false_iff_not] at hb
    exfalso; simp at hb
  · intro hb
    try simp only [hB, decide_eq_true_eq, decide_eq_false_iff_not] at hb
    refine AW.skip ?_
    refine hK2 _ _ _ ?_; clear hK2
    refine AW.seq fun K4 hK4 => ?_
    refine AW.seq fun K5 hK5 => ?_
    refine AW.regionK 0 (fun ii => if ii = 6 then some (.reads false (.bool false)) else none) [1, 19] [1] ?_
    simp only [go_sem, reduceIte, reduceCtorEq, zA, zM, zE, zL, zD, zS, zP, zB, zI, zR]
    repeat with_reducible refine cj ?_ ?_
    all_goals try first | ((intros; (repeat' apply And.intro) <;> first | assumption | exact hv2)) | (intros; (repeat' apply And.intro) <;> first | assumption | ((intros; (repeat' apply And.intro) <;> first | assumption | exact hv2))) | omega | exact ent (by kernel_rfl) | (intro hgd; exact absurd hgd (by decide)) | rfl | (simp only [go_sem, reduceIte, reduceCtorEq, zA, zM, zE, zL, zD, zS, zP, zB, zI, zR]; done) | (intro _hgd; simp_all [go_sem]; done)
    refine hK5 _ _ _ ?_; clear hK5
    refine AW.cond rfl (by simp only [go_sem, reduceIte, reduceCtorEq, zA, zM, zE, zL, zD, zS, zP, zB, zI, zR]) ?_ ?_
    · intro hb
      try simp only [hB, decide_eq_true_eq, decide_eq_false_iff_not] at hb
      refine AW.seq fun K6 hK6 => ?_
      refine AW.regionK 0 (fun _ => none) [2] [] ?_
      simp only [go_sem, reduceIte, reduceCtorEq, zA, zM, zE, zL, zD, zS, zP, zB, zI, zR]
      repeat with_reducible refine cj ?_ ?_
      all_goals try first | omega
      refine hK6 _ _ _ ?_; clear hK6
      refine AW.ret ?_
      rw [← hQr]
      simp only [go_sem, reduceIte, reduceCtorEq, zA, zM, zE, zL, zD, zS, zP, zB, zI, zR]
      exact Wk.refl _
    · intro hb
      try simp only [hB, decide_eq_true_eq, decide_eq_false_iff_not] at hb
      exfalso; simp at hb
theorem szp_g (n : Nat) (t : List (List Bool)) (hs : Sq n t) (hn : n ≤ 512) (hp : poB n t = true) : Reads Tryd.prog 9 false [relB t] (.bool true) := by
  have ha := awake_r
  have hlt : (tabR t).length = n := by rw [tabR_len, hs.len]
  have hv2 := rpvalid_g n t hs hn
  rw [hp] at hv2
  have hpo := (poB_iff hs).1 hp
  have h2 := least_g n t hs hn hp
  have hle := least_ext hpo
  have hN := fun L hx => (next_f n t hs hn hp L hx).old
  have hnk := fun L (hE : IsExt n (belL n t) L) => nextK_spec hpo hE n (Nat.le_refl _) (fun r h1 h2 => by omega)
  have hrl := fun L (hE : IsExt n (belL n t) L) => hE.rank_lt (Nat.zero_le n)
  have hcp := cE_pos hpo n (List.replicate n false) (by simp) (by rw [cntT_rep]; omega)
  have hsm : n ≤ 6 → cE (belL n t) n n (List.replicate n false) ≤ 720 := fun h => by
    have := cE_fact (bel := belL n t) (n := n) n (List.replicate n false) (by simp) (by rw [cntT_rep]; omega)
    have h7 : ∀ n, n ≤ 6 → factN n ≤ 720 := by decide
    exact Nat.le_trans this (h7 n h)
  have hsz := fun A L (h : SzI n (belL n t) (cE (belL n t) n n (List.replicate n false)) A L) hl => sz_meet hs hpo h hl
  have hmt := fun A h1 h2 hle hx => meet_g n hn A h1 h2 hle hx
  have hS := same_refl n t hs hn
  unfold leastL at h2
  generalize (finI (belL n t) n (List.replicate n false, []) n).2 = L0 at *
  generalize belL n t = bel at *
  generalize hCE : cE bel n n (List.replicate n false) = C at *
  unfold relB at *
  refine Reads.body (rs := [.tmp 2]) Tryd.func9 rfl Tryd.ntmps9 rfl (by simp) ?_
  generalize hQr : retQ _ _ _ = Qr
  refine AW.seq fun K1 hK1 => ?_
  refine AW.regionK 0 (fun _ => none) [1] [1] ?_
  simp only [go_sem, reduceIte, reduceCtorEq, zA, zM, zE, zL, zD, zS, zP, zB, zI, zR, ints_len, hlt]
  repeat with_reducible refine cj ?_ ?_
  all_goals try first | omega
  refine hK1 _ _ _ ?_; clear hK1
  refine AW.seq fun K2 hK2 => ?_
  refine AW.seq fun K3 hK3 => ?_
  refine AW.regionK 0 (fun ii => if ii = 0 then some (.reads false (.bool true)) else none) [1, 10] [1] ?_
  simp only [go_sem, reduceIte, reduceCtorEq, zA, zM, zE, zL, zD, zS, zP, zB, zI, zR, ints_len, hlt]
  repeat with_reducible refine cj ?_ ?_
  all_goals try first | (exact ha) | omega | exact ent (by kernel_rfl)
  refine hK3 _ _ _ ?_; clear hK3
  refine AW.cond rfl (by simp only [go_sem, reduceIte, reduceCtorEq, zA, zM, zE, zL, zD, zS, zP, zB, zI, zR]) ?_ ?_
  · intro hb
    try simp only [hB, decide_eq_true_eq, decide_eq_false_iff_not] at hb
    exfalso; simp at hb
  · intro hb
    try simp only [hB, decide_eq_true_eq, decide_eq_false_iff_not] at hb
    refine AW.skip ?_
    refine hK2 _ _ _ ?_; clear hK2
    refine AW.seq fun K4 hK4 => ?_
    refine AW.seq fun K5 hK5 => ?_
    refine AW.regionK 0 (fun ii => if ii = 6 then some (.reads false (.bool true)) else none) [1, 19] [1] ?_
    simp only [go_sem, reduceIte, reduceCtorEq, zA, zM, zE, zL, zD, zS, zP, zB, zI, zR, ints_len, hlt]
    repeat with_reducible refine cj ?_ ?_
    all_goals try first | ((intros; (repeat' apply And.intro) <;> first | assumption | exact hv2)) | (intros; (repeat' apply And.intro) <;> first | assumption | ((intros; (repeat' apply And.intro) <;> first | assumption | exact hv2))) | omega | exact ent (by kernel_rfl) | (intro hgd; exact absurd hgd (by decide)) | rfl | (simp only [go_sem, reduceIte, reduceCtorEq, zA, zM, zE, zL, zD, zS, zP, zB, zI, zR, ints_len, hlt]; done) | (intro _hgd; simp_all [go_sem]; done)
    refine hK5 _ _ _ ?_; clear hK5
    refine AW.cond rfl (by simp only [go_sem, reduceIte, reduceCtorEq, zA, zM, zE, zL, zD, zS, zP, zB, zI, zR]) ?_ ?_
    · intro hb
      try simp only [hB, decide_eq_true_eq, decide_eq_false_iff_not] at hb
      refine AW.seq fun K6 hK6 => ?_
      refine AW.regionK 0 (fun _ => none) [2] [1] ?_
      simp only [go_sem, reduceIte, reduceCtorEq, zA, zM, zE, zL, zD, zS, zP, zB, zI, zR, ints_len, hlt]
      repeat with_reducible refine cj ?_ ?_
      all_goals try first | omega
      refine hK6 _ _ _ ?_; clear hK6
      refine AW.ret ?_
      rw [← hQr]
      simp only [go_sem, reduceIte, reduceCtorEq, zA, zM, zE, zL, zD, zS, zP, zB, zI, zR, ints_len, hlt]
      exact Wk.refl _
    · intro hb
      try simp only [hB, decide_eq_true_eq, decide_eq_false_iff_not] at hb
      have h6 : n ≤ 6 := by
        apply Classical.byContradiction
        intro hne
        revert hb; simp; omega
      have hC := hsm h6
      refine AW.skip ?_
      refine hK4 _ _ _ ?_; clear hK4
      refine AW.seq fun K7 hK7 => ?_
      refine AW.regionK 0 (fun ii => if ii = 1 then some (.reads false (.tup [.rsl 1 (ints L0), .int .i64 0])) else none) [1, 3, 4] [1] ?_
      simp only [go_sem, reduceIte, reduceCtorEq, zA, zM, zE, zL, zD, zS, zP, zB, zI, zR, ints_len, hlt]
      repeat with_reducible refine cj ?_ ?_
      all_goals try first | (exact h2) | omega | exact ent (by kernel_rfl)
      refine hK7 _ _ _ ?_; clear hK7
      refine AW.seq fun K8 hK8 => ?_
      refine AW.seq fun K9 hK9 => ?_
      refine AW.regionK 0 (fun _ => none) [1, 3, 26] [1] ?_
      simp only [go_sem, reduceIte, reduceCtorEq, zA, zM, zE, zL, zD, zS, zP, zB, zI, zR, ints_len, hlt]
      repeat with_reducible refine cj ?_ ?_
      all_goals try first | omega
      refine hK9 _ _ _ ?_; clear hK9
      refine AW.cond rfl (by simp only [go_sem, reduceIte, reduceCtorEq, zA, zM, zE, zL, zD, zS, zP, zB, zI, zR]) ?_ ?_
      · intro hb
        try simp only [hB, decide_eq_true_eq, decide_eq_false_iff_not] at hb
        exfalso; simp at hb
      · intro hb
        try simp only [hB, decide_eq_true_eq, decide_eq_false_iff_not] at hb
        refine AW.skip ?_
        refine hK8 _ _ _ ?_; clear hK8
        refine AW.seq fun K10 hK10 => ?_
        refine AW.regionK 0 (fun _ => none) [1, 3, 5] [1, 28] ?_
        simp only [go_sem, reduceIte, reduceCtorEq, zA, zM, zE, zL, zD, zS, zP, zB, zI, zR, ints_len, hlt]
        repeat with_reducible refine cj ?_ ?_
        all_goals try first | omega
        refine hK10 _ _ _ ?_; clear hK10
        refine AW.seq fun K11 hK11 => ?_
        refine AW.block ?_
        refine AW.loopE (fun mm ee ss kk => ∃ (A : LLI) (L : List Int) (g v g5 v5 : Nat), C - A.length = mm ∧ ee = [(1, .ptr ⟨1, g, none⟩ 0 0), (3, .rsl 1 (ints L)), (5, .sl ⟨28, g5, none⟩ 0 A.length none)] ∧ ss = [(1, some ⟨g, v, 1, [[.rsl 2 (tabR t)]]⟩), (28, some ⟨g5, v5, 1, lisR A⟩)] ∧ (SzI n bel C A L)) ?_ ?_
        · refine ⟨_, [L0], L0, ?_, ?_, ?_, ?_, rfl, ?henv, ?hstore, ?hst⟩
          case henv =>
            repeat' (first | rfl | refine env_cons ?_ ?_ | refine st_cons ?_ ?_ ?_ ?_ | refine int_eq ?_ | refine bool_eq ?_ | refine rsl_eq ?_ | refine osl_eq ?_ | refine sl_eq ?_ ?_ ?_ | refine ptr_eq ?_ ?_ ?_ | refine agg_eq ?_ | refine es_cons ?_ ?_ | refine row_cons ?_ ?_)
            all_goals (first | (simp; done) | omega | (simp; omega))
          case hstore =>
            repeat' (first | rfl | refine env_cons ?_ ?_ | refine st_cons ?_ ?_ ?_ ?_ | refine int_eq ?_ | refine bool_eq ?_ | refine rsl_eq ?_ | refine osl_eq ?_ | refine sl_eq ?_ ?_ ?_ | refine ptr_eq ?_ ?_ ?_ | refine agg_eq ?_ | refine es_cons ?_ ?_ | refine row_cons ?_ ?_)
            all_goals (first | (simp; done) | omega | (simp; omega))
          case hst =>
            exact ⟨by simp, by simp; omega, fun j hj => (by have h0 : j = 0 := (by simp at hj; omega); subst h0; exact hle), rfl⟩
        rintro mm ee ss kk ⟨A, L, g, v, g5, v5, rfl, rfl, rfl, hI⟩
        generalize hQl1 : thenQ _ _ = Ql1
        have hLE : IsExt n bel L := by have := (hI.ok (A.length - 1) (by have := hI.pos; omega)).1; rwa [hI.last] at this
        have hLr : rankC bel n L n = A.length - 1 := by have := (hI.ok (A.length - 1) (by have := hI.pos; omega)).2; rwa [hI.last] at this
        have hp1 := hI.pos
        have hp2 := hI.le
        have hEb := extB_iff.2 hLE
        have hx := hN L hEb
        have hq := hnk L hLE
        rw [nextV_eq] at hx
        have htk : (lisR A).take A.length = lisR A := List.take_of_length_le (by rw [lisR_len]; exact Nat.le_refl _)
        have hal := fun r => (show lisR A ++ [[.rsl 1 (ints r)]] = lisR (A ++ [r]) by simp [lisR])
        have hal2 : (lisR A).length = A.length := lisR_len A
        generalize hK : nextK bel n L n = K at *
        refine AW.block ?_
        refine AW.seq fun K12 hK12 => ?_
        refine AW.regionK 0 (fun ii => if ii = 2 then some (.reads false (.tup [.rsl 1 (ints (K.getD [])), .int .i64 (if K.isSome then 0 else 7)])) else none) [1, 5, 6, 7] [1, 28] ?_
        simp only [go_sem, reduceIte, reduceCtorEq, zA, zM, zE, zL, zD, zS, zP, zB, zI, zR, ints_len, hlt]
        repeat with_reducible refine cj ?_ ?_
        all_goals try first | (exact hx) | omega | exact ent (by kernel_rfl)
        refine hK12 _ _ _ ?_; clear hK12
        refine AW.seq fun K13 hK13 => ?_
        refine AW.seq fun K14 hK14 => ?_
        refine AW.regionK 0 (fun _ => none) [1, 5, 6, 7, 36] [1, 28] ?_
        simp only [go_sem, reduceIte, reduceCtorEq, zA, zM, zE, zL, zD, zS, zP, zB, zI, zR, ints_len, hlt]
        repeat with_reducible refine cj ?_ ?_
        all_goals try first | omega
        refine hK14 _ _ _ ?_; clear hK14
        refine AW.cond rfl (by simp only [go_sem, reduceIte, reduceCtorEq, zA, zM, zE, zL, zD, zS, zP, zB, zI, zR]) ?_ ?_
        · intro hb
          try simp only [hB, decide_eq_true_eq, decide_eq_false_iff_not] at hb
          have hKn : K = none := by
            cases K with
            | none => rfl
            | some r => simp at hb
          have hfin : A.length = C := by have := hq.1 hKn; omega
          refine AW.keep [1, 5] [1, 28] ?_
          try simp only [go_sem, reduceIte, reduceCtorEq, zA, zM, zE, zL, zD, zS, zP, zB, zI, zR]
          refine AW.exit ?_
          rw [← hQl1]
          refine hK11 _ _ _ ?_; clear hK11
          refine AW.seq fun K15 hK15 => ?_
          refine AW.seq fun K16 hK16 => ?_
          have hmm := hsz A L hI hfin
          have hE1 : A.all (eachB n) = true := List.all_eq_true.2 fun l hl => eachB_iff.2 (hI.mem hl).each
          have hE2 : ∀ x ∈ A, x.length ≤ 9223372036854775807 := fun x hxm => by rw [(hI.mem hxm).len]; omega
          refine AW.freezeK [28] [5] [1] [1] ?_
          simp only [go_sem, reduceIte, zE, htk, vwc_lisR]
          refine AW.regionK 0 (fun _ => none) [1, 5, 51] [1, 28] ?_
          simp only [go_sem, reduceIte, reduceCtorEq, zA, zM, zE, zL, zD, zS, zP, zB, zI, zR, ints_len, hlt, hal2]
          repeat with_reducible refine cj ?_ ?_
          all_goals try first | omega
          refine hK16 _ _ _ ?_; clear hK16
          refine AW.cond rfl (by simp only [go_sem, reduceIte, reduceCtorEq, zA, zM, zE, zL, zD, zS, zP, zB, zI, zR]) ?_ ?_
          · intro hb
            try simp only [hB, decide_eq_true_eq, decide_eq_false_iff_not] at hb
            refine AW.seq fun K17 hK17 => ?_
            refine AW.regionK 0 (fun _ => none) [2] [1] ?_
            simp only [go_sem, reduceIte, reduceCtorEq, zA, zM, zE, zL, zD, zS, zP, zB, zI, zR, ints_len, hlt]
            repeat with_reducible refine cj ?_ ?_
            all_goals try first | omega
            refine hK17 _ _ _ ?_; clear hK17
            refine AW.ret ?_
            rw [← hQr]
            simp only [go_sem, reduceIte, reduceCtorEq, zA, zM, zE, zL, zD, zS, zP, zB, zI, zR, ints_len, hlt]
            exact Wk.refl _
          · intro hb
            try simp only [hB, decide_eq_true_eq, decide_eq_false_iff_not] at hb
            have hM := hmt A (by omega) (by omega) hE2 hE1
            rw [hmm] at hM
            refine AW.skip ?_
            refine hK15 _ _ _ ?_; clear hK15
            refine AW.seq fun K18 hK18 => ?_
            refine AW.regionK 0 (fun ii => if ii = 4 then some (.reads false (.tup [.agg [.rsl 2 (tabR t)], .int .i64 0])) else none) [1, 4, 8] [1, 8] ?_
            simp only [go_sem, reduceIte, reduceCtorEq, zA, zM, zE, zL, zD, zS, zP, zB, zI, zR, ints_len, hlt]
            repeat with_reducible refine cj ?_ ?_
            all_goals try first | (exact hM) | omega | exact ent (by kernel_rfl)
            refine hK18 _ _ _ ?_; clear hK18
            refine AW.seq fun K19 hK19 => ?_
            refine AW.regionK 0 (fun ii => if ii = 5 then some (.reads false (.bool true)) else none) [2] [1] ?_
            simp only [go_sem, reduceIte, reduceCtorEq, zA, zM, zE, zL, zD, zS, zP, zB, zI, zR, ints_len, hlt]
            repeat with_reducible refine cj ?_ ?_
            all_goals try first | ((intros; (repeat' apply And.intro) <;> first | assumption | exact hS)) | (intros; (repeat' apply And.intro) <;> first | assumption | ((intros; (repeat' apply And.intro) <;> first | assumption | exact hS))) | omega | exact ent (by kernel_rfl) | (intro hgd; exact absurd hgd (by decide)) | rfl | (simp only [go_sem, reduceIte, reduceCtorEq, zA, zM, zE, zL, zD, zS, zP, zB, zI, zR, ints_len, hlt]; done) | (intro _hgd; simp_all [go_sem]; done)
            refine hK19 _ _ _ ?_; clear hK19
            refine AW.ret ?_
            rw [← hQr]
            simp only [go_sem, reduceIte, reduceCtorEq, zA, zM, zE, zL, zD, zS, zP, zB, zI, zR, ints_len, hlt]
            exact Wk.of_eq (by simp)
        · intro hb
          try simp only [hB, decide_eq_true_eq, decide_eq_false_iff_not] at hb
          have hKs : ∃ r, K = some r := by
            cases K with
            | none => simp at hb
            | some r => exact ⟨r, rfl⟩
          obtain ⟨r, rfl⟩ := hKs
          obtain ⟨q1, q2, _⟩ := hq.2 r rfl
          simp only [Option.getD_some, Option.isSome_some, if_true]
          have h9 := hrl r q1
          have h5 : dAt n r 0 = List.replicate n false := rfl
          have h6r : rankC bel n r 0 = 0 := rfl
          rw [h5, h6r, Nat.sub_zero, hCE, q2] at h9
          have hsn := hI.snoc (by omega) q1 (by omega)
          have hAr : List.length (A ++ [r]) = A.length + 1 := by simp
          refine AW.skip ?_
          refine hK13 _ _ _ ?_; clear hK13
          refine AW.seq fun K20 hK20 => ?_
          refine AW.seq fun K21 hK21 => ?_
          refine AW.regionK 0 (fun _ => none) [1, 5, 6, 43] [1, 28] ?_
          simp only [go_sem, reduceIte, reduceCtorEq, zA, zM, zE, zL, zD, zS, zP, zB, zI, zR, ints_len, hlt]
          repeat with_reducible refine cj ?_ ?_
          all_goals try first | omega | (intros; (repeat' apply And.intro) <;> first | assumption | omega | decide) | (intro hgd; exact absurd hgd (by decide)) | rfl | (simp only [go_sem, reduceIte, reduceCtorEq, zA, zM, zE, zL, zD, zS, zP, zB, zI, zR, ints_len, hlt]; done) | (intro _hgd; simp_all [go_sem]; done)
          refine hK21 _ _ _ ?_; clear hK21
          refine AW.cond rfl (by simp only [go_sem, reduceIte, reduceCtorEq, zA, zM, zE, zL, zD, zS, zP, zB, zI, zR]) ?_ ?_
          · intro hb
            try simp only [hB, decide_eq_true_eq, decide_eq_false_iff_not] at hb
            exfalso; revert hb; simp; omega
          · intro hb
            try simp only [hB, decide_eq_true_eq, decide_eq_false_iff_not] at hb
            refine AW.skip ?_
            refine hK20 _ _ _ ?_; clear hK20
            refine AW.seq fun K22 hK22 => ?_
            refine AW.regionK 0 (fun _ => none) [1, 5, 6] [1, 28] ?_
            simp only [go_sem, reduceIte, reduceCtorEq, zA, zM, zE, zL, zD, zS, zP, zB, zI, zR, ints_len, hlt, htk, hal]
            repeat with_reducible refine cj ?_ ?_
            all_goals try first | omega | (simp [scP, scalar]; done) | exact scP_words _ | exact scP_ints _ | exact scP_bools _
            refine hK22 _ _ _ ?_; clear hK22
            refine AW.regionK 0 (fun _ => none) [1, 3, 5] [1, 28] ?_
            simp only [go_sem, reduceIte, reduceCtorEq, zA, zM, zE, zL, zD, zS, zP, zB, zI, zR, ints_len, hlt]
            repeat with_reducible refine cj ?_ ?_
            all_goals try first | omega
            rw [← hQl1]
            change Exists _
            refine ⟨_, ?hm, A ++ [r], r, ?_, ?_, ?_, ?_, rfl, ?henv, ?hstore, ?hst⟩
            case henv =>
              repeat' (first | rfl | refine env_cons ?_ ?_ | refine st_cons ?_ ?_ ?_ ?_ | refine int_eq ?_ | refine bool_eq ?_ | refine rsl_eq ?_ | refine osl_eq ?_ | refine sl_eq ?_ ?_ ?_ | refine ptr_eq ?_ ?_ ?_ | refine agg_eq ?_ | refine es_cons ?_ ?_ | refine row_cons ?_ ?_)
              all_goals (first | (simp; done) | omega | (simp; omega))
            case hstore =>
              repeat' (first | rfl | refine env_cons ?_ ?_ | refine st_cons ?_ ?_ ?_ ?_ | refine int_eq ?_ | refine bool_eq ?_ | refine rsl_eq ?_ | refine osl_eq ?_ | refine sl_eq ?_ ?_ ?_ | refine ptr_eq ?_ ?_ ?_ | refine agg_eq ?_ | refine es_cons ?_ ?_ | refine row_cons ?_ ?_)
              all_goals (first | (simp; done) | omega | (simp; omega))
            case hst =>
              exact hsn
            case hm => omega
theorem law_szp (rs : List USet) (hl : longR rs) (hok : ∀ x ∈ rs, okW x.W) : Reads Tryd.prog 9 false [relV rs] (.bool true) := by
  rcases rel_cases rs hok with ⟨t, ht, hs, hn, hp⟩ | hb
  · have h := szp_g _ t hs hn hp
    rw [relB_SB, ← ht] at h
    exact h
  · exact szp_b rs hl (bad_valid rs hl hok hb).2
end Go.Proofs.X

/- Arguments that are read as data, as pure trees. -/
namespace Go.AM

inductive F2 {α β : Type} (R : α → β → Prop) : List α → List β → Prop
  | nil : F2 R [] []
  | cons {a b l r} (h : R a b) (t : F2 R l r) : F2 R (a :: l) (b :: r)

/-- The shape of a type's cells. -/
def Fit (P : Program) : Nat → TypeId → List AV → Prop
  | 0, _, _ => False
  | f + 1, t, avs => match P.underlying t with
    | some .bool => ∃ b, avs = [.bool b]
    | some (.int k) => ∃ n, avs = [.int k n] ∧ k.min ≤ n ∧ n ≤ k.max
    | some .string => ∃ s, avs = [.str s]
    | some (.slice e) => P.cellsOf e = 0 ∨ ∃ es, avs = [.rsl (P.cellsOf e) es] ∧ es.length ≤ maxLen ∧ ∀ x ∈ es, x.length = P.cellsOf e ∧ Fit P f e x
    | some (.struct fs) => ∃ parts : List (List AV), avs = parts.flatten ∧ F2 (fun (fl : Field) p => p.length = P.cellsOf fl.type ∧ Fit P f fl.type p) fs.toList parts
    | some (.array n e) => ∃ parts : List (List AV), avs = parts.flatten ∧ parts.length = n ∧ ∀ p ∈ parts, p.length = P.cellsOf e ∧ Fit P f e p
    | _ => True

abbrev immW (w : World) : Nat → Prop := immF w fun _ => False
def Match (w : World) (avs : List AV) (cs : List Value) : Prop := avs.length = cs.length ∧ ∀ i, i < avs.length → RelP (immW w) w (avs.getD i .any) (cs.getD i undef)

theorem Match.append {w : World} {a a' : List AV} {c c' : List Value} (h : Match w a c) (h' : Match w a' c') : Match w (a ++ a') (c ++ c') := by
  obtain ⟨h1, h2⟩ := h
  obtain ⟨k1, k2⟩ := h'
  refine ⟨by simp [h1, k1], fun i hi => ?_⟩
  rw [getD_append, getD_append, ← h1]
  by_cases hlt : i < a.length
  · rw [if_pos hlt, if_pos hlt]; exact h2 i hlt
  · rw [if_neg hlt, if_neg hlt]
    exact k2 _ (by simp at hi; omega)
theorem Match.one {w : World} {a : AV} {u : Value} (h : RelP (immW w) w a u) : Match w [a] [u] := ⟨rfl, fun i hi => by
  match i, hi with
  | 0, _ => exact h⟩

theorem mapM_some {α β : Type} {f : α → Option β} : ∀ {l : List α} {r : List β}, l.mapM f = some r → F2 (fun a b => f a = some b) l r
  | [], r, h => by
    simp only [List.mapM_nil, Option.pure_def, Option.some.injEq] at h
    subst h; exact .nil
  | a :: l, r, h => by
    rw [List.mapM_cons] at h
    cases ha : f a with
    | none => simp [ha] at h
    | some b =>
      cases hl : l.mapM f with
      | none => simp [ha, hl] at h
      | some r' =>
        simp [ha, hl] at h
        subst h
        exact .cons ha (mapM_some hl)

theorem range_mapM {β : Type} {f : Nat → Option β} {n : Nat} {r : List β} (h : (List.range n).mapM f = some r) : r.length = n ∧ ∀ i, i < n → ∃ b, r[i]? = some b ∧ f i = some b := by
  have h2 := mapM_some h
  have key : ∀ {l : List Nat} {r : List β}, F2 (fun a b => f a = some b) l r → r.length = l.length ∧ ∀ (i a : Nat), l[i]? = some a → ∃ b, r[i]? = some b ∧ f a = some b := by
    intro l r h
    induction h with
    | nil => exact ⟨rfl, by simp⟩
    | cons h t ih =>
      refine ⟨by simp [ih.1], fun i a ha => ?_⟩
      cases i with
      | zero => simp only [List.getElem?_cons_zero, Option.some.injEq] at ha; subst ha; exact ⟨_, rfl, h⟩
      | succ i => simpa using ih.2 i a (by simpa using ha)
  obtain ⟨k1, k2⟩ := key h2
  refine ⟨by simpa using k1, fun i hi => k2 i i (by simp [hi])⟩

theorem cells?_spec {w : World} {a : Addr} {n : Nat} {cs : List Value} (h : w.cells? 0 a n = some cs) : cs.length = n ∧ ∀ j, j < n → w.cell? (a.add j) = some (cs.getD j undef) := by
  simp only [World.cells?, Nat.zero_le, if_true] at h
  obtain ⟨h1, h2⟩ := range_mapM h
  refine ⟨h1, fun j hj => ?_⟩
  obtain ⟨b, e1, e2⟩ := h2 j hj
  rw [e2, List.getD_eq_getElem?_getD, e1]; rfl

theorem cell?_spot {w : World} {a : Addr} {v : Value} (h : w.cell? a = some v) : a.spot = none ∧ a.block < w.heap.size := by
  unfold World.cell? at h
  split at h
  · rename_i c _ _ hh
    split at h
    · cases h
    · rename_i hs
      exact ⟨by simpa using hs, heap_lt hh⟩
  · cases h

theorem chunks_struct {P : Program} (cs : List Value) : ∀ (fs : List Field) (o : Nat), (∀ (j : Nat) f, fs[j]? = some f → f.offset = o + ((fs.take j).map fun f => P.cellsOf f.type).sum) →
    (fs.map fun f => (cs.drop f.offset).take (P.cellsOf f.type)).flatten = (cs.drop o).take ((fs.map fun f => P.cellsOf f.type).sum)
  | [], o, _ => by simp
  | f :: fs, o, h => by
    have h0 := h 0 f rfl
    simp at h0
    have ih := chunks_struct (P := P) cs fs (o + P.cellsOf f.type) fun j g hj => by
      have := h (j + 1) g (by simpa using hj)
      rw [this]
      simp [Nat.add_assoc]
    simp only [List.map_cons, List.flatten_cons, List.sum_cons, ih, h0]
    rw [List.take_add, List.drop_drop]

theorem chunks_array (cs : List Value) (m : Nat) : ∀ n, ((List.range n).map fun i => (cs.drop (i * m)).take m).flatten = cs.take (n * m)
  | 0 => by simp
  | n + 1 => by
    rw [List.range_succ, List.map_append, List.flatten_append, chunks_array cs m n, Nat.succ_mul, List.take_add]
    simp

theorem match_flatten {α : Type} {w : World} {g : α → List Value} {p : α → List AV → Prop} : ∀ {l : List α} {parts : List (List AV)}, F2 (fun a x => p a x ∧ Match w x (g a)) l parts → Match w parts.flatten (l.map g).flatten
  | _, _, .nil => ⟨rfl, by simp⟩
  | _, _, .cons h t => by
    simp only [List.flatten_cons, List.map_cons]
    exact h.2.append (match_flatten t)

theorem forall2_imp {α β : Type} {R S : α → β → Prop} (h : ∀ a b, R a b → S a b) : ∀ {l : List α} {r : List β}, F2 R l r → F2 S l r
  | _, _, .nil => .nil
  | _, _, .cons h1 t => .cons (h _ _ h1) (forall2_imp h t)
theorem forall2_len {α β : Type} {R : α → β → Prop} : ∀ {l : List α} {r : List β}, F2 R l r → l.length = r.length
  | _, _, .nil => rfl
  | _, _, .cons _ t => by simp [forall2_len t]
theorem forall2_right {α β : Type} {R : α → β → Prop} {Q : β → Prop} (h : ∀ a b, R a b → Q b) : ∀ {l : List α} {r : List β}, F2 R l r → ∀ b ∈ r, Q b
  | _, _, .nil, b, hb => by cases hb
  | _, _, .cons h1 t, b, hb => by
    rcases List.mem_cons.1 hb with rfl | hb
    · exact h _ _ h1
    · exact forall2_right h t b hb

theorem fit_of_trod {H : Type} {enc : TypeId × Value → H} {P : Program} {w : World} (hl : laidOutB P = true) : ∀ (n : Nat) (t : TypeId) (cs : List Value) (x : DataW H × List MemPlace), t < P.types.size →
    DataW.trod enc P w 0 (fun _ => true) true n t cs = some x → ∃ avs, Fit P n t avs ∧ Match w avs cs := by
  intro n
  induction n with
  | zero => intro t cs x _ h; simp [DataW.trod] at h
  | succ n ih =>
    intro t cs x ht h
    have hany : (match P.underlying t with | some .bool | some (.int _) | some .string | some (.slice _) | some (.struct _) | some (.array _ _) => False | _ => True) → ∃ avs, Fit P (n + 1) t avs ∧ Match w avs cs := fun hh => by
      refine ⟨List.replicate cs.length .any, ?_, by simp, fun i hi => ?_⟩
      · unfold Fit
        split <;> simp_all
      · have : (List.replicate cs.length AV.any).getD i .any = .any := by
          simp only [List.getD_eq_getElem?_getD]
          cases h : (List.replicate cs.length AV.any)[i]? with
          | none => rfl
          | some y => simp [List.getElem?_replicate] at h; simp [h.2]
        rw [this]; exact .any _
    by_cases hh : (match P.underlying t with | some .bool | some (.int _) | some .string | some (.slice _) | some (.struct _) | some (.array _ _) => False | _ => True)
    · exact hany hh
    cases hu : P.underlying t with
    | none => exact absurd (by rw [hu]; trivial) hh
    | some d =>
      rw [hu] at hh
      cases d <;> first | exact absurd trivial hh | skip
      case bool =>
        unfold DataW.trod at h
        rw [hu] at h
        rcases cs with _ | ⟨c, _ | ⟨c2, rest⟩⟩ <;> (try cases c) <;> simp at h
        exact ⟨[.bool _], by unfold Fit; rw [hu]; exact ⟨_, rfl⟩, .one (.bool _)⟩
      case int k =>
        unfold DataW.trod at h
        rw [hu] at h
        rcases cs with _ | ⟨c, _ | ⟨c2, rest⟩⟩ <;> (try cases c) <;> simp at h
        rename_i k' m
        obtain ⟨⟨rfl, h1⟩, _⟩ := h
        exact ⟨[.int k' m], by unfold Fit; rw [hu]; exact ⟨_, rfl, by simpa [Lit.wf] using h1⟩, .one (.int _ _)⟩
      case string =>
        unfold DataW.trod at h
        rw [hu] at h
        rcases cs with _ | ⟨c, _ | ⟨c2, rest⟩⟩ <;> (try cases c) <;> simp at h
        exact ⟨[.str _], by unfold Fit; rw [hu]; exact ⟨_, rfl⟩, .one (.str _)⟩
      case slice e =>
        have he := kid_slice hl ht hu
        unfold DataW.trod at h
        rw [hu] at h
        have hbad : ∀ c c2 rest, cs ≠ c :: c2 :: rest := fun c c2 rest e => by subst e; cases c <;> simp at h
        rcases cs with _ | ⟨c, _ | ⟨c2, rest⟩⟩
        · simp at h
        rotate_left
        · exact absurd rfl (hbad _ _ _)
        cases c <;> first | (simp at h; done) | skip
        rename_i a len cap
        cases a with
        | none =>
          rcases len with _ | len <;> rcases cap with _ | cap <;> first | (simp at h; done) | skip
          exact ⟨[.rsl (P.cellsOf e) []], by unfold Fit; rw [hu]; exact .inr ⟨[], rfl, by simp, by simp⟩, .one (.rnil _ _ _)⟩
        | some a =>
          dsimp only at h
          split at h
          · rename_i hb
            cases hm : (List.range len).mapM (fun i => (w.cells? 0 (a.add (i * P.cellsOf e)) (P.cellsOf e)).bind (DataW.trod enc P w 0 (fun _ => true) true n e)) with
            | none => rw [hm] at h; simp at h
            | some elems =>
              obtain ⟨k1, k2⟩ := range_mapM hm
              have k3 : ∀ i, i < len → ∃ avs cs', w.cells? 0 (a.add (i * P.cellsOf e)) (P.cellsOf e) = some cs' ∧ Fit P n e avs ∧ Match w avs cs' := fun i hi => by
                obtain ⟨b, _, e2⟩ := k2 i hi
                cases hc : w.cells? 0 (a.add (i * P.cellsOf e)) (P.cellsOf e) with
                | none => rw [hc] at e2; simp at e2
                | some cs' =>
                  rw [hc] at e2
                  obtain ⟨avs, h1, h2⟩ := ih e cs' b he e2
                  exact ⟨avs, cs', rfl, h1, h2⟩
              classical
              let F : Nat → List AV := fun i => if hi : i < len then Classical.choose (k3 i hi) else []
              let es := (List.range len).map F
              have hlen : es.length = len := by simp [es]
              have hget : ∀ i, i < len → es.getD i [] = F i := fun i hi => by simp [es, List.getD_eq_getElem?_getD, hi]
              have hF : ∀ i, i < len → ∃ cs', w.cells? 0 (a.add (i * P.cellsOf e)) (P.cellsOf e) = some cs' ∧ Fit P n e (F i) ∧ Match w (F i) cs' := fun i hi => by
                have := Classical.choose_spec (k3 i hi)
                simp only [F, dif_pos hi]
                exact this
              have hes : ∀ x ∈ es, x.length = P.cellsOf e ∧ Fit P n e x := fun x hx => by
                simp only [es, List.mem_map, List.mem_range] at hx
                obtain ⟨i, hi, rfl⟩ := hx
                obtain ⟨cs', h1, h2, h3⟩ := hF i hi
                exact ⟨h3.1.trans (cells?_spec h1).1, h2⟩
              rcases Nat.eq_zero_or_pos (P.cellsOf e) with hz | hz
              · exact ⟨[.any], by unfold Fit; rw [hu]; exact .inl hz, .one (.any _)⟩
              refine ⟨[.rsl (P.cellsOf e) es], by unfold Fit; rw [hu]; exact .inr ⟨es, rfl, by rw [hlen]; omega, hes⟩, .one ?_⟩
              rcases Nat.eq_zero_or_pos len with h0 | h0
              · have : es = [] := List.length_eq_zero_iff.1 (by omega)
                rw [this, h0]; exact .rnil _ _ _
              · have hcell : ∀ i j, i < len → j < P.cellsOf e → ∃ v, w.cell? ((a.add (i * P.cellsOf e)).add j) = some v ∧ RelP (immW w) w ((es.getD i []).getD j .any) v := fun i j hi hj => by
                  obtain ⟨cs', h1, h2, h3⟩ := hF i hi
                  obtain ⟨g1, g2⟩ := cells?_spec h1
                  refine ⟨_, g2 j hj, ?_⟩
                  rw [hget i hi]
                  exact h3.2 j (by rw [h3.1, g1]; exact hj)
                obtain ⟨v0, g1, _⟩ := hcell 0 0 h0 hz
                simp only [Nat.zero_mul, Addr.add, if_true] at g1
                obtain ⟨hs, hblk⟩ := cell?_spot g1
                obtain ⟨b, off, sp⟩ := a
                simp only at hs
                subst hs
                have hadd : ∀ i j, ((⟨b, off, none⟩ : Addr).add (i * P.cellsOf e)).add j = ⟨b, off + i * P.cellsOf e + j, none⟩ := fun i j => by
                  simp only [Addr.add]
                  split <;> split <;> simp_all
                rw [← hlen]
                refine .rsl _ es b off cap (fun i j => (w.cell? ⟨b, off + i * P.cellsOf e + j, none⟩).getD undef) (by omega) ⟨hblk, fun h => h⟩ (fun x hx => (hes x hx).1) (fun i j hi hj => ?_) (fun i j hi hj => ?_)
                · obtain ⟨v, e1, _⟩ := hcell i j (by omega) hj
                  rw [hadd] at e1
                  simp [e1]
                · obtain ⟨v, e1, e2⟩ := hcell i j (by omega) hj
                  rw [hadd] at e1
                  simpa [e1] using e2
          · cases h
      case struct fs =>
        obtain ⟨hk1, hk2, hk3⟩ := kid_struct hl ht hu
        unfold DataW.trod at h
        rw [hu] at h
        dsimp only at h
        split at h
        · rename_i hlen
          cases hm : (fs.toList.mapM fun f => DataW.trod enc P w 0 (fun _ => true) true n f.type ((cs.drop f.offset).take (P.cellsOf f.type))) with
          | none => rw [hm] at h; simp at h
          | some xs =>
            have h2 := mapM_some hm
            have h3 : ∃ parts : List (List AV), F2 (fun (fl : Field) p => (p.length = P.cellsOf fl.type ∧ Fit P n fl.type p) ∧ Match w p ((cs.drop fl.offset).take (P.cellsOf fl.type))) fs.toList parts := by
              have hall : ∀ f ∈ fs.toList, f.type < P.types.size ∧ f.offset + P.cellsOf f.type ≤ cs.length := fun f hf => by
                refine ⟨hk1 f hf, ?_⟩
                obtain ⟨j, hj, rfl⟩ := List.mem_iff_getElem.1 hf
                have h5 := hk3 j fs.toList[j] (List.getElem?_eq_getElem hj)
                rw [h5, hlen, hk2]
                have h6 : (fs.toList.map fun f => P.cellsOf f.type).sum = ((fs.toList.take j).map fun f => P.cellsOf f.type).sum + ((fs.toList.drop j).map fun f => P.cellsOf f.type).sum := by
                  rw [← List.sum_append, ← List.map_append, List.take_append_drop]
                rw [h6, List.drop_eq_getElem_cons hj]
                simp
              clear hm h hk1 hk2 hk3
              generalize fs.toList = l at h2 hall
              induction h2 with
              | nil => exact ⟨[], .nil⟩
              | cons h1 t ih2 =>
                rename_i f y l' r'
                obtain ⟨parts, hp⟩ := ih2 fun f hf => hall f (List.mem_cons_of_mem _ hf)
                obtain ⟨g1, g2⟩ := hall f (List.mem_cons_self ..)
                obtain ⟨avs, k1, k2⟩ := ih _ _ _ g1 h1
                exact ⟨avs :: parts, .cons ⟨⟨by rw [k2.1]; simp; omega, k1⟩, k2⟩ hp⟩
            obtain ⟨parts, hp⟩ := h3
            refine ⟨parts.flatten, by unfold Fit; rw [hu]; exact ⟨parts, rfl, forall2_imp (fun _ _ h => h.1) hp⟩, ?_⟩
            have h4 := match_flatten hp
            rw [chunks_struct cs fs.toList 0 (fun j f hj => by simpa using hk3 j f hj)] at h4
            rw [← hk2, ← hlen] at h4
            simpa using h4
        · cases h
      case array m e =>
        obtain ⟨he, hsz⟩ := kid_array hl ht hu
        unfold DataW.trod at h
        rw [hu] at h
        dsimp only at h
        split at h
        · rename_i hlen
          cases hm : ((List.range m).mapM fun i => DataW.trod enc P w 0 (fun _ => true) true n e ((cs.drop (i * P.cellsOf e)).take (P.cellsOf e))) with
          | none => rw [hm] at h; simp at h
          | some xs =>
            have h2 := mapM_some hm
            have h3 : ∃ parts : List (List AV), F2 (fun (i : Nat) p => (p.length = P.cellsOf e ∧ Fit P n e p) ∧ Match w p ((cs.drop (i * P.cellsOf e)).take (P.cellsOf e))) (List.range m) parts := by
              have hall : ∀ i ∈ List.range m, (i + 1) * P.cellsOf e ≤ cs.length := fun i hi => by
                rw [hlen, hsz]
                exact Nat.mul_le_mul_right _ (by have := List.mem_range.1 hi; omega)
              clear hm h hsz
              generalize List.range m = l at h2 hall
              induction h2 with
              | nil => exact ⟨[], .nil⟩
              | cons h1 t ih2 =>
                rename_i i y l' r'
                obtain ⟨parts, hp⟩ := ih2 fun f hf => hall f (List.mem_cons_of_mem _ hf)
                have g2 := hall i (List.mem_cons_self ..)
                obtain ⟨avs, k1, k2⟩ := ih _ _ _ he h1
                rw [Nat.succ_mul] at g2
                exact ⟨avs :: parts, .cons ⟨⟨by rw [k2.1]; simp; omega, k1⟩, k2⟩ hp⟩
            obtain ⟨parts, hp⟩ := h3
            refine ⟨parts.flatten, by unfold Fit; rw [hu]; exact ⟨parts, rfl, by have := forall2_len hp; simpa using this.symm, forall2_right (fun _ _ h => h.1) hp⟩, ?_⟩
            have h4 := match_flatten (g := fun i => (cs.drop (i * P.cellsOf e)).take (P.cellsOf e)) hp
            rw [chunks_array, ← hsz, ← hlen] at h4
            simpa using h4
        · cases h

end Go.AM

