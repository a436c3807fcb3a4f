/- Lemmas and contracts, part 3: an abstract machine over the model, and the functions that the statement reaches. -/
import Derived.Test.YtcnldaccdojdkaaDoorDimensionBoundsP2
import Derived.KernelRfl
import Derived.Test.YtcnldaccdojdkaaDoorProg
set_option linter.unusedVariables false
set_option linter.unusedSimpArgs false
open Nat renaming reduceAdd → zA, reduceMul → zM, reduceEqDiff → zE, reduceLT → zL, reduceLeDiff → zD, reduceSub → zS, reducePow → zP, reduceBEq → zB
open Int renaming reduceToNat → zI
open List renaming reduceReplicate → zR
/- A region that ends in the compare of an empty slice with nil: both answers must do. -/
namespace Go.AM

theorem arun_pre {P : Program} {n base : Nat} {orc : Nat → Option Orc} {all tail : List Oper} {Q : AX → Post} {K : Post} : ∀ (rest : List Oper) (i : Nat) (e : Env) (s : Store) (k : Nat), arun P n base orc all rest i e s k K →
    ∀ x0, (∀ e s k ρ a w, K e s k → Goes x0 ⟨ρ, s, clk k, w, x0.F⟩ → St ⟨ρ, s, clk k, w, x0.F⟩ e n a → wpList P all.toArray (LiftX x0 n Q) tail a w) →
    ∀ ρ a w, Goes x0 ⟨ρ, s, clk k, w, x0.F⟩ → St ⟨ρ, s, clk k, w, x0.F⟩ e n a → wpList P all.toArray (LiftX x0 n Q) (rest ++ tail) a w
  | [], _, e, s, k, h, x0, hK, ρ, a, w, hg, hs => hK e s k ρ a w h hg hs
  | o :: rest, i, e, s, k, h, x0, hK, ρ, a, w, hg, hs => by
    have ih := arun_pre (P := P) (n := n) (base := base) (orc := orc) (all := all) (Q := Q) (tail := tail) (K := K) rest (i + 1)
    unfold arun at h
    rw [List.cons_append]
    split at h
    · exact h.elim
    · rename_i r hr
      split at h
      · rename_i hgd
        obtain ⟨hvc, hd, hrest⟩ := h
        unfold wpList
        rw [if_pos (by simp [Region.wanted, hgd])]
        refine .inl (step_sound (x := ⟨ρ, s, clk k, w, x0.F⟩) hs.ok hs.env hr hvc clk_fresh.1 clk_fresh.2 (B := k) (fun _ h => h) fun y u hgo hys hyc hru => ?_)
        have hgo2 := hgo.ok.goes_grow (s' := y.s) (c' := clk (k + 2)) (w' := y.w) (fun _ _ h => h) (fun g hg => by
          rcases hyc g hg with h1 | h1 | h1
          · exact Nat.lt_of_lt_of_le h1 (by omega)
          · simp [clk, h1]
          · simp [clk, h1]) (.refl _ _)
        have hall := hg.trans (hgo.trans hgo2)
        have hF : y.F = x0.F := hgo.F
        rw [← hys] at hrest
        rw [hF] at hall hgo2
        exact ih _ _ _ hrest x0 hK y.ρ _ y.w hall (put_env ((hgo.trans hgo2).le) hs hgo2.ok hd (hru.mono hgo2.le))
      · rename_i j want hgd
        split at h
        · rename_i q b hy
          split at h
          rotate_left
          · rename_i c u hu
            obtain ⟨hq, hb, hvc, hd, hrest⟩ := h
            have hyd := yielded_of hs hy hq
            unfold wpList
            rw [if_pos (by simp [Region.wanted, hgd, hyd, hb])]
            refine .inl (step_sound (x := ⟨ρ, s, clk k, w, x0.F⟩) hs.ok hs.env hr hvc clk_fresh.1 clk_fresh.2 (B := k) (fun _ h => h) fun y u' hgo hys hyc hru => ?_)
            have hgo2 := hgo.ok.goes_grow (s' := y.s) (c' := clk (k + 2)) (w' := y.w) (fun _ _ h => h) (fun g hg => by
              rcases hyc g hg with h1 | h1 | h1
              · exact Nat.lt_of_lt_of_le h1 (by omega)
              · simp [clk, h1]
              · simp [clk, h1]) (.refl _ _)
            have hall := hg.trans (hgo.trans hgo2)
            have hF : y.F = x0.F := hgo.F
            rw [hu] at hys
            rw [← hys] at hrest
            rw [hF] at hall hgo2
            exact ih _ _ _ hrest x0 hK y.ρ _ y.w hall (put_env ((hgo.trans hgo2).le) hs hgo2.ok hd (hru.mono hgo2.le))
          rename_i hu
          obtain ⟨hvc, hd, hrest⟩ := h
          unfold wpList
          by_cases hq : q ∧ b = want
          · have hyd := yielded_of hs hy hq.1
            rw [if_pos (by simp [Region.wanted, hgd, hyd, hq.2])]
            refine .inl (step_sound (x := ⟨ρ, s, clk k, w, x0.F⟩) hs.ok hs.env hr (hvc hq) clk_fresh.1 clk_fresh.2 (B := k) (fun _ h => h) fun y u' hgo hys hyc hru => ?_)
            have hgo2 := hgo.ok.goes_grow (s' := y.s) (c' := clk (k + 2)) (w' := y.w) (fun _ _ h => h) (fun g hg => by
              rcases hyc g hg with h1 | h1 | h1
              · exact Nat.lt_of_lt_of_le h1 (by omega)
              · simp [clk, h1]
              · simp [clk, h1]) (.refl _ _)
            have hall := hg.trans (hgo.trans hgo2)
            have hF : y.F = x0.F := hgo.F
            have hys : y.s = s := by rw [hu] at hys; exact hys
            rw [← hys] at hrest
            rw [hF] at hall hgo2
            exact ih _ _ _ hrest x0 hK y.ρ _ y.w hall (put_env ((hgo.trans hgo2).le) hs hgo2.ok hd (Rel.opt _ _ _ (fun _ => hru.mono hgo2.le) (fun hn => absurd hq hn)))
          · have hyd : Region.wanted o (yielded all.toArray a.tmps) = false := by
              by_cases hq1 : q
              · have := yielded_of hs hy hq1
                have hne : b ≠ want := fun e => hq ⟨hq1, e⟩
                simp [Region.wanted, hgd, this, hne]
              · have := yielded_not hs hy hq1
                simp [Region.wanted, hgd, this]
            rw [if_neg (by simp [hyd])]
            have hgo2 := hs.ok.goes_grow (s' := s) (c' := clk (k + 2)) (w' := w) (fun _ _ h => h) (fun g (hg : g < k) => show g < k + 2 by omega) (.refl _ _)
            exact ih _ _ _ hrest x0 hK ρ _ w (hg.trans hgo2) (put_env hgo2.le hs hgo2.ok hd (.opt _ _ _ (fun h => absurd h hq) (fun _ => rfl)))
        · exact h.elim

/-- A region whose last operation holds a slice of length 0 against nil. -/
theorem AW.regionNil {P : Program} {n id : Nat} {l : List Oper} {d T T2 : Nat} {x : Operand} {ty : TypeId} {pos : String} {es : Array Edge} {Q : AX → Post} {e : Env} {s : Store} {k : Nat} (base : Nat) (orc : Nat → Option Orc) (hd : d < n) (hT : (slD P T).isSome = true)
    (h : arun P n base orc (l ++ [Oper.mk (some d) (.binOp .eql T x (.const (.slice none 0 0)) T2) ty pos es none]) l 0 e s k fun e s k => (ev e x).1 ∧ (∃ sz, (ev e x).2 = .rsl sz []) ∧ ∀ b, Q .normal ((d, .bool b) :: e) s k) :
    AW P n (.region id (l ++ [Oper.mk (some d) (.binOp .eql T x (.const (.slice none 0 0)) T2) ty pos es none]).toArray false) Q e s k := by
  intro x0 ρ a w hg hs
  refine wp_region_lit (arun_pre l 0 e s k h x0 ?_ ρ a w hg hs)
  intro e s k ρ a w hK hg hs
  obtain ⟨h1, ⟨sz, h2⟩, h3⟩ := hK
  unfold wpList
  rw [if_pos (by simp [Region.wanted])]
  have hr := ev_rel hs.ok.gl hs.env x h1
  rw [h2] at hr
  have hsl : ∃ ad len cap, a.eval x = .slice ad len cap := by
    have := hr.rsl_inv
    generalize a.eval x = u at this
    cases this
    · exact ⟨_, _, _, rfl⟩
    · exact ⟨_, _, _, rfl⟩
  obtain ⟨ad, len, cap, hev⟩ := hsl
  obtain ⟨y, hy⟩ := Option.isSome_iff_exists.1 hT
  refine .inl (wp_value (w' := w) (s := do eqGuard .eql T x (.const (.slice none 0 0)) (a.eval x) (a.eval (.const (.slice none 0 0))); binOp .eql T (a.eval x) (a.eval (.const (.slice none 0 0)))) (u := .bool ad.isNone) (by simp only [execOp]) ?_ ?_)
  · rw [hev]
    have hg : (eqGuard .eql T x (.const (.slice none 0 0)) (.slice ad len cap) (.slice none 0 0)).run P w = .ok () w := by
      unfold eqGuard
      split <;> rfl
    show (do eqGuard .eql T x (.const (.slice none 0 0)) (.slice ad len cap) (.slice none 0 0); Go.binOp .eql T (.slice ad len cap) (.slice none 0 0)).run P w = _
    simp only [Sem.run_bind, hg, Result.andThen_ok, Go.binOp, run_nilCmp hy, Sem.run_pure]
  · exact ⟨ρ, _, s, k, h3 ad.isNone, hg, put_env (dst := some d) (.refl _) hs hs.ok hd (.bool _)⟩

end Go.AM

/- The steps of a printed walk, in short: what a step asks for is proved by the text that stands as its default. -/
namespace Go.AM
theorem e2 {a b : Prop} (x : a) (y : b) : a ∧ b := ⟨x, y⟩
theorem e3 {a b c : Prop} (x : a) (y : b) (z : c) : a ∧ b ∧ c := ⟨x, y, z⟩
theorem e4 {a b c d : Prop} (x : a) (y : b) (z : c) (u : d) : a ∧ b ∧ c ∧ d := ⟨x, y, z, u⟩
theorem e5 {a b c d p : Prop} (x : a) (y : b) (z : c) (u : d) (v : p) : a ∧ b ∧ c ∧ d ∧ p := ⟨x, y, z, u, v⟩
theorem cjG {g a b : Prop} (ha : a) (hb : g → b) : g → a ∧ b := fun h => ⟨ha, hb h⟩
theorem AW.seq1 {P : Program} {n : Nat} {c d : Code} {Q : AX → Post} {e : Env} {s : Store} {k : Nat} (h : AW P n c (thenQ (fun e s k => AW P n d Q e s k) Q) e s k) : AW P n (.seq c d) Q e s k := by
  intro x0 ρ a w hg hs
  have h1 := h x0 ρ a w hg hs
  refine wp_seq (wp_mono h1 fun ex a' w' hl => ?_)
  cases ex with
  | normal =>
    obtain ⟨ρ', e', s', k', g1, g2, g3⟩ := hl
    exact g1 x0 ρ' a' w' g2 g3
  | _ => exact hl
theorem AW.sg {P : Program} {n id : Nat} {l : List Oper} {Q : AX → Post} {e : Env} {s : Store} {k : Nat} {b : Code} (ks is : List Nat) {E : Prop} (hE : E) {G : Prop} (hG : G)
    (h : E → G → arun P n 0 (fun _ => Option.none) l l 0 e s k fun e s k => AW P n b Q (keepE ks e) (keepS is s) k := by
      intro xE
      simp (maxSteps := 2000000) only [go_sem, reduceIte, reduceCtorEq, zA, zM, zE, zL, zD, zS, zP, zB, zI, zR, xE]
      repeat ((with_reducible apply cjG); (first | omega | exact ent (by kernel_rfl) | (simp [scP, scalar]; done) | exact scP_words _ | exact scP_ints _ | exact scP_bools _))
      exact fun xG => xG) : AW P n (.seq (.region id l.toArray false) b) Q e s k :=
  AW.seq1 (AW.regionK 0 (fun _ => Option.none) ks is (h hE hG))
theorem AW.so {P : Program} {n id : Nat} {l : List Oper} {Q : AX → Post} {e : Env} {s : Store} {k : Nat} {b : Code} (base : Nat) (orc : Nat → Option Orc) (ks is : List Nat) {E : Prop} (hE : E) {G : Prop} (hG : G)
    (h : E → G → arun P n base orc l l 0 e s k fun e s k => AW P n b Q (keepE ks e) (keepS is s) k := by
      intro xE
      simp (maxSteps := 2000000) only [go_sem, reduceIte, reduceCtorEq, zA, zM, zE, zL, zD, zS, zP, zB, zI, zR, xE]
      repeat ((with_reducible apply cjG); (first | omega | exact ent (by kernel_rfl) | (simp [scP, scalar]; done) | exact scP_words _ | exact scP_ints _ | exact scP_bools _))
      exact fun xG => xG) : AW P n (.seq (.region id l.toArray false) b) Q e s k :=
  AW.seq1 (AW.regionK base orc ks is (h hE hG))
theorem AW.rg {P : Program} {n id : Nat} {l : List Oper} {Q : AX → Post} {e : Env} {s : Store} {k : Nat} (ks is : List Nat) {E : Prop} (hE : E) {G : Prop} (hG : G)
    (h : E → G → arun P n 0 (fun _ => Option.none) l l 0 e s k fun e s k => Q .normal (keepE ks e) (keepS is s) k := by
      intro xE
      simp (maxSteps := 2000000) only [go_sem, reduceIte, reduceCtorEq, zA, zM, zE, zL, zD, zS, zP, zB, zI, zR, xE]
      repeat ((with_reducible apply cjG); (first | omega | exact ent (by kernel_rfl) | (simp [scP, scalar]; done) | exact scP_words _ | exact scP_ints _ | exact scP_bools _))
      exact fun xG => xG) : AW P n (.region id l.toArray false) Q e s k :=
  AW.regionK 0 (fun _ => Option.none) ks is (h hE hG)
theorem AW.ro {P : Program} {n id : Nat} {l : List Oper} {Q : AX → Post} {e : Env} {s : Store} {k : Nat} (base : Nat) (orc : Nat → Option Orc) (ks is : List Nat) {E : Prop} (hE : E) {G : Prop} (hG : G)
    (h : E → G → arun P n base orc l l 0 e s k fun e s k => Q .normal (keepE ks e) (keepS is s) k := by
      intro xE
      simp (maxSteps := 2000000) only [go_sem, reduceIte, reduceCtorEq, zA, zM, zE, zL, zD, zS, zP, zB, zI, zR, xE]
      repeat ((with_reducible apply cjG); (first | omega | exact ent (by kernel_rfl) | (simp [scP, scalar]; done) | exact scP_words _ | exact scP_ints _ | exact scP_bools _))
      exact fun xG => xG) : AW P n (.region id l.toArray false) Q e s k :=
  AW.regionK base orc ks is (h hE hG)
theorem AW.sd {P : Program} {n id : Nat} {l : List Oper} {Q : AX → Post} {e : Env} {s : Store} {k : Nat} {b : Code} (hm : P.follows .mixedOrders = true) (base : Nat) (orc : Nat → Option Orc) (ks is : List Nat) {E : Prop} (hE : E) {G : Prop} (hG : G)
    (h : E → G → drun P n base orc l k l 0 [] e s fun L e s => chkA l L = true ∧ AW P n b Q (keepE ks e) (keepS is s) (k + 2 * l.length) := by
      intro xE
      simp (maxSteps := 2000000) only [go_sem, reduceIte, reduceCtorEq, zA, zM, zE, zL, zD, zS, zP, zB, zI, zR, xE]
      repeat ((with_reducible apply cjG); (first | omega | exact chk (by kernel_rfl) | exact ent (by kernel_rfl) | (simp [scP, scalar]; done) | exact scP_words _ | exact scP_ints _ | exact scP_bools _))
      exact fun xG => xG) : AW P n (.seq (.region id l.toArray true) b) Q e s k :=
  AW.seq1 (AW.regionD hm base orc ks is (h hE hG))
theorem AW.rd {P : Program} {n id : Nat} {l : List Oper} {Q : AX → Post} {e : Env} {s : Store} {k : Nat} (hm : P.follows .mixedOrders = true) (base : Nat) (orc : Nat → Option Orc) (ks is : List Nat) {E : Prop} (hE : E) {G : Prop} (hG : G)
    (h : E → G → drun P n base orc l k l 0 [] e s fun L e s => chkA l L = true ∧ Q .normal (keepE ks e) (keepS is s) (k + 2 * l.length) := by
      intro xE
      simp (maxSteps := 2000000) only [go_sem, reduceIte, reduceCtorEq, zA, zM, zE, zL, zD, zS, zP, zB, zI, zR, xE]
      repeat ((with_reducible apply cjG); (first | omega | exact chk (by kernel_rfl) | exact ent (by kernel_rfl) | (simp [scP, scalar]; done) | exact scP_words _ | exact scP_ints _ | exact scP_bools _))
      exact fun xG => xG) : AW P n (.region id l.toArray true) Q e s k :=
  AW.regionD hm base orc ks is (h hE hG)
theorem AW.cn {P : Program} {n : Nat} {Q : AX → Post} {e : Env} {s : Store} {k : Nat} {o : Operand} {c d : Code} {b : Bool} {p q : Prop} (ht : p → AW P n c Q e s k) (hf : q → AW P n d Q e s k) (he : (ev e o).2 = .bool b := by rfl)
    (hp : (ev e o).1 := by simp only [go_sem, reduceIte, reduceCtorEq, zA, zM, zE, zL, zD, zS, zP, zB, zI, zR]) (h1 : b = true → p := by (intro xb; first | (simp only [hB, decide_eq_true_eq, decide_eq_false_iff_not] at xb; exact xb) | exact xb)) (h2 : b = false → q := by (intro xb; first | (simp only [hB, decide_eq_true_eq, decide_eq_false_iff_not] at xb; exact xb) | exact xb)) :
    AW P n (.cond o c d) Q e s k :=
  AW.cond he hp (fun h => ht (h1 h)) (fun h => hf (h2 h))
theorem AW.kx {P : Program} {n : Nat} {Q : AX → Post} {e : Env} {s : Store} {k : Nat} {id : Nat} (ks is : List Nat) {G : Prop} (hG : G) (h : G → Q (.exit id) (keepE ks e) (keepS is s) k := by ((try simp only [go_sem, reduceIte, reduceCtorEq, zA, zM, zE, zL, zD, zS, zP, zB, zI, zR]); exact fun xG => xG)) : AW P n (.exit id) Q e s k :=
  AW.keep ks is (AW.exit (h hG))
theorem AW.kp {P : Program} {n : Nat} {c : Code} {Q : AX → Post} {e : Env} {s : Store} {k : Nat} (ks is : List Nat) {G : Prop} (hG : G) (h : G → AW P n c Q (keepE ks e) (keepS is s) k := by ((try simp only [go_sem, reduceIte, reduceCtorEq, zA, zM, zE, zL, zD, zS, zP, zB, zI, zR]); exact fun xG => xG)) : AW P n c Q e s k :=
  AW.keep ks is (h hG)
theorem AW.rt {P : Program} {n : Nat} {Q : AX → Post} {e : Env} {s : Store} {k : Nat} {E : Prop} (hE : E) {G : Prop} (hG : G) (h : E → G → Q .ret e s k := by (intro xE; (try simp only [go_sem, reduceIte, reduceCtorEq, zA, zM, zE, zL, zD, zS, zP, zB, zI, zR, xE]); exact fun xG => xG)) : AW P n .ret Q e s k :=
  AW.ret (h hE hG)
theorem eD {α : Type} {a b : α} (h : a = b := by
      repeat' (first | rfl | refine env_cons ?_ ?_ | refine st_cons ?_ ?_ ?_ ?_ | refine int_eq ?_ | refine bool_eq ?_ | refine rsl_eq ?_ | refine osl_eq ?_ | refine sl_eq ?_ ?_ ?_ | refine ptr_eq ?_ ?_ ?_ | refine agg_eq ?_ | refine es_cons ?_ ?_ | refine row_cons ?_ ?_)
      all_goals (first | (simp; done) | omega | (simp; omega))) : a = b := h
theorem eT {p : Prop} (h : p := by first | trivial | omega | (simp; done) | (simp; omega)) : p := h
theorem eO {p : Prop} (h : p := by omega) : p := h
theorem gD {p : Prop} (h : p := by (simp only [go_sem, reduceIte, reduceCtorEq, zA, zM, zE, zL, zD, zS, zP, zB, zI, zR]; done)) : p := h
end Go.AM

/- Lists of plain values as pure trees. -/
namespace Go.AM
def ints (l : List Int) : List (List AV) := l.map fun x => [.int .i64 x]
def words (l : List Int) : List (List AV) := l.map fun x => [.int .u64 x]
def bools (l : List Bool) : List (List AV) := l.map fun x => [.bool x]
structure USet where
  N : Int
  W : List Int
end Go.AM
namespace Go.AM
theorem ints_len (l : List Int) : (ints l).length = l.length := by simp [ints]
theorem ints_take (l : List Int) (n : Nat) : (ints l).take n = ints (l.take n) := by simp [ints, List.map_take]
theorem ints_set (l : List Int) (i : Nat) (x : Int) : (ints l).set i [.int .i64 x] = ints (l.set i x) := by simp [ints, List.map_set]
theorem ints_upd (l : List Int) (i : Nat) (x : Int) : (ints l).set i (((ints l).getD i []).set 0 (.int .i64 x)) = ints (l.set i x) := by
  by_cases h : i < l.length
  · rw [← ints_set]; congr 1; simp [ints, List.getD_eq_getElem?_getD, h]
  · rw [List.set_eq_of_length_le (by rw [ints_len]; omega), List.set_eq_of_length_le (by omega)]
theorem Reads.old {P : Program} {f : FuncId} {args : List AV} {r : AV} (h : Reads P f true args r) : Reads P f false args r := by
  intro w F us hF hgl hl hr
  refine (h w F us hF hgl hl hr).mono fun e w' ⟨u, h1, h2, h3⟩ => ⟨u, h1, h2, ?_⟩
  exact h3.mono fun b hb => ⟨⟨hb.1, fun hf => hb.2 (hF b hf)⟩, rfl⟩
theorem getV {α : Type} {f : α → List AV} {l : List α} {j : Nat} {x : α} (h : l[j]? = some x) : (l.map f).getD j [] = f x := by
  simp [List.getD_eq_getElem?_getD, h]
theorem getI {α : Type} {l : List α} {j : Nat} (h : j < l.length) : ∃ x, l[j]? = some x := ⟨_, List.getElem?_eq_getElem h⟩
theorem all_take_succ {α : Type} {p : α → Bool} {l : List α} {j : Nat} {x : α} (h : l[j]? = some x) : (l.take (j + 1)).all p = ((l.take j).all p && p x) := by
  obtain ⟨hj, rfl⟩ := List.getElem?_eq_some_iff.1 h
  rw [List.take_succ_eq_append_getElem hj, List.all_append]; simp
theorem all_false_of {α : Type} {p : α → Bool} {l : List α} {j : Nat} {x : α} (h : l[j]? = some x) (hp : p x = false) : l.all p = false := by
  rw [List.all_eq_false]; exact ⟨x, List.mem_of_getElem? h, by simp [hp]⟩
theorem words_len (l : List Int) : (words l).length = l.length := by simp [words]
theorem words_getD {l : List Int} {i : Nat} (h : i < l.length) : (words l).getD i [] = [.int .u64 (l.getD i 0)] := by
  simp [words, List.getD_eq_getElem?_getD, h]
theorem words_set (l : List Int) (i : Nat) (x : Int) : (words l).set i [.int .u64 x] = words (l.set i x) := by simp [words, List.map_set]
theorem words_upd (l : List Int) (i : Nat) (x : Int) : (words l).set i (((words l).getD i []).set 0 (.int .u64 x)) = words (l.set i x) := by
  by_cases h : i < l.length
  · rw [← words_set]; congr 1; simp [words, List.getD_eq_getElem?_getD, h]
  · rw [List.set_eq_of_length_le (by rw [words_len]; omega), List.set_eq_of_length_le (by omega)]
theorem words_take (l : List Int) (n : Nat) : (words l).take n = words (l.take n) := by simp [words, List.map_take]
theorem bools_len (l : List Bool) : (bools l).length = l.length := by simp [bools]
theorem bools_getD {l : List Bool} {i : Nat} (h : i < l.length) : (bools l).getD i [] = [.bool (l.getD i false)] := by
  simp [bools, List.getD_eq_getElem?_getD, h]
theorem bools_set (l : List Bool) (i : Nat) (x : Bool) : (bools l).set i [.bool x] = bools (l.set i x) := by simp [bools, List.map_set]
theorem bools_upd (l : List Bool) (i : Nat) (x : Bool) : (bools l).set i (((bools l).getD i []).set 0 (.bool x)) = bools (l.set i x) := by
  by_cases h : i < l.length
  · rw [← bools_set]; congr 1; simp [bools, List.getD_eq_getElem?_getD, h]
  · rw [List.set_eq_of_length_le (by rw [bools_len]; omega), List.set_eq_of_length_le (by omega)]
theorem bools_take (l : List Bool) (n : Nat) : (bools l).take n = bools (l.take n) := by simp [bools, List.map_take]
section
variable (s : Store) (d : Nat)
theorem vw_ints (l : List Int) : (ints l).map (fun cs => cs.map (vw s d)) = ints l := vw_map_int s d _ l
theorem vwc_ints (l : List Int) : (ints l).map (fun cs => cs.map (vwc s d)) = ints l := vwc_map_int s d _ l
theorem vwF_ints (l : List Int) : (ints l).map (fun cs => cs.map (vwF s d)) = ints l := vwF_map_int s d _ l
theorem vwcF_ints (l : List Int) : (ints l).map (fun cs => cs.map (vwcF s d)) = ints l := vwcF_map_int s d _ l
theorem vw_words (l : List Int) : (words l).map (fun cs => cs.map (vw s d)) = words l := vw_map_int s d _ l
theorem vwc_words (l : List Int) : (words l).map (fun cs => cs.map (vwc s d)) = words l := vwc_map_int s d _ l
theorem vwF_words (l : List Int) : (words l).map (fun cs => cs.map (vwF s d)) = words l := vwF_map_int s d _ l
theorem vwcF_words (l : List Int) : (words l).map (fun cs => cs.map (vwcF s d)) = words l := vwcF_map_int s d _ l
theorem vwc_bools (l : List Bool) : (bools l).map (fun cs => cs.map (vwc s d)) = bools l := vwc_map_bool s d l
theorem vwcF_bools (l : List Bool) : (bools l).map (fun cs => cs.map (vwcF s d)) = bools l := vwcF_map_bool s d l
variable (m : Ref → Option Ref)
theorem ren_int (k : IntKind) (x : Int) : ren m d (.int k x) = .int k x := by cases d <;> rfl
theorem ren_bool (x : Bool) : ren m d (.bool x) = .bool x := by cases d <;> rfl
theorem ren_ints (l : List Int) : (ints l).map (fun row => row.map (ren m d)) = ints l := by simp [ints, ren_int]
theorem renC_ints (l : List Int) : (ints l).map (fun row => row.map (renC m d)) = ints l := by simp [ints, renC, ren_int]
theorem ren_words (l : List Int) : (words l).map (fun row => row.map (ren m d)) = words l := by simp [words, ren_int]
theorem renC_words (l : List Int) : (words l).map (fun row => row.map (renC m d)) = words l := by simp [words, renC, ren_int]
theorem ren_bools (l : List Bool) : (bools l).map (fun row => row.map (ren m d)) = bools l := by simp [bools, ren_bool]
theorem renC_bools (l : List Bool) : (bools l).map (fun row => row.map (renC m d)) = bools l := by simp [bools, renC, ren_bool]
end
attribute [go_sem] vw_ints vwc_ints vwF_ints vwcF_ints vw_words vwc_words vwF_words vwcF_words vwc_bools vwcF_bools ren_ints renC_ints ren_words renC_words ren_bools renC_bools
  ints_len ints_set ints_upd ints_take words_len words_set words_upd words_take bools_len bools_set bools_upd bools_take List.take_length Int.toNat_natCast List.length_map List.length_replicate Nat.sub_zero Nat.sub_self List.getD_nil
end Go.AM
namespace Go.AM
def noOslR {α : Type} (f : α → List AV) : Prop := ∀ x i sz q, (f x).getD i .any ≠ .osl sz q
theorem noOsl_map {α : Type} {f : α → List AV} (h : noOslR f) (l : List α) : noOsl (l.map f) := fun i j sz q e => by
  by_cases hi : i < l.length
  · rw [getV (List.getElem?_eq_getElem hi)] at e
    exact h _ _ _ _ e
  · have e0 : (l.map f).getD i [] = [] := by simp [List.getD_eq_getElem?_getD, List.getElem?_eq_none (by simpa using hi : l.length ≤ i)]
    rw [e0] at e
    simp at e
theorem noOslR_int (k : IntKind) : noOslR (α := Int) fun x : Int => [AV.int k x] := fun x i sz q e => by
  rcases i with _ | i <;> simp at e
theorem noOsl_ints (l : List Int) : noOsl (ints l) := noOsl_map (noOslR_int _) l
theorem ints_app (l : List Int) (x : Int) : ints l ++ [[.int .i64 x]] = ints (l ++ [x]) := by simp [ints]
theorem ints_get {l : List Int} {i : Nat} {x : Int} (h : l[i]? = some x) : (ints l).getD i [] = [.int .i64 x] := getV h
theorem ints_getD {l : List Int} {i : Nat} (h : i < l.length) : (ints l).getD i [] = [.int .i64 (l.getD i 0)] := by
  simp [ints, List.getD_eq_getElem?_getD, h]
theorem mem_getD {α : Type} {l : List α} {i : Nat} (h : i < l.length) (d : α) : l.getD i d ∈ l := by
  rw [List.getD_eq_getElem?_getD, List.getElem?_eq_getElem h]; exact List.getElem_mem h
theorem getD_of {α : Type} {l : List α} {i : Nat} {x : α} (h : l[i]? = some x) (d : α) : l.getD i d = x := by
  rw [List.getD_eq_getElem?_getD, h]; rfl
theorem scP_ints (l : List Int) : scP (ints l) := fun cs h a ha => by
  simp only [ints, List.mem_map] at h
  obtain ⟨x, _, rfl⟩ := h
  simp at ha; subst ha; rfl
theorem scP_words (l : List Int) : scP (words l) := fun cs h a ha => by
  simp only [words, List.mem_map] at h
  obtain ⟨x, _, rfl⟩ := h
  simp at ha; subst ha; rfl
theorem scP_bools (l : List Bool) : scP (bools l) := fun cs h a ha => by
  simp only [bools, List.mem_map] at h
  obtain ⟨x, _, rfl⟩ := h
  simp at ha; subst ha; rfl
def pairV (p : Int × Int) : List AV := [.int .i64 p.1, .int .i64 p.2]
theorem vwc_pairs (s : Store) (d : Nat) (l : List (Int × Int)) : (l.map pairV).map (fun cs => cs.map (vwc s d)) = l.map pairV := by simp [pairV, vwc_int]
theorem vwcF_pairs (s : Store) (d : Nat) (l : List (Int × Int)) : (l.map pairV).map (fun cs => cs.map (vwcF s d)) = l.map pairV := by simp [pairV, vwcF_int]
theorem renC_pairs (m : Ref → Option Ref) (d : Nat) (l : List (Int × Int)) : (l.map pairV).map (fun cs => cs.map (renC m d)) = l.map pairV := by simp [pairV, renC, ren_int]
attribute [go_sem] vwc_pairs vwcF_pairs renC_pairs
theorem noOsl_words (l : List Int) : noOsl (words l) := noOsl_map (noOslR_int _) l
end Go.AM

/- Sets as words. -/
namespace Go.AM
/-- A bit is set. -/
def setBit (W : List Int) (i : Int) : List Int := W.set (i.tdiv 64).toNat (bOr .u64 (W.getD (i.tdiv 64).toNat 0) (bShl .u64 1 (i.tmod 64)))
def wordsN (n : Int) : Int := (n + 64 - 1).tdiv 64
def ofW (n : Int) (l : List Int) : List Int := l.foldl setBit (List.replicate (wordsN n).toNat 0)
theorem wordsN_rng {n : Int} (h0 : 0 ≤ n) : 0 ≤ wordsN n ∧ n ≤ 64 * wordsN n ∧ 64 * wordsN n ≤ n + 63 := by
  unfold wordsN; rw [Int.tdiv_eq_ediv_of_nonneg (by omega)]; omega
theorem div64_rng {i n : Int} (h0 : 0 ≤ i) (h1 : i < n) : 0 ≤ i.tdiv 64 ∧ i.tdiv 64 < wordsN n ∧ 0 ≤ i.tmod 64 ∧ i.tmod 64 < 64 := by
  have := wordsN_rng (n := n) (by omega)
  rw [Int.tdiv_eq_ediv_of_nonneg h0, Int.tmod_eq_emod_of_nonneg h0]; omega
theorem ofW_len (n : Int) (l : List Int) : (ofW n l).length = (wordsN n).toNat := by
  unfold ofW
  generalize hW : List.replicate (wordsN n).toNat (0 : Int) = W
  have : W.length = (wordsN n).toNat := by rw [← hW]; simp
  clear hW
  induction l generalizing W with
  | nil => exact this
  | cons a l ih => exact ih (setBit W a) (by simp [setBit, this])
theorem ofW_succ {n : Int} {l : List Int} {j : Nat} {x : Int} (h : l[j]? = some x) : ofW n (l.take (j + 1)) = setBit (ofW n (l.take j)) x := by
  obtain ⟨hj, rfl⟩ := List.getElem?_eq_some_iff.1 h
  unfold ofW
  rw [List.take_succ_eq_append_getElem hj, List.foldl_append]; rfl
def setW (l : List Bool) (j : Nat) : List Int := (List.range j).foldl (fun W i => if l.getD i false = true then setBit W (i : Int) else W) (List.replicate (wordsN l.length).toNat 0)
theorem setW_succ (l : List Bool) (j : Nat) : setW l (j + 1) = if l.getD j false = true then setBit (setW l j) (j : Int) else setW l j := by
  unfold setW; rw [List.range_succ, List.foldl_append]; rfl
theorem setW_len (l : List Bool) (j : Nat) : (setW l j).length = (wordsN l.length).toNat := by
  induction j with
  | zero => simp [setW]
  | succ j ih => rw [setW_succ]; split <;> simp [setBit, ih]
def hasW (W : List Int) (i : Int) : Bool := decide ((bShr .u64 (W.getD (i.tdiv 64).toNat 0) (i.tmod 64)).tmod 2 = 1)
def okW (W : List Int) : Prop := ∀ i, 0 ≤ W.getD i 0 ∧ W.getD i 0 < 18446744073709551616
theorem bShr_nat {w k : Nat} (hk : k < 64) : bShr .u64 (w : Int) (k : Int) = ((w >>> k : Nat) : Int) := by
  unfold bShr
  have : min (k : Int).toNat IntKind.u64.bits = k := by simp [IntKind.bits]; omega
  rw [this, Nat.shiftRight_eq_div_pow, Int.fdiv_eq_ediv_of_nonneg _ (by exact_mod_cast Nat.zero_le _)]
  norm_cast
theorem hasW_bit {W : List Int} {i : Int} (h0 : 0 ≤ i) (hW : 0 ≤ W.getD (i.tdiv 64).toNat 0) : hasW W i = (W.getD (i.tdiv 64).toNat 0).toNat.testBit (i.toNat % 64) := by
  unfold hasW
  obtain ⟨w, hw⟩ : ∃ w : Nat, W.getD (i.tdiv 64).toNat 0 = w := ⟨_, (Int.toNat_of_nonneg hW).symm⟩
  obtain ⟨m, rfl⟩ : ∃ m : Nat, i = m := ⟨_, (Int.toNat_of_nonneg h0).symm⟩
  have e : (m : Int).tmod 64 = ((m % 64 : Nat) : Int) := by rw [Int.tmod_eq_emod_of_nonneg (by omega)]; rfl
  rw [hw, e, bShr_nat (by omega), Int.toNat_natCast, Int.toNat_natCast, Nat.testBit_eq_decide_div_mod_eq, Nat.shiftRight_eq_div_pow]
  generalize w / 2 ^ (m % 64) = d
  rw [Int.tmod_eq_emod_of_nonneg (by omega)]
  congr 1
  apply propext
  omega
theorem bOr_nat {a b : Nat} (ha : a < 18446744073709551616) (hb : b < 18446744073709551616) : bOr .u64 (a : Int) (b : Int) = ((a ||| b : Nat) : Int) := by
  unfold bOr
  have e : (BitVec.ofInt IntKind.u64.bits (a : Int) ||| BitVec.ofInt IntKind.u64.bits (b : Int)).toNat = a ||| b := by
    show (BitVec.ofInt 64 (a : Int) ||| BitVec.ofInt 64 (b : Int) : BitVec 64).toNat = _
    rw [BitVec.toNat_or, BitVec.ofInt_natCast, BitVec.ofInt_natCast, BitVec.toNat_ofNat, BitVec.toNat_ofNat, Nat.mod_eq_of_lt (by omega), Nat.mod_eq_of_lt (by omega)]
  rw [e]
  have : a ||| b < 2 ^ 64 := Nat.or_lt_two_pow (by omega) (by omega)
  simp [IntKind.wrap, IntKind.signed, IntKind.bits]
  omega
theorem bShl_nat {k : Nat} (hk : k < 64) : bShl .u64 1 (k : Int) = ((2 ^ k : Nat) : Int) := by
  unfold bShl
  have : min (k : Int).toNat IntKind.u64.bits = k := by simp [IntKind.bits]; omega
  rw [this]
  have h : (2 : Nat) ^ k < 2 ^ 64 := Nat.pow_lt_pow_right (by decide) hk
  have h2 : (1 : Int) * 2 ^ k = ((2 ^ k : Nat) : Int) := by rw [Int.one_mul]; norm_cast
  rw [h2]
  generalize 2 ^ k = p at h ⊢
  have h3 : p < 18446744073709551616 := by simpa using h
  simp [IntKind.wrap, IntKind.signed, IntKind.bits]
  omega
theorem okW.set {W : List Int} (h : okW W) {i : Int} (h0 : 0 ≤ i) : okW (setBit W i) ∧ ∀ j : Int, 0 ≤ j → (j.tdiv 64).toNat < W.length → hasW (setBit W i) j = (decide (i = j) || hasW W j) := by
  have hq : (i.tmod 64) = ((i.toNat % 64 : Nat) : Int) := by rw [Int.tmod_eq_emod_of_nonneg h0]; omega
  generalize hk : (i.tdiv 64).toNat = k
  obtain ⟨w, hw⟩ : ∃ w : Nat, W.getD k 0 = w := ⟨_, (Int.toNat_of_nonneg (h k).1).symm⟩
  have hw2 : w < 18446744073709551616 := by have := (h k).2; omega
  have hp : 2 ^ (i.toNat % 64) < 18446744073709551616 := by
    have : (2 : Nat) ^ (i.toNat % 64) < 2 ^ 64 := Nat.pow_lt_pow_right (by decide) (Nat.mod_lt _ (by decide))
    simpa using this
  have hv : bOr .u64 (W.getD k 0) (bShl .u64 1 (i.tmod 64)) = ((w ||| 2 ^ (i.toNat % 64) : Nat) : Int) := by
    rw [hq, hw, bShl_nat (Nat.mod_lt _ (by decide)), bOr_nat hw2 hp]
  have hor : w ||| 2 ^ (i.toNat % 64) < 18446744073709551616 := by
    have : w ||| 2 ^ (i.toNat % 64) < 2 ^ 64 := Nat.or_lt_two_pow (by omega) (by omega)
    simpa using this
  have hs : setBit W i = W.set k ((w ||| 2 ^ (i.toNat % 64) : Nat) : Int) := by unfold setBit; rw [hk, hv]
  have hok : okW (setBit W i) := by
    intro j
    rw [hs]
    by_cases hj : j = k ∧ k < W.length
    · rw [hj.1, List.getD_eq_getElem?_getD, List.getElem?_set_self hj.2]; simp; omega
    · have : (W.set k ((w ||| 2 ^ (i.toNat % 64) : Nat) : Int)).getD j 0 = W.getD j 0 := by
        rw [List.getD_eq_getElem?_getD, List.getD_eq_getElem?_getD]
        by_cases hjk : k = j
        · subst hjk
          rw [List.getElem?_eq_none (by simp; omega), List.getElem?_eq_none (by omega)]
        · rw [List.getElem?_set_ne hjk]
      rw [this]; exact h j
  refine ⟨hok, fun j hj hl => ?_⟩
  rw [hasW_bit hj (hok _).1, hasW_bit hj (h _).1]
  rw [hs]
  have hjq : (j.tdiv 64).toNat = j.toNat / 64 := by rw [Int.tdiv_eq_ediv_of_nonneg hj]; omega
  have hiq : k = i.toNat / 64 := by rw [← hk, Int.tdiv_eq_ediv_of_nonneg h0]; omega
  rw [hjq] at hl ⊢
  by_cases hjk : j.toNat / 64 = k
  · rw [hjk] at hl ⊢
    rw [List.getD_eq_getElem?_getD, List.getElem?_set_self hl, Option.getD_some, Int.toNat_natCast, Nat.testBit_or, Nat.testBit_two_pow, hw, Int.toNat_natCast, Bool.or_comm]
    congr 1
    by_cases e : i = j
    · subst e; simp
    · have : i.toNat % 64 ≠ j.toNat % 64 := by omega
      simp [e, this]
  · rw [List.getD_eq_getElem?_getD, List.getElem?_set_ne (fun e => hjk e.symm), ← List.getD_eq_getElem?_getD]
    have e : i ≠ j := by rintro rfl; exact hjk hiq.symm
    simp [e]
theorem okW_zero (n : Nat) : okW (List.replicate n 0) := fun i => by
  rw [List.getD_eq_getElem?_getD, List.getElem?_replicate]; split <;> simp
theorem setW_has (b : List Bool) : ∀ j, j ≤ b.length → okW (setW b j) ∧ ∀ i : Nat, i < b.length → hasW (setW b j) i = (decide (i < j) && b.getD i false)
  | 0, _ => ⟨by unfold setW; exact okW_zero _, fun i hi => by
      have : hasW (List.replicate (wordsN b.length).toNat 0) i = false := by
        rw [hasW_bit (by omega) (okW_zero _ _).1]
        have : (List.replicate (wordsN b.length).toNat (0 : Int)).getD ((i : Int).tdiv 64).toNat 0 = 0 := by
          rw [List.getD_eq_getElem?_getD, List.getElem?_replicate]; split <;> rfl
        rw [this]; simp
      simpa [setW] using this⟩
  | j + 1, hj => by
    obtain ⟨h1, h2⟩ := setW_has b j (by omega)
    rw [setW_succ]
    by_cases hb : b.getD j false = true
    · rw [if_pos hb]
      obtain ⟨h3, h4⟩ := h1.set (i := (j : Int)) (by omega)
      refine ⟨h3, fun i hi => ?_⟩
      rw [h4 i (by omega) (by rw [setW_len]; have := div64_rng (i := (i : Int)) (n := b.length) (by omega) (by omega); omega), h2 i hi]
      by_cases e : j = i
      · subst e; rw [hb]; simp
      · have : ((j : Int) = (i : Int)) = False := by simp; omega
        simp only [this, decide_false, Bool.false_or]
        congr 1
        simp; omega
    · rw [if_neg hb]
      refine ⟨h1, fun i hi => ?_⟩
      rw [h2 i hi]
      by_cases e : j = i
      · subst e
        have : b.getD j false = false := by simpa using hb
        rw [this]; simp
      · congr 1
        simp; omega
theorem setW_mem {b : List Bool} {i : Int} (h0 : 0 ≤ i) (h1 : i < b.length) : hasW (setW b b.length) i = b.getD i.toNat false := by
  obtain ⟨m, rfl⟩ : ∃ m : Nat, i = m := ⟨_, (Int.toNat_of_nonneg h0).symm⟩
  rw [(setW_has b b.length (Nat.le_refl _)).2 m (by omega)]
  have : m < b.length := by omega
  simp [this]
theorem bAnd_nat {a b : Nat} (ha : a < 18446744073709551616) (hb : b < 18446744073709551616) : bAnd .u64 (a : Int) (b : Int) = ((a &&& b : Nat) : Int) := by
  unfold bAnd
  have e : (BitVec.ofInt IntKind.u64.bits (a : Int) &&& BitVec.ofInt IntKind.u64.bits (b : Int)).toNat = a &&& b := by
    show (BitVec.ofInt 64 (a : Int) &&& BitVec.ofInt 64 (b : Int) : BitVec 64).toNat = _
    rw [BitVec.toNat_and, BitVec.ofInt_natCast, BitVec.ofInt_natCast, BitVec.toNat_ofNat, BitVec.toNat_ofNat, Nat.mod_eq_of_lt (by omega), Nat.mod_eq_of_lt (by omega)]
  rw [e]
  have : a &&& b < 2 ^ 64 := Nat.and_lt_two_pow _ (by omega)
  simp [IntKind.wrap, IntKind.signed, IntKind.bits]
  omega
/-- A bit, as the program asks for it. -/
def bitW (M i : Int) : Int := bAnd .u64 (bShr .u64 M i) 1
theorem bitW_nat {m i : Nat} (hm : m < 18446744073709551616) (hi : i < 64) : bitW m i = if m.testBit i then 1 else 0 := by
  unfold bitW
  have hs : m >>> i ≤ m := by rw [Nat.shiftRight_eq_div_pow]; exact Nat.div_le_self _ _
  rw [bShr_nat hi, show (1 : Int) = ((1 : Nat) : Int) from rfl, bAnd_nat (by omega) (by decide), Nat.and_one_is_mod, Nat.testBit_eq_decide_div_mod_eq, Nat.shiftRight_eq_div_pow]
  generalize m / 2 ^ i = d
  rcases Nat.mod_two_eq_zero_or_one d with h | h <;> simp [h]
theorem setW_hasA (b : List Bool) : ∀ j, j ≤ b.length → okW (setW b j) ∧ ∀ i : Nat, ((i : Int).tdiv 64).toNat < (wordsN b.length).toNat → hasW (setW b j) i = (decide (i < j) && b.getD i false)
  | 0, _ => ⟨by unfold setW; exact okW_zero _, fun i hi => by
      have : hasW (List.replicate (wordsN b.length).toNat 0) i = false := by
        rw [hasW_bit (by omega) (okW_zero _ _).1]
        have : (List.replicate (wordsN b.length).toNat (0 : Int)).getD ((i : Int).tdiv 64).toNat 0 = 0 := by
          rw [List.getD_eq_getElem?_getD, List.getElem?_replicate]; split <;> rfl
        rw [this]; simp
      simpa [setW] using this⟩
  | j + 1, hj => by
    obtain ⟨h1, h2⟩ := setW_hasA b j (by omega)
    rw [setW_succ]
    by_cases hb : b.getD j false = true
    · rw [if_pos hb]
      obtain ⟨h3, h4⟩ := h1.set (i := (j : Int)) (by omega)
      refine ⟨h3, fun i hi => ?_⟩
      rw [h4 i (by omega) (by rw [setW_len]; exact hi), h2 i hi]
      by_cases e : j = i
      · subst e; rw [hb]; simp
      · have : ((j : Int) = (i : Int)) = False := by simp; omega
        simp only [this, decide_false, Bool.false_or]
        congr 1
        simp; omega
    · rw [if_neg hb]
      refine ⟨h1, fun i hi => ?_⟩
      rw [h2 i hi]
      by_cases e : j = i
      · subst e
        have : b.getD j false = false := by simpa using hb
        rw [this]; simp
      · congr 1
        simp; omega
theorem bit_hasW {W : List Int} (hW : okW W) {i : Int} (h0 : 0 ≤ i) : decide (bAnd .u64 (bShr .u64 (W.getD (i.tdiv 64).toNat 0) (i.tmod 64)) 1 = 1) = hasW W i := by
  rw [hasW_bit h0 (hW _).1]
  obtain ⟨w, hw⟩ : ∃ w : Nat, W.getD (i.tdiv 64).toNat 0 = w := ⟨_, (Int.toNat_of_nonneg (hW _).1).symm⟩
  have hw2 := (hW (i.tdiv 64).toNat).2
  rw [hw] at hw2 ⊢
  have e : i.tmod 64 = ((i.toNat % 64 : Nat) : Int) := by rw [Int.tmod_eq_emod_of_nonneg h0]; omega
  have := bitW_nat (m := w) (i := i.toNat % 64) (by omega) (Nat.mod_lt _ (by decide))
  unfold bitW at this
  rw [e, this, Int.toNat_natCast]
  cases w.testBit (i.toNat % 64) <;> simp
def topB (N : Int) (W : List Int) : Bool := decide (N.tmod 64 = 0) || decide (bShr .u64 (W.getD (W.length - 1) 0) (N.tmod 64) = 0)
def validS (N : Int) (W : List Int) : Bool := decide (0 ≤ N) && decide (N ≤ 512) && decide ((W.length : Int) = wordsN N) && topB N W
theorem validS_sz {N : Int} {W : List Int} (h : validS N W = true) : 0 ≤ N ∧ N ≤ 512 ∧ (W.length : Int) = wordsN N := by
  simp only [validS, Bool.and_eq_true, decide_eq_true_eq] at h; exact ⟨h.1.1.1, h.1.1.2, h.1.2⟩
/-- Who says that a member is one. -/
def memS (N : Int) (W : List Int) (i : Int) : Bool := validS N W && decide (0 ≤ i) && decide (i < N) && hasW W i
theorem wordsN_ref (N : Int) : (N + 63).tdiv 64 = wordsN N := by unfold wordsN; congr 1; omega
theorem top_ix {N : Int} {W : List Int} (h0 : 0 ≤ N) (hl : (W.length : Int) = wordsN N) (hm : N.tmod 64 ≠ 0) : (N.tdiv 64).toNat = W.length - 1 ∧ N.tdiv 64 < W.length := by
  unfold wordsN at hl
  rw [Int.tdiv_eq_ediv_of_nonneg (by omega)] at hl ⊢
  rw [Int.tmod_eq_emod_of_nonneg h0] at hm
  omega
theorem shr_zero {w k : Nat} (h : ∀ i, k ≤ i → w.testBit i = false) : w >>> k = 0 := by
  refine Nat.eq_of_testBit_eq fun i => ?_
  rw [Nat.testBit_shiftRight, Nat.zero_testBit]
  exact h _ (by omega)
theorem validS_setW {b : List Bool} (hb : b.length ≤ 512) : validS b.length (setW b b.length) = true := by
  obtain ⟨ho, hh⟩ := setW_hasA b b.length (Nat.le_refl _)
  have hwn := wordsN_rng (n := (b.length : Int)) (by omega)
  have hl := setW_len b b.length
  simp only [validS, Bool.and_eq_true, decide_eq_true_eq]
  refine ⟨⟨⟨by omega, by omega⟩, by rw [hl]; omega⟩, ?_⟩
  simp only [topB, Bool.or_eq_true, decide_eq_true_eq]
  by_cases hm : (b.length : Int).tmod 64 = 0
  · exact .inl hm
  · right
    have hix := top_ix (N := (b.length : Int)) (W := setW b b.length) (by omega) (by rw [hl]; omega) hm
    rw [Int.tmod_eq_emod_of_nonneg (by omega)] at hm ⊢
    rw [Int.tdiv_eq_ediv_of_nonneg (by omega)] at hix
    generalize hW : setW b b.length = W at *
    have hw := ho (W.length - 1)
    obtain ⟨w, hw1⟩ : ∃ w : Nat, W.getD (W.length - 1) 0 = w := ⟨_, (Int.toNat_of_nonneg hw.1).symm⟩
    rw [hw1] at hw ⊢
    rw [show ((b.length : Int) % 64) = ((b.length % 64 : Nat) : Int) by omega, bShr_nat (Nat.mod_lt _ (by decide)), shr_zero]
    · rfl
    · intro i hi
      by_cases h64 : i < 64
      · have hq : (((64 * (W.length - 1) + i : Nat) : Int).tdiv 64).toNat = W.length - 1 := by rw [Int.tdiv_eq_ediv_of_nonneg (by omega)]; omega
        have := hh (64 * (W.length - 1) + i) (by rw [hq]; omega)
        rw [hasW_bit (by omega) (by rw [hq, hw1]; omega), hq, hw1, Int.toNat_natCast, Int.toNat_natCast, show (64 * (W.length - 1) + i) % 64 = i by omega] at this
        rw [this]
        have : ¬ 64 * (W.length - 1) + i < b.length := by omega
        simp [this]
      · refine Nat.testBit_lt_two_pow (Nat.lt_of_lt_of_le (m := 2 ^ 64) (by simp only [zP]; omega) (Nat.pow_le_pow_right (by decide) (by omega)))
end Go.AM

/- The first that a test finds. -/
namespace Go.AM
def ixf {α : Type} (p : α → Bool) (l : List α) : Int := if l.any p then (l.findIdx p : Nat) else -1
theorem ixf_at {α : Type} {p : α → Bool} {l : List α} {j : Nat} {x : α} (hx : l[j]? = some x) (hp : p x = true) (h : (l.take j).any p = false) : ixf p l = j := by
  obtain ⟨hj, rfl⟩ := List.getElem?_eq_some_iff.1 hx
  have h1 : l.any p = true := List.any_eq_true.2 ⟨_, List.getElem_mem hj, hp⟩
  unfold ixf
  rw [if_pos h1, (List.findIdx_eq hj).2 ⟨hp, fun i hi => ?_⟩]
  have : ¬ p (l[i]'(by omega)) = true := fun hh => by
    have : (l.take j).any p = true := List.any_eq_true.2 ⟨l[i]'(by omega), by rw [List.mem_take_iff_getElem]; exact ⟨i, by omega, rfl⟩, hh⟩
    rw [this] at h; cases h
  simpa using this
theorem ixf_none {α : Type} {p : α → Bool} {l : List α} (h : l.any p = false) : ixf p l = -1 := by unfold ixf; rw [if_neg (by rw [h]; simp)]
theorem any_take_succ {α : Type} {p : α → Bool} {l : List α} {j : Nat} {x : α} (hx : l[j]? = some x) : (l.take (j + 1)).any p = ((l.take j).any p || p x) := by
  obtain ⟨hj, rfl⟩ := List.getElem?_eq_some_iff.1 hx
  rw [List.take_succ_eq_append_getElem hj, List.any_append]; simp
theorem ixf_ge {α : Type} (p : α → Bool) (l : List α) : (decide (0 ≤ ixf p l)) = l.any p := by
  unfold ixf
  cases h : l.any p <;> simp
end Go.AM

/- Sets as words, and as lists of truths. -/
namespace Go.AM
theorem getD_ext {a b : List Int} (hl : a.length = b.length) (h : ∀ k, k < a.length → a.getD k 0 = b.getD k 0) : a = b := by
  refine List.ext_getElem hl fun i h1 h2 => ?_
  have := h i h1
  simpa [List.getD_eq_getElem?_getD, h1, h2] using this
theorem getD_extB {a b : List Bool} (hl : a.length = b.length) (h : ∀ k, k < a.length → a.getD k false = b.getD k false) : a = b := by
  refine List.ext_getElem hl fun i h1 h2 => ?_
  have := h i h1
  simpa [List.getD_eq_getElem?_getD, h1, h2] using this
theorem tdiv64 (i : Nat) : ((i : Int).tdiv 64).toNat = i / 64 := by rw [Int.tdiv_eq_ediv_of_nonneg (by omega)]; omega
theorem hasW_nat {W : List Int} (hW : okW W) (i : Nat) : hasW W i = (W.getD (i / 64) 0).toNat.testBit (i % 64) := by
  rw [hasW_bit (by omega) (hW _).1, tdiv64, Int.toNat_natCast]
/-- Words are told by their bits. -/
theorem words_ext {a b : List Int} (ha : okW a) (hb : okW b) (hl : a.length = b.length) (h : ∀ i : Nat, i < 64 * a.length → hasW a i = hasW b i) : a = b := by
  refine getD_ext hl fun k hk => ?_
  have h1 := ha k
  have h2 := hb k
  have : (a.getD k 0).toNat = (b.getD k 0).toNat := by
    refine Nat.eq_of_testBit_eq fun i => ?_
    by_cases hi : i < 64
    · have := h (64 * k + i) (by omega)
      rw [hasW_nat ha, hasW_nat hb, show (64 * k + i) / 64 = k by omega, show (64 * k + i) % 64 = i by omega] at this
      exact this
    · have hp : 2 ^ 64 ≤ 2 ^ i := Nat.pow_le_pow_right (by decide) (by omega)
      simp only [zP] at hp
      rw [Nat.testBit_lt_two_pow (by omega), Nat.testBit_lt_two_pow (by omega)]
  omega
theorem setW_ok (b : List Bool) : okW (setW b b.length) := (setW_hasA b b.length (Nat.le_refl _)).1
theorem setW_len' (b : List Bool) : (setW b b.length).length = (wordsN b.length).toNat := setW_len b b.length
theorem hasW_setW (b : List Bool) {i : Nat} (hi : i / 64 < (setW b b.length).length) : hasW (setW b b.length) i = b.getD i false := by
  rw [setW_len'] at hi
  rw [(setW_hasA b b.length (Nat.le_refl _)).2 i (by rw [tdiv64]; exact hi)]
  by_cases h : i < b.length
  · simp [h]
  · rw [Go.AM.getD_out (by omega)]; simp
theorem div_words {n i : Nat} (h : i < n) : i / 64 < (wordsN n).toNat := by
  have := wordsN_rng (n := (n : Int)) (by omega)
  omega
/-- A valid set is that of its members. -/
theorem setW_of {N : Int} {W : List Int} (hW : okW W) (hv : validS N W = true) : ∃ b : List Bool, (b.length : Int) = N ∧ W = setW b b.length := by
  obtain ⟨h0, h1, h2⟩ := validS_sz hv
  have hwn := wordsN_rng (n := N) h0
  obtain ⟨b, hb⟩ : ∃ b : List Bool, b = (List.range N.toNat).map fun i => hasW W (i : Nat) := ⟨_, rfl⟩
  have hbl : b.length = N.toNat := by rw [hb]; simp
  have hbN : (b.length : Int) = N := by omega
  refine ⟨b, hbN, words_ext hW (setW_ok b) (by rw [setW_len', hbN]; omega) fun i hi => ?_⟩
  rw [hasW_setW b (by rw [setW_len', hbN]; omega)]
  by_cases h : i < N.toNat
  · rw [hb]; simp [List.getD_eq_getElem?_getD, h]
  · rw [Go.AM.getD_out (by omega), hasW_nat hW]
    simp only [validS, topB, Bool.and_eq_true, Bool.or_eq_true, decide_eq_true_eq] at hv
    have ht := hv.2
    by_cases hm : N.tmod 64 = 0
    · exfalso
      rw [Int.tmod_eq_emod_of_nonneg h0] at hm
      omega
    · have ht := ht.resolve_left hm
      have hix := top_ix h0 h2 hm
      rw [Int.tmod_eq_emod_of_nonneg h0] at hm ht
      have hw := hW (W.length - 1)
      rw [show N % 64 = ((N.toNat % 64 : Nat) : Int) by omega] at ht
      obtain ⟨w, hw1⟩ : ∃ w : Nat, W.getD (W.length - 1) 0 = w := ⟨_, (Int.toNat_of_nonneg hw.1).symm⟩
      rw [hw1, bShr_nat (Nat.mod_lt _ (by decide))] at ht
      rw [Int.tdiv_eq_ediv_of_nonneg h0] at hix
      have hq : i / 64 = W.length - 1 := by omega
      rw [hq, hw1, Int.toNat_natCast]
      have hz : w >>> (N.toNat % 64) = 0 := by exact_mod_cast ht
      have := congrArg (fun x => x.testBit (i % 64 - N.toNat % 64)) hz
      simp only [Nat.testBit_shiftRight, Nat.zero_testBit] at this
      rwa [show N.toNat % 64 + (i % 64 - N.toNat % 64) = i % 64 by omega] at this
theorem setBit_len (W : List Int) (i : Int) : (setBit W i).length = W.length := by simp [setBit]
theorem getD_setB (b : List Bool) (i j : Nat) (x : Bool) : (b.set i x).getD j false = if i = j ∧ i < b.length then x else b.getD j false := by
  by_cases h : i = j
  · subst h
    by_cases h2 : i < b.length
    · rw [Go.AM.getD_set_eq h2, if_pos ⟨rfl, h2⟩]
    · rw [List.set_eq_of_length_le (by omega), if_neg (by omega)]
  · rw [Go.AM.getD_set_ne h, if_neg (by rintro ⟨a, _⟩; exact h a)]
theorem setBit_setW (b : List Bool) {i : Nat} (h : i < b.length) : setBit (setW b b.length) (i : Int) = setW (b.set i true) b.length := by
  have h1 := (setW_ok b).set (i := (i : Int)) (by omega)
  have hl : (b.set i true).length = b.length := by simp
  have h2 := setW_ok (b.set i true)
  have h3 := fun (j : Nat) => hasW_setW (b.set i true) (i := j)
  have h4 := setW_len' (b.set i true)
  rw [hl] at h2 h3 h4
  refine words_ext h1.1 h2 (by rw [setBit_len, setW_len', h4]) fun j hj => ?_
  rw [setBit_len, setW_len'] at hj
  rw [h1.2 j (by omega) (by rw [tdiv64, setW_len']; omega), h3 _ (by omega), hasW_setW b (by rw [setW_len']; omega), getD_setB]
  by_cases e : i = j
  · subst e; simp [h]
  · have : ((i : Int) = (j : Int)) = False := by simp; omega
    simp [e, this]
theorem setW_zero (n : Nat) : setW (List.replicate n false) n = List.replicate (wordsN n).toNat 0 := by
  have hl : (List.replicate n false).length = n := by simp
  have h2 := setW_ok (List.replicate n false)
  have h3 := fun (j : Nat) => hasW_setW (List.replicate n false) (i := j)
  have h4 := setW_len' (List.replicate n false)
  rw [hl] at h2 h3 h4
  refine words_ext h2 (okW_zero _) (by rw [h4]; simp) fun j hj => ?_
  rw [h3 _ (by omega), hasW_nat (okW_zero _)]
  have e1 : (List.replicate n false).getD j false = false := by rw [List.getD_eq_getElem?_getD, List.getElem?_replicate]; split <;> rfl
  have e2 : (List.replicate (wordsN n).toNat (0 : Int)).getD (j / 64) 0 = 0 := by rw [List.getD_eq_getElem?_getD, List.getElem?_replicate]; split <;> rfl
  rw [e1, e2]; simp
/-- A word is made of two. -/
theorem zipW_get (f : Int → Int → Int) {A B : List Int} (hl : A.length = B.length) {k : Nat} (hk : k < A.length) : (List.zipWith f A B).getD k 0 = f (A.getD k 0) (B.getD k 0) := by
  simp [List.getD_eq_getElem?_getD, List.getElem?_zipWith, hk, show k < B.length by omega]
theorem zipB_get (f : Bool → Bool → Bool) {a b : List Bool} (hl : a.length = b.length) {k : Nat} (hk : k < a.length) : (List.zipWith f a b).getD k false = f (a.getD k false) (b.getD k false) := by
  simp [List.getD_eq_getElem?_getD, List.getElem?_zipWith, hk, show k < b.length by omega]
structure BitOp (f : Int → Int → Int) (g : Bool → Bool → Bool) : Prop where
  rng : ∀ a b : Int, 0 ≤ a → a < 18446744073709551616 → 0 ≤ b → b < 18446744073709551616 → 0 ≤ f a b ∧ f a b < 18446744073709551616
  bit : ∀ (a b : Int) (i : Nat), 0 ≤ a → a < 18446744073709551616 → 0 ≤ b → b < 18446744073709551616 → i < 64 → (f a b).toNat.testBit i = g (a.toNat.testBit i) (b.toNat.testBit i)
  zer : g false false = false
theorem zipW_setW {f : Int → Int → Int} {g : Bool → Bool → Bool} (hf : BitOp f g) {a b : List Bool} (hl : a.length = b.length) : List.zipWith f (setW a a.length) (setW b b.length) = setW (List.zipWith g a b) a.length := by
  have hzl : (List.zipWith g a b).length = a.length := by simp; omega
  have ha := setW_ok a
  have hb := setW_ok b
  have hla := setW_len' a
  have hlb := setW_len' b
  have h2 := setW_ok (List.zipWith g a b)
  have h3 := fun (j : Nat) => hasW_setW (List.zipWith g a b) (i := j)
  have h4 := setW_len' (List.zipWith g a b)
  rw [hzl] at h2 h3 h4
  have hll : (setW a a.length).length = (setW b b.length).length := by rw [hla, hlb, hl]
  have hok : okW (List.zipWith f (setW a a.length) (setW b b.length)) := fun k => by
    by_cases hk : k < (setW a a.length).length
    · rw [zipW_get f hll hk]
      exact hf.rng _ _ (ha k).1 (ha k).2 (hb k).1 (hb k).2
    · rw [Go.AM.getD_out (by simp; omega)]; simp
  refine words_ext hok h2 (by rw [List.length_zipWith, ← hll, hla, h4]; omega) fun i hi => ?_
  simp only [List.length_zipWith] at hi
  have hia : i / 64 < (setW a a.length).length := by omega
  rw [hasW_nat hok, zipW_get f hll hia, hf.bit _ _ _ (ha _).1 (ha _).2 (hb _).1 (hb _).2 (Nat.mod_lt _ (by decide)), ← hasW_nat ha, ← hasW_nat hb, hasW_setW a hia, hasW_setW b (by omega), h3 _ (by omega)]
  by_cases h : i < a.length
  · rw [zipB_get g hl h]
  · rw [Go.AM.getD_out (by omega), Go.AM.getD_out (by omega), Go.AM.getD_out (by omega), hf.zer]
theorem nat_of {a : Int} (h : 0 ≤ a) : ∃ n : Nat, a = n := ⟨a.toNat, by omega⟩
theorem bitOp_or : BitOp (bOr .u64) (· || ·) := by
  refine ⟨fun a b h1 h2 h3 h4 => ?_, fun a b i h1 h2 h3 h4 _ => ?_, rfl⟩
  · obtain ⟨m, rfl⟩ := nat_of h1; obtain ⟨n, rfl⟩ := nat_of h3
    rw [bOr_nat (by omega) (by omega)]
    have : m ||| n < 2 ^ 64 := Nat.or_lt_two_pow (by omega) (by omega)
    simp only [zP] at this; omega
  · obtain ⟨m, rfl⟩ := nat_of h1; obtain ⟨n, rfl⟩ := nat_of h3
    rw [bOr_nat (by omega) (by omega), Int.toNat_natCast, Nat.testBit_or]; rfl
theorem bAndNot_bv {a b : Nat} (ha : a < 18446744073709551616) (hb : b < 18446744073709551616) : bAndNot .u64 (a : Int) (b : Int) = ((BitVec.ofNat 64 a &&& ~~~ BitVec.ofNat 64 b).toNat : Int) := by
  unfold bAndNot
  have e : (BitVec.ofInt IntKind.u64.bits (a : Int) &&& ~~~ BitVec.ofInt IntKind.u64.bits (b : Int)).toNat = (BitVec.ofNat 64 a &&& ~~~ BitVec.ofNat 64 b).toNat := by
    show (BitVec.ofInt 64 (a : Int) &&& ~~~ BitVec.ofInt 64 (b : Int) : BitVec 64).toNat = _
    rw [BitVec.ofInt_natCast, BitVec.ofInt_natCast]
  rw [e]
  have := (BitVec.ofNat 64 a &&& ~~~ BitVec.ofNat 64 b).isLt
  generalize (BitVec.ofNat 64 a &&& ~~~ BitVec.ofNat 64 b).toNat = x at *
  simp only [zP] at this
  simp [IntKind.wrap, IntKind.signed, IntKind.bits]
  omega
theorem bitOp_andNot : BitOp (bAndNot .u64) (fun x y => x && !y) := by
  refine ⟨fun a b h1 h2 h3 h4 => ?_, fun a b i h1 h2 h3 h4 hi => ?_, rfl⟩
  · obtain ⟨m, rfl⟩ := nat_of h1; obtain ⟨n, rfl⟩ := nat_of h3
    rw [bAndNot_bv (by omega) (by omega)]
    have := (BitVec.ofNat 64 m &&& ~~~ BitVec.ofNat 64 n).isLt
    simp only [zP] at this; omega
  · obtain ⟨m, rfl⟩ := nat_of h1; obtain ⟨n, rfl⟩ := nat_of h3
    rw [bAndNot_bv (by omega) (by omega), Int.toNat_natCast, BitVec.testBit_toNat, BitVec.getLsbD_and, BitVec.getLsbD_not, BitVec.getLsbD_ofNat, BitVec.getLsbD_ofNat]
    simp [hi]
end Go.AM

/- Relations as tables of truths. -/
namespace Go.AM
def rowV (x : USet) : List AV := [.int .i64 x.N, .rsl 1 (words x.W)]
def rowB (b : List Bool) : List AV := [.int .i64 b.length, .rsl 1 (words (setW b b.length))]
def rowO (b : List Bool) : List AV := [.int .i64 b.length, .osl 1 (words (setW b b.length))]
def tabR (t : List (List Bool)) : List (List AV) := t.map rowB
def tabO (t : List (List Bool)) : List (List AV) := t.map rowO
def SB (b : List Bool) : USet := ⟨b.length, setW b b.length⟩
theorem tabR_SB (t : List (List Bool)) : tabR t = (t.map SB).map rowV := by simp [tabR, rowB, SB, rowV]
def relB (t : List (List Bool)) : AV := .agg [.rsl 2 (tabR t)]
def relV (rs : List USet) : AV := .agg [.rsl 2 (rs.map rowV)]
theorem relB_SB (t : List (List Bool)) : relB t = relV (t.map SB) := by rw [relB, relV, tabR_SB]
structure Sq (n : Nat) (t : List (List Bool)) : Prop where
  len : t.length = n
  row : ∀ b ∈ t, b.length = n
def rowT (t : List (List Bool)) (i : Nat) : List Bool := t.getD i []
def atT (t : List (List Bool)) (i j : Nat) : Bool := (rowT t i).getD j false
theorem Sq.rowLen {n : Nat} {t : List (List Bool)} (h : Sq n t) {i : Nat} (hi : i < n) : (rowT t i).length = n := h.row _ (mem_getD (by rw [h.len]; exact hi) _)
theorem Sq.set {n : Nat} {t : List (List Bool)} (h : Sq n t) (i : Nat) {b : List Bool} (hb : b.length = n) : Sq n (t.set i b) :=
  ⟨by simp [h.len], fun c hc => by rcases List.mem_or_eq_of_mem_set hc with h1 | h1; exact h.row c h1; rw [h1, hb]⟩
theorem Sq.rep (n : Nat) : Sq n (List.replicate n (List.replicate n false)) := ⟨by simp, fun b hb => by rw [List.eq_of_mem_replicate hb]; simp⟩
theorem rowT_set (t : List (List Bool)) (i k : Nat) (b : List Bool) : rowT (t.set i b) k = if i = k ∧ i < t.length then b else rowT t k := by
  unfold rowT
  by_cases h : i = k
  · subst h
    by_cases h2 : i < t.length
    · rw [Go.AM.getD_set_eq h2, if_pos ⟨rfl, h2⟩]
    · rw [List.set_eq_of_length_le (by omega), if_neg (by omega)]
  · rw [Go.AM.getD_set_ne h, if_neg (by rintro ⟨a, _⟩; exact h a)]
theorem rowT_of {t : List (List Bool)} {i : Nat} {b : List Bool} (h : t[i]? = some b) : rowT t i = b := getD_of h _
theorem rowT_get {t : List (List Bool)} {i : Nat} (h : i < t.length) : t[i]? = some (rowT t i) := by unfold rowT; simp [List.getD_eq_getElem?_getD, h]
theorem atT_rep (n i j : Nat) : atT (List.replicate n (List.replicate n false)) i j = false := by
  unfold atT rowT
  rw [List.getD_eq_getElem?_getD (l := List.replicate n (List.replicate n false)), List.getElem?_replicate]
  split
  · simp only [Option.getD_some]; rw [List.getD_eq_getElem?_getD, List.getElem?_replicate]; split <;> rfl
  · rfl
theorem tab_ext {n : Nat} {t u : List (List Bool)} (ht : Sq n t) (hu : Sq n u) (h : ∀ i j, i < n → j < n → atT t i j = atT u i j) : t = u := by
  refine List.ext_getElem (by rw [ht.len, hu.len]) fun i h1 h2 => ?_
  have hi : i < n := by rw [← ht.len]; exact h1
  have e1 : rowT t i = t[i] := rowT_of (List.getElem?_eq_getElem h1)
  have e2 : rowT u i = u[i] := rowT_of (List.getElem?_eq_getElem h2)
  rw [← e1, ← e2]
  refine getD_extB (by rw [ht.rowLen hi, hu.rowLen hi]) fun k hk => h i k hi (by rw [ht.rowLen hi] at hk; exact hk)
def validR (rs : List USet) : Bool := decide (rs.length ≤ 512) && rs.all fun x => decide (x.N = rs.length) && validS x.N x.W
theorem all_map {α β : Type} {f : α → β} {p : α → Prop} : ∀ {l : List β}, (∀ x ∈ l, ∃ a, x = f a ∧ p a) → ∃ m : List α, l = m.map f ∧ ∀ a ∈ m, p a
  | [], _ => ⟨[], rfl, fun _ h => by cases h⟩
  | x :: l, h => by
    obtain ⟨a, rfl, ha⟩ := h x (List.mem_cons_self ..)
    obtain ⟨m, rfl, hm⟩ := all_map fun y hy => h y (List.mem_cons_of_mem _ hy)
    exact ⟨a :: m, rfl, fun b hb => by rcases List.mem_cons.1 hb with rfl | hb; exact ha; exact hm b hb⟩
/-- A valid relation is a table. -/
theorem rel_of {rs : List USet} (hok : ∀ x ∈ rs, okW x.W) (hv : validR rs = true) : ∃ t, rs = t.map SB ∧ Sq rs.length t ∧ rs.length ≤ 512 := by
  simp only [validR, Bool.and_eq_true, decide_eq_true_eq, List.all_eq_true] at hv
  obtain ⟨h1, h2⟩ := hv
  obtain ⟨t, ht, hb⟩ := all_map (f := SB) (p := fun b => b.length = rs.length) (l := rs) fun x hx => by
    obtain ⟨b, g1, g2⟩ := setW_of (hok x hx) (h2 x hx).2
    have := (h2 x hx).1
    refine ⟨b, ?_, by omega⟩
    obtain ⟨N, W⟩ := x
    simp only [SB] at *
    rw [g1, g2]
  exact ⟨t, ht, ⟨by rw [ht]; simp, hb⟩, h1⟩
theorem valid_tab {n : Nat} {t : List (List Bool)} (h : Sq n t) (hn : n ≤ 512) : validR (t.map SB) = true := by
  simp only [validR, Bool.and_eq_true, decide_eq_true_eq, List.all_eq_true, List.length_map, h.len]
  refine ⟨hn, fun x hx => ?_⟩
  obtain ⟨b, hb, rfl⟩ := List.mem_map.1 hx
  have hbl := h.row b hb
  exact ⟨by simp [SB, hbl], validS_setW (by omega)⟩
section
variable (s : Store) (d : Nat) (m : Ref → Option Ref)
theorem vwc_tabO (t : List (List Bool)) : (tabO t).map (fun cs => cs.map (vwc s (d + 1))) = tabR t := by simp [tabO, tabR, rowO, rowB, vwc_osl, vwc_int, vw_words]
theorem vwcF_tabO (t : List (List Bool)) : (tabO t).map (fun cs => cs.map (vwcF s (d + 1))) = tabR t := by simp [tabO, tabR, rowO, rowB, vwcF_osl, vwcF_int, vwF_words]
theorem vwc_tabR (t : List (List Bool)) : (tabR t).map (fun cs => cs.map (vwc s d)) = tabR t := by simp [tabR, rowB, vwc_int, vwc_rsl]
theorem renC_tabO (t : List (List Bool)) : (tabO t).map (fun row => row.map (renC m d)) = tabO t := by simp [tabO, rowO, renC, ren_int, ren_words]
end
theorem tabO_len (t : List (List Bool)) : (tabO t).length = t.length := by simp [tabO]
theorem tabR_len (t : List (List Bool)) : (tabR t).length = t.length := by simp [tabR]
theorem tabO_get {t : List (List Bool)} {i : Nat} (h : i < t.length) : (tabO t).getD i [] = rowO (rowT t i) := getV (rowT_get h)
theorem tabR_get {t : List (List Bool)} {i : Nat} (h : i < t.length) : (tabR t).getD i [] = rowB (rowT t i) := getV (rowT_get h)
theorem tabO_set (t : List (List Bool)) (i : Nat) (b : List Bool) : (tabO t).set i (rowO b) = tabO (t.set i b) := by simp [tabO, List.map_set]
theorem tabO_app (t : List (List Bool)) (b : List Bool) : tabO t ++ [rowO b] = tabO (t ++ [b]) := by simp [tabO]
theorem hasW_row {b : List Bool} {j : Nat} (h : j < b.length) : hasW (setW b b.length) (j : Int) = b.getD j false := hasW_setW b (by rw [setW_len']; exact div_words h)
/-! ### Truths in rows, for the reference. -/
def rowsR (t : List (List Bool)) : List (List AV) := t.map fun b => [.rsl 1 (bools b)]
def rowsO (t : List (List Bool)) : List (List AV) := t.map fun b => [.osl 1 (bools b)]
section
variable (s : Store) (d : Nat) (m : Ref → Option Ref)
theorem vwc_rowsO (t : List (List Bool)) : (rowsO t).map (fun cs => cs.map (vwc s (d + 1))) = rowsR t := by
  have e : ∀ b : List Bool, (bools b).map (fun row => row.map (vw s (d + 1))) = bools b := fun b => by
    have : ∀ x : Bool, vw s (d + 1) (.bool x) = .bool x := fun x => rfl
    simp [bools, this]
  simp [rowsO, rowsR, vwc_osl, e]
theorem vwc_rowsR (t : List (List Bool)) : (rowsR t).map (fun cs => cs.map (vwc s d)) = rowsR t := by simp [rowsR, vwc_rsl]
end
theorem rowsO_len (t : List (List Bool)) : (rowsO t).length = t.length := by simp [rowsO]
theorem rowsR_len (t : List (List Bool)) : (rowsR t).length = t.length := by simp [rowsR]
theorem rowsO_get {t : List (List Bool)} {i : Nat} (h : i < t.length) : (rowsO t).getD i [] = [.osl 1 (bools (rowT t i))] := getV (f := fun b => [AV.osl 1 (bools b)]) (rowT_get h)
theorem rowsR_get {t : List (List Bool)} {i : Nat} (h : i < t.length) : (rowsR t).getD i [] = [.rsl 1 (bools (rowT t i))] := getV (f := fun b => [AV.rsl 1 (bools b)]) (rowT_get h)
theorem rowsO_set (t : List (List Bool)) (i : Nat) (b : List Bool) : (rowsO t).set i [.osl 1 (bools b)] = rowsO (t.set i b) := by simp [rowsO, List.map_set]
theorem rowsR_app (t : List (List Bool)) (b : List Bool) : rowsR t ++ [[.rsl 1 (bools b)]] = rowsR (t ++ [b]) := by simp [rowsR]
end Go.AM

/- Counting the bits of a word, and finding the lowest one. -/
namespace Go.AM
theorem land_256 {r s a b : Nat} (hr : r < 256) (hs : s < 256) : (r + 256 * a) &&& (s + 256 * b) = (r &&& s) + 256 * (a &&& b) := by
  apply Nat.eq_of_testBit_eq
  intro i
  have h1 := Nat.testBit_two_pow_mul_add a (i := 8) (b := r) hr i
  have h2 := Nat.testBit_two_pow_mul_add b (i := 8) (b := s) hs i
  have h3 := Nat.testBit_two_pow_mul_add (a &&& b) (i := 8) (b := r &&& s) (Nat.lt_of_le_of_lt Nat.and_le_left hr) i
  rw [show r + 256 * a = 2 ^ 8 * a + r by omega, show s + 256 * b = 2 ^ 8 * b + s by omega, show (r &&& s) + 256 * (a &&& b) = 2 ^ 8 * (a &&& b) + (r &&& s) by omega, Nat.testBit_and, h1, h2, h3]
  split <;> simp [Nat.testBit_and]
def byv : List Nat → Nat
  | [] => 0
  | r :: l => r + 256 * byv l
def g1 (r : Nat) : Nat := (r >>> 1 &&& 0x55) + (r &&& 0x55)
def g2 (r : Nat) : Nat := (r >>> 2 &&& 0x33) + (r &&& 0x33)
def g3 (r : Nat) : Nat := (r >>> 4 + r) &&& 0x0f
def f1 (M x : Nat) : Nat := (x >>> 1 &&& M) + (x &&& M)
def f2 (M x : Nat) : Nat := (x >>> 2 &&& M) + (x &&& M)
def f3 (M x : Nat) : Nat := (x >>> 4 + x) &&& M
def popB (r : Nat) : Nat := ((List.range 8).filter fun j => r.testBit j).length
theorem b1 : ∀ r, r < 256 → ∀ c, c < 2 → (r >>> 1 + 128 * c) &&& 0x55 = r >>> 1 &&& 0x55 := by decide +kernel
theorem b2 : ∀ r, r < 256 → ∀ c, c < 4 → (r >>> 2 + 64 * c) &&& 0x33 = r >>> 2 &&& 0x33 := by decide +kernel
theorem b3 : ∀ r, r < 69 → ∀ c, c < 5 → r >>> 4 ≤ 4 → (r >>> 4 + 16 * c + r) &&& 0x0f = (r >>> 4 + r) &&& 0x0f ∧ r >>> 4 + 16 * c + r < 256 := by decide +kernel
theorem bg1 : ∀ r, r < 256 → g1 r < 256 := by decide +kernel
theorem bg2 : ∀ r, r < 256 → g2 (g1 r) < 69 ∧ g2 (g1 r) % 16 < 5 := by decide +kernel
theorem bg3 : ∀ r, r < 256 → g3 (g2 (g1 r)) = popB r ∧ popB r ≤ 8 := by decide +kernel
theorem f1_val : ∀ l : List Nat, (∀ r ∈ l, r < 256) → f1 (byv (l.map fun _ => 0x55)) (byv l) = byv (l.map g1)
  | [], _ => rfl
  | r :: l, h => by
    have ih := f1_val l fun x hx => h x (by simp [hx])
    have hr := h r (by simp)
    generalize hm : byv (l.map fun _ => 0x55) = m at ih
    generalize ha : byv l = a at ih
    show ((r + 256 * byv l) >>> 1 &&& (0x55 + 256 * byv (l.map fun _ => 0x55))) + ((r + 256 * byv l) &&& (0x55 + 256 * byv (l.map fun _ => 0x55))) = g1 r + 256 * byv (l.map g1)
    rw [hm, ha, ← ih]
    have e : (r + 256 * a) >>> 1 = (r >>> 1 + 128 * (a % 2)) + 256 * (a >>> 1) := by simp only [Nat.shiftRight_eq_div_pow]; omega
    have hb := b1 r hr (a % 2) (Nat.mod_lt _ (by decide))
    have hl : r >>> 1 + 128 * (a % 2) < 256 := by simp only [Nat.shiftRight_eq_div_pow]; omega
    rw [e, land_256 hl (by decide), land_256 hr (by decide), hb]
    unfold f1 g1; omega
theorem f2_val : ∀ l : List Nat, (∀ r ∈ l, r < 256) → f2 (byv (l.map fun _ => 0x33)) (byv l) = byv (l.map g2)
  | [], _ => rfl
  | r :: l, h => by
    have ih := f2_val l fun x hx => h x (by simp [hx])
    have hr := h r (by simp)
    generalize hm : byv (l.map fun _ => 0x33) = m at ih
    generalize ha : byv l = a at ih
    show ((r + 256 * byv l) >>> 2 &&& (0x33 + 256 * byv (l.map fun _ => 0x33))) + ((r + 256 * byv l) &&& (0x33 + 256 * byv (l.map fun _ => 0x33))) = g2 r + 256 * byv (l.map g2)
    rw [hm, ha, ← ih]
    have e : (r + 256 * a) >>> 2 = (r >>> 2 + 64 * (a % 4)) + 256 * (a >>> 2) := by simp only [Nat.shiftRight_eq_div_pow]; omega
    have hb := b2 r hr (a % 4) (Nat.mod_lt _ (by decide))
    have hl : r >>> 2 + 64 * (a % 4) < 256 := by simp only [Nat.shiftRight_eq_div_pow]; omega
    rw [e, land_256 hl (by decide), land_256 hr (by decide), hb]
    unfold f2 g2; omega
theorem byv_mod : ∀ l : List Nat, (∀ r ∈ l, r % 16 < 5) → byv l % 16 < 5
  | [], _ => by decide
  | r :: l, h => by
    have := h r (by simp)
    show (r + 256 * byv l) % 16 < 5
    omega
theorem f3_val : ∀ l : List Nat, (∀ r ∈ l, r < 69 ∧ r % 16 < 5) → f3 (byv (l.map fun _ => 0x0f)) (byv l) = byv (l.map g3)
  | [], _ => rfl
  | r :: l, h => by
    have ih := f3_val l fun x hx => h x (by simp [hx])
    have hr := (h r (by simp)).1
    have hmod := byv_mod l fun x hx => (h x (by simp [hx])).2
    generalize hm : byv (l.map fun _ => 0x0f) = m at ih
    generalize ha : byv l = a at ih hmod
    show ((r + 256 * byv l) >>> 4 + (r + 256 * byv l)) &&& (0x0f + 256 * byv (l.map fun _ => 0x0f)) = g3 r + 256 * byv (l.map g3)
    rw [hm, ha, ← ih]
    have hr4 : r >>> 4 ≤ 4 := by simp only [Nat.shiftRight_eq_div_pow]; omega
    have e : (r + 256 * a) >>> 4 + (r + 256 * a) = (r >>> 4 + 16 * (a % 16) + r) + 256 * (a >>> 4 + a) := by simp only [Nat.shiftRight_eq_div_pow]; omega
    obtain ⟨hb, hl⟩ := b3 r hr (a % 16) hmod hr4
    rw [e, land_256 hl (by decide), hb]
    rfl
theorem sum8 (a b c d e f g h : Nat) (ha : a ≤ 8) (hb : b ≤ 8) (hc : c ≤ 8) (hd : d ≤ 8) (he : e ≤ 8) (hf : f ≤ 8) (hg : g ≤ 8) (hh : h ≤ 8) (y y1 y2 y3 : Nat) (hy : y = byv [a, b, c, d, e, f, g, h])
    (h1 : y1 = y + y / 256) (h2 : y2 = y1 + y1 / 65536) (h3 : y3 = y2 + y2 / 4294967296) : y3 % 128 = a + b + c + d + e + f + g + h ∧ y3 < 18446744073709551616 := by
  simp only [byv, Nat.mul_zero, Nat.add_zero] at hy
  have e1 : y / 256 = b + 256 * (c + 256 * (d + 256 * (e + 256 * (f + 256 * (g + 256 * h))))) := by omega
  have e2 : y1 = (a + b) + 256 * ((b + c) + 256 * ((c + d) + 256 * ((d + e) + 256 * ((e + f) + 256 * ((f + g) + 256 * ((g + h) + 256 * h)))))) := by rw [h1, e1, hy]; omega
  clear h1 e1 hy
  have e3 : y1 / 65536 = (c + d) + 256 * ((d + e) + 256 * ((e + f) + 256 * ((f + g) + 256 * ((g + h) + 256 * h)))) := by omega
  have e4 : y2 = (a + b + c + d) + 256 * ((b + c + d + e) + 256 * ((c + d + e + f) + 256 * ((d + e + f + g) + 256 * ((e + f + g + h) + 256 * ((f + g + h) + 256 * ((g + h) + 256 * h)))))) := by rw [h2, e3, e2]; omega
  clear h2 e2 e3
  have e5 : y2 / 4294967296 = (e + f + g + h) + 256 * ((f + g + h) + 256 * ((g + h) + 256 * h)) := by omega
  have e6 : y3 = (a + b + c + d + e + f + g + h) + 256 * ((b + c + d + e + f + g + h) + 256 * ((c + d + e + f + g + h) + 256 * ((d + e + f + g + h) + 256 * ((e + f + g + h) + 256 * ((f + g + h) + 256 * ((g + h) + 256 * h)))))) := by rw [h3, e5, e4]; omega
  clear h3 e4 e5
  omega
/-- The bits of a word. -/
def bitsW (x : Nat) : List Nat := (List.range 64).filter fun j => x.testBit j
def bytesW (x : Nat) : List Nat := (List.range 8).map fun k => x / 256 ^ k % 256
theorem bytesW_eq (x : Nat) : bytesW x = [x % 256, x / 256 % 256, x / 65536 % 256, x / 16777216 % 256, x / 4294967296 % 256, x / 1099511627776 % 256, x / 281474976710656 % 256, x / 72057594037927936 % 256] := by
  simp [bytesW, List.range_succ]
theorem byv_bytes {x : Nat} (h : x < 18446744073709551616) : byv (bytesW x) = x := by
  rw [bytesW_eq]; simp only [byv]; omega
theorem filter_range_add (p : Nat → Bool) (a : Nat) : ∀ b, ((List.range (a + b)).filter p).length = ((List.range a).filter p).length + ((List.range b).filter fun j => p (a + j)).length
  | 0 => by simp
  | b + 1 => by
    rw [← Nat.add_assoc, List.range_succ, List.filter_append, List.length_append, filter_range_add p a b, List.range_succ, List.filter_append, List.length_append]
    have e : ([a + b].filter p).length = ([b].filter fun j => p (a + j)).length := by
      simp only [List.filter_cons, List.filter_nil]; cases p (a + b) <;> rfl
    omega
theorem popB_byte (x k : Nat) : popB (x / 256 ^ k % 256) = ((List.range 8).filter fun j => x.testBit (8 * k + j)).length := by
  unfold popB
  congr 1
  refine List.filter_congr fun j hj => ?_
  have hj := List.mem_range.1 hj
  rw [show (256 : Nat) = 2 ^ 8 by rfl, Nat.testBit_mod_two_pow, ← Nat.pow_mul, Nat.testBit_div_two_pow]
  simp [hj]; congr 1; omega
theorem bitsW_len (x : Nat) : (bitsW x).length = ((bytesW x).map popB).sum := by
  have e : (bytesW x).map popB = (List.range 8).map fun k => ((List.range 8).filter fun j => x.testBit (8 * k + j)).length := by
    unfold bytesW; rw [List.map_map]; refine List.map_congr_left fun k _ => popB_byte x k
  rw [e]
  have h := fun k => filter_range_add (fun j => x.testBit j) (8 * k) 8
  generalize hd : (fun k => ((List.range 8).filter fun j => x.testBit (8 * k + j)).length) = d
  have hdk : ∀ k, ((List.range 8).filter fun j => x.testBit (8 * k + j)).length = d k := fun k => by rw [← hd]
  generalize hc : (fun m => ((List.range m).filter fun j => x.testBit j).length) = c
  have hck : ∀ m, ((List.range m).filter fun j => x.testBit j).length = c m := fun m => by rw [← hc]
  have h' : ∀ k, c (8 * k + 8) = c (8 * k) + d k := fun k => by rw [← hck, ← hck, ← hdk]; exact h k
  have h0 : c 8 = c 0 + d 0 := h' 0
  have h1 : c 16 = c 8 + d 1 := h' 1
  have h2 : c 24 = c 16 + d 2 := h' 2
  have h3 : c 32 = c 24 + d 3 := h' 3
  have h4 : c 40 = c 32 + d 4 := h' 4
  have h5 : c 48 = c 40 + d 5 := h' 5
  have h6 : c 56 = c 48 + d 6 := h' 6
  have h7 : c 64 = c 56 + d 7 := h' 7
  have hz : c 0 = 0 := by rw [← hck]; rfl
  have hs : ((List.range 8).map d).sum = d 0 + d 1 + d 2 + d 3 + d 4 + d 5 + d 6 + d 7 := by
    show d 0 + (d 1 + (d 2 + (d 3 + (d 4 + (d 5 + (d 6 + (d 7 + 0))))))) = _
    omega
  rw [hs]
  show ((List.range 64).filter fun j => x.testBit j).length = _
  rw [hck]; omega
/-- What the counting computes. -/
def popN (x : Nat) : Nat :=
  let a := f1 0x5555555555555555 x
  let b := f2 0x3333333333333333 a
  let y := f3 0x0f0f0f0f0f0f0f0f b
  let y1 := y + y / 256
  let y2 := y1 + y1 / 65536
  (y2 + y2 / 4294967296) % 128
theorem byv_le {B : Nat} : ∀ l : List Nat, (∀ r ∈ l, r ≤ B) → byv l ≤ B * byv (l.map fun _ => 1)
  | [], _ => Nat.le_refl _
  | r :: l, h => by
    have ih := byv_le l fun x hx => h x (by simp [hx])
    have hr := h r (by simp)
    show r + 256 * byv l ≤ B * (1 + 256 * byv (l.map fun _ => 1))
    rw [Nat.mul_add, Nat.mul_one, Nat.mul_left_comm]
    omega
theorem byv8_le {B a b c d e f g h : Nat} (ha : a ≤ B) (hb : b ≤ B) (hc : c ≤ B) (hd : d ≤ B) (he : e ≤ B) (hf : f ≤ B) (hg : g ≤ B) (hh : h ≤ B) : byv [a, b, c, d, e, f, g, h] ≤ B * 72340172838076673 := by
  have := byv_le (B := B) [a, b, c, d, e, f, g, h] fun r hr => by
    simp only [List.mem_cons, List.not_mem_nil, or_false] at hr
    rcases hr with rfl | rfl | rfl | rfl | rfl | rfl | rfl | rfl <;> assumption
  have e : byv ([a, b, c, d, e, f, g, h].map fun _ => 1) = 72340172838076673 := by simp [byv]
  rw [e] at this; exact this
theorem popN_bits {x : Nat} (h : x < 18446744073709551616) : f1 0x5555555555555555 x < 18446744073709551616 ∧ f2 0x3333333333333333 (f1 0x5555555555555555 x) < 5000000000000000000 ∧ f3 0x0f0f0f0f0f0f0f0f (f2 0x3333333333333333 (f1 0x5555555555555555 x)) ≤ 578721382704613384 ∧ popN x = (bitsW x).length := by
  have hl : (bytesW x).length = 8 := by simp [bytesW]
  have hb : ∀ r ∈ bytesW x, r < 256 := fun r hr => by
    simp only [bytesW, List.mem_map] at hr
    obtain ⟨k, _, rfl⟩ := hr
    exact Nat.mod_lt _ (by decide)
  have hv := byv_bytes h
  have hm : ∀ (l : List Nat) (c : Nat), l.length = 8 → byv (l.map fun _ => c) = byv [c, c, c, c, c, c, c, c] := fun l c hl => by
    rw [List.map_const', hl]; rfl
  have e1 := f1_val (bytesW x) hb
  rw [hm _ _ hl, hv, show byv [0x55, 0x55, 0x55, 0x55, 0x55, 0x55, 0x55, 0x55] = 0x5555555555555555 by decide] at e1
  have e2 := f2_val ((bytesW x).map g1) fun r hr => by
    obtain ⟨s, hs, rfl⟩ := List.mem_map.1 hr
    exact bg1 s (hb s hs)
  rw [hm _ _ (by simp [hl]), ← e1, show byv [0x33, 0x33, 0x33, 0x33, 0x33, 0x33, 0x33, 0x33] = 0x3333333333333333 by decide, List.map_map] at e2
  have e3 := f3_val ((bytesW x).map (g2 ∘ g1)) fun r hr => by
    obtain ⟨s, hs, rfl⟩ := List.mem_map.1 hr
    exact bg2 s (hb s hs)
  rw [hm _ _ (by simp [hl]), ← e2, show byv [0x0f, 0x0f, 0x0f, 0x0f, 0x0f, 0x0f, 0x0f, 0x0f] = 0x0f0f0f0f0f0f0f0f by decide, List.map_map] at e3
  have e4 : (bytesW x).map (g3 ∘ g2 ∘ g1) = (bytesW x).map popB := List.map_congr_left fun r hr => (bg3 r (hb r hr)).1
  rw [e4] at e3
  rw [bytesW_eq] at e1 e2 e3 hb
  simp only [List.mem_cons, List.not_mem_nil, or_false, forall_eq_or_imp, forall_eq] at hb
  obtain ⟨c0, c1, c2, c3, c4, c5, c6, c7⟩ := hb
  have hlen := bitsW_len x
  rw [bytesW_eq] at hlen
  simp only [List.map_cons, List.map_nil, List.sum_cons, List.sum_nil] at e1 e2 e3 hlen
  have p0 := (bg3 _ c0).2; have p1 := (bg3 _ c1).2; have p2 := (bg3 _ c2).2; have p3 := (bg3 _ c3).2; have p4 := (bg3 _ c4).2; have p5 := (bg3 _ c5).2; have p6 := (bg3 _ c6).2; have p7 := (bg3 _ c7).2
  have q0 := (bg2 _ c0).1; have q1 := (bg2 _ c1).1; have q2 := (bg2 _ c2).1; have q3 := (bg2 _ c3).1; have q4 := (bg2 _ c4).1; have q5 := (bg2 _ c5).1; have q6 := (bg2 _ c6).1; have q7 := (bg2 _ c7).1
  have r0 := bg1 _ c0; have r1 := bg1 _ c1; have r2 := bg1 _ c2; have r3 := bg1 _ c3; have r4 := bg1 _ c4; have r5 := bg1 _ c5; have r6 := bg1 _ c6; have r7 := bg1 _ c7
  refine ⟨by rw [e1]; exact Nat.lt_of_le_of_lt (byv8_le (B := 255) (Nat.le_of_lt_succ r0) (Nat.le_of_lt_succ r1) (Nat.le_of_lt_succ r2) (Nat.le_of_lt_succ r3) (Nat.le_of_lt_succ r4) (Nat.le_of_lt_succ r5) (Nat.le_of_lt_succ r6) (Nat.le_of_lt_succ r7)) (by decide), by rw [e2]; exact Nat.lt_of_le_of_lt (byv8_le (B := 68) (Nat.le_of_lt_succ q0) (Nat.le_of_lt_succ q1) (Nat.le_of_lt_succ q2) (Nat.le_of_lt_succ q3) (Nat.le_of_lt_succ q4) (Nat.le_of_lt_succ q5) (Nat.le_of_lt_succ q6) (Nat.le_of_lt_succ q7)) (by decide), by rw [e3]; exact Nat.le_trans (byv8_le (B := 8) p0 p1 p2 p3 p4 p5 p6 p7) (by decide), ?_⟩
  have := (sum8 _ _ _ _ _ _ _ _ p0 p1 p2 p3 p4 p5 p6 p7 _ _ _ _ e3 rfl rfl rfl).1
  rw [hlen]
  show _ % 128 = _
  rw [this]
  simp only [Nat.add_zero, Nat.add_assoc]
end Go.AM

/- The lowest bit of a word, and the bits one after another. -/
namespace Go.AM
theorem low_split : ∀ (n x : Nat), x ≤ n → x ≠ 0 → ∃ k m, x = 2 ^ k * (2 * m + 1)
  | 0, x, h, h0 => absurd (Nat.le_zero.1 h) h0
  | n + 1, x, h, h0 => by
    by_cases ho : x % 2 = 1
    · exact ⟨0, x / 2, by omega⟩
    · obtain ⟨k, m, e⟩ := low_split n (x / 2) (by omega) (by omega)
      exact ⟨k + 1, m, by rw [Nat.pow_succ, Nat.mul_comm (2 ^ k) 2, Nat.mul_assoc, ← e]; omega⟩
theorem low_lt {k m : Nat} (h : 2 ^ k * (2 * m + 1) < 18446744073709551616) : k < 64 := by
  rcases Nat.lt_or_ge k 64 with h1 | h1
  · exact h1
  · have h2 : 2 ^ 64 ≤ 2 ^ k := Nat.pow_le_pow_right (by decide) h1
    have h3 : 2 ^ k * 1 ≤ 2 ^ k * (2 * m + 1) := Nat.mul_le_mul_left _ (by omega)
    have : (2 : Nat) ^ 64 = 18446744073709551616 := by decide
    omega
theorem odd_bit (m i : Nat) : (2 * m + 1).testBit i = if i = 0 then true else (2 * m).testBit i := by
  cases i with
  | zero => simp
  | succ i => simp [Nat.testBit_succ]; congr 1; omega
theorem land_neg {k m : Nat} (h : 2 ^ k * (2 * m + 1) < 18446744073709551616) : (2 ^ k * (2 * m + 1)) &&& (18446744073709551616 - 2 ^ k * (2 * m + 1)) = 2 ^ k := by
  have hk := low_lt h
  have e : (18446744073709551616 : Nat) = 2 ^ k * 2 ^ (64 - k) := by rw [← Nat.pow_add, show k + (64 - k) = 64 by omega]
  have hlt : 2 * m + 1 < 2 ^ (64 - k) := by
    rw [e] at h; exact Nat.lt_of_mul_lt_mul_left h
  have e2 : 18446744073709551616 - 2 ^ k * (2 * m + 1) = 2 ^ k * (2 ^ (64 - k) - (2 * m + 1)) := by rw [e, Nat.mul_sub]
  rw [e2]
  apply Nat.eq_of_testBit_eq
  intro i
  rw [Nat.testBit_and, Nat.testBit_two_pow_mul, Nat.testBit_two_pow_mul, Nat.testBit_two_pow, Nat.testBit_two_pow_sub_succ (by omega), odd_bit]
  by_cases h1 : i ≥ k
  · by_cases h2 : i - k = 0
    · have : k = i := by omega
      subst this
      simp; omega
    · have : ¬ k = i := by omega
      simp [h1, h2, this]
      intro a _; exact a
  · have : ¬ k = i := by omega
    simp [h1, this]
theorem land_pred (k m : Nat) : (2 ^ k * (2 * m + 1)) &&& (2 ^ k * (2 * m + 1) - 1) = 2 ^ k * (2 * m) := by
  have hp : 0 < 2 ^ k := Nat.two_pow_pos k
  have e : 2 ^ k * (2 * m + 1) - 1 = 2 ^ k * (2 * m) + (2 ^ k - 1) := by rw [Nat.mul_add, Nat.mul_one]; omega
  rw [e]
  apply Nat.eq_of_testBit_eq
  intro i
  rw [Nat.testBit_and, Nat.testBit_two_pow_mul, Nat.testBit_two_pow_mul_add _ (by omega), Nat.testBit_two_pow_mul, odd_bit]
  by_cases h1 : i ≥ k
  · have : ¬ i < k := by omega
    by_cases h2 : i - k = 0
    · simp [h1, h2, this]
    · simp [h1, h2, this]
  · simp [h1]
theorem filter_first {p : Nat → Bool} {k : Nat} (h : ∀ j, j < k → p j = false) (hk : p k = true) : ∀ n, k < n → (List.range n).filter p = k :: (List.range n).filter fun j => p j && decide (j ≠ k)
  | 0, hn => by omega
  | n + 1, hn => by
    rw [List.range_succ, List.filter_append, List.filter_append]
    by_cases e : k = n
    · subst e
      have h1 : (List.range k).filter p = [] := List.filter_eq_nil_iff.2 fun j hj => by rw [h j (List.mem_range.1 hj)]; simp
      have h2 : (List.range k).filter (fun j => p j && decide (j ≠ k)) = [] := List.filter_eq_nil_iff.2 fun j hj => by rw [h j (List.mem_range.1 hj)]; simp
      rw [h1, h2]; simp [hk]
    · rw [filter_first h hk n (by omega)]
      have : [n].filter p = [n].filter fun j => p j && decide (j ≠ k) := List.filter_congr fun j hj => by
        have : j = n := by simpa using hj
        subst this
        rw [decide_eq_true (Ne.symm e), Bool.and_true]
      rw [this]; rfl
theorem bitsW_zero : bitsW 0 = [] := by decide
theorem bitsW_step {x : Nat} (h0 : x ≠ 0) (h : x < 18446744073709551616) : ∃ k, k < 64 ∧ x &&& (18446744073709551616 - x) = 2 ^ k ∧ bitsW x = k :: bitsW (x &&& (x - 1)) ∧ (x &&& (x - 1)) < x := by
  obtain ⟨k, m, rfl⟩ := low_split x x (Nat.le_refl _) h0
  have hk := low_lt h
  have hp : 0 < 2 ^ k := Nat.two_pow_pos k
  refine ⟨k, hk, land_neg h, ?_, ?_⟩
  · rw [land_pred]
    unfold bitsW
    rw [filter_first (k := k) (fun j hj => ?_) ?_ 64 hk]
    · congr 1
      refine List.filter_congr fun j hj => ?_
      rw [Nat.testBit_two_pow_mul, Nat.testBit_two_pow_mul, odd_bit]
      by_cases h1 : j ≥ k
      · by_cases h2 : j - k = 0
        · have : j = k := by omega
          simp [h1, h2, this]
        · have : j ≠ k := by omega
          simp [h1, h2, this]
      · simp [h1]
    · rw [Nat.testBit_two_pow_mul, odd_bit]; simp
    · rw [Nat.testBit_two_pow_mul, decide_eq_false (by omega), Bool.false_and]
  · rw [land_pred]; exact Nat.mul_lt_mul_of_pos_left (by omega) hp
def tzTab : List Int := [0, 1, 56, 2, 57, 49, 28, 3, 61, 58, 42, 50, 38, 29, 17, 4, 62, 47, 59, 36, 45, 43, 51, 22, 53, 39, 33, 30, 24, 18, 12, 5, 63, 55, 48, 27, 60, 41, 37, 16, 46, 35, 44, 21, 52, 32, 23, 11, 54, 26, 40, 15, 34, 20, 31, 10, 25, 14, 19, 9, 13, 8, 7, 6]
theorem tz_look : ∀ k : Nat, k < 64 → (2 ^ k * 285870213051353865 % 18446744073709551616) >>> 58 < 64 ∧ tzTab.getD ((2 ^ k * 285870213051353865 % 18446744073709551616) >>> 58) 0 = (k : Int) := by decide +kernel
end Go.AM

/- The machine's steps of counting. -/
namespace Go.AM
theorem wrapU {n : Nat} (h : n < 18446744073709551616) : IntKind.u64.wrap (n : Int) = n := by simp [IntKind.wrap, IntKind.signed, IntKind.bits]; omega
theorem wrapI {n : Nat} (h : n < 9223372036854775808) : IntKind.i64.wrap (n : Int) = n := by simp [IntKind.wrap, IntKind.signed, IntKind.bits]; omega
theorem shrN (x k : Nat) (hk : k < 64) : bShr .u64 (x : Int) (k : Int) = ((x >>> k : Nat) : Int) := bShr_nat hk
theorem shr_lt {x k : Nat} (h : x < 18446744073709551616) : x >>> k < 18446744073709551616 := Nat.lt_of_le_of_lt (Nat.shiftRight_le _ _) h
theorem pop1 {x : Nat} (hx : x < 18446744073709551616) : IntKind.u64.wrap (bAnd .u64 (bShr .u64 (x : Int) 1) 6148914691236517205 + bAnd .u64 (x : Int) 6148914691236517205) = ((f1 6148914691236517205 x : Nat) : Int) := by
  have e1 : bShr .u64 (x : Int) 1 = ((x >>> 1 : Nat) : Int) := shrN x 1 (by decide)
  have e2 : bAnd .u64 ((x >>> 1 : Nat) : Int) 6148914691236517205 = (((x >>> 1) &&& 6148914691236517205 : Nat) : Int) := bAnd_nat (b := 6148914691236517205) (shr_lt hx) (by decide)
  have e3 : bAnd .u64 (x : Int) 6148914691236517205 = ((x &&& 6148914691236517205 : Nat) : Int) := bAnd_nat (b := 6148914691236517205) hx (by decide)
  have hl := (popN_bits hx).1
  rw [e1, e2, e3, ← Int.natCast_add]
  exact wrapU hl
theorem pop2 {x : Nat} (hx : x < 18446744073709551616) (hl : f2 3689348814741910323 x < 18446744073709551616) : IntKind.u64.wrap (bAnd .u64 (bShr .u64 (x : Int) 2) 3689348814741910323 + bAnd .u64 (x : Int) 3689348814741910323) = ((f2 3689348814741910323 x : Nat) : Int) := by
  have e1 : bShr .u64 (x : Int) 2 = ((x >>> 2 : Nat) : Int) := shrN x 2 (by decide)
  have e2 : bAnd .u64 ((x >>> 2 : Nat) : Int) 3689348814741910323 = (((x >>> 2) &&& 3689348814741910323 : Nat) : Int) := bAnd_nat (b := 3689348814741910323) (shr_lt hx) (by decide)
  have e3 : bAnd .u64 (x : Int) 3689348814741910323 = ((x &&& 3689348814741910323 : Nat) : Int) := bAnd_nat (b := 3689348814741910323) hx (by decide)
  rw [e1, e2, e3, ← Int.natCast_add]
  exact wrapU hl
theorem pop3 {x : Nat} (hx : x < 5000000000000000000) : bAnd .u64 (IntKind.u64.wrap (bShr .u64 (x : Int) 4 + (x : Int))) 1085102592571150095 = ((f3 1085102592571150095 x : Nat) : Int) := by
  have e1 : bShr .u64 (x : Int) 4 = ((x >>> 4 : Nat) : Int) := shrN x 4 (by decide)
  have hle : x >>> 4 ≤ x := Nat.shiftRight_le _ _
  rw [e1, ← Int.natCast_add, wrapU (by omega)]
  exact bAnd_nat (b := 1085102592571150095) (by omega) (by decide)
theorem pop4 {x k d : Nat} (hk : k < 64) (hd : 2 ^ k = d) (hx : x < 1000000000000000000) : IntKind.u64.wrap ((x : Int) + bShr .u64 (x : Int) (k : Int)) = ((x + x / d : Nat) : Int) := by
  rw [shrN x k hk, Nat.shiftRight_eq_div_pow, hd, ← Int.natCast_add]
  refine wrapU ?_
  have := Nat.div_le_self x d
  omega
theorem pop5 {x : Nat} (hx : x < 9223372036854775808) : bAnd .i64 (IntKind.i64.wrap (x : Int)) 127 = ((x % 128 : Nat) : Int) := by
  rw [wrapI hx]
  have e : x &&& 127 = x % 128 := Nat.and_two_pow_sub_one_eq_mod x 7
  have h1 : (BitVec.ofInt 64 (x : Int) &&& BitVec.ofInt 64 127).toNat = x &&& 127 := by
    rw [BitVec.toNat_and, show BitVec.ofInt 64 (x : Int) = BitVec.ofNat 64 x from BitVec.ofInt_natCast _ _, show BitVec.ofInt 64 127 = BitVec.ofNat 64 127 from rfl, BitVec.toNat_ofNat, BitVec.toNat_ofNat, Nat.mod_eq_of_lt (by omega), Nat.mod_eq_of_lt (by decide)]
  show IntKind.i64.wrap (((BitVec.ofInt 64 (x : Int) &&& BitVec.ofInt 64 127).toNat : Nat) : Int) = _
  rw [h1, e]
  exact wrapI (by omega)
theorem tz_ix {x k : Nat} (hx : x < 18446744073709551616) (h0 : x ≠ 0) (hk : k < 64) (hl : x &&& (18446744073709551616 - x) = 2 ^ k) : bShr .u64 (IntKind.u64.wrap (bAnd .u64 (x : Int) (IntKind.u64.wrap (0 - (x : Int))) * 285870213051353865)) 58 = (((2 ^ k * 285870213051353865 % 18446744073709551616) >>> 58 : Nat) : Int) := by
  have e1 : IntKind.u64.wrap (0 - (x : Int)) = ((18446744073709551616 - x : Nat) : Int) := by
    simp [IntKind.wrap, IntKind.signed, IntKind.bits]; omega
  rw [e1, bAnd_nat hx (by omega), hl]
  have e2 : IntKind.u64.wrap (((2 ^ k : Nat) : Int) * 285870213051353865) = ((2 ^ k * 285870213051353865 % 18446744073709551616 : Nat) : Int) := by
    generalize 2 ^ k = p
    simp [IntKind.wrap, IntKind.signed, IntKind.bits]
  rw [e2]
  exact shrN _ 58 (by decide)
end Go.AM

/- Matchings: the search for an alternating path, as a function of lists. -/
namespace Go.AM

/-- The rows name right nodes, the partners are left nodes. -/
structure MOk (n m : Nat) (nb : List (List Int)) (s : List Bool) (L R : List Int) : Prop where
  hnb : nb.length = n ∧ ∀ row ∈ nb, ∀ r ∈ row, 0 ≤ r ∧ r < (m : Int)
  hs : s.length = m
  hL : L.length = n ∧ ∀ x ∈ L, x < (m : Int)
  hR : R.length = m ∧ ∀ x ∈ R, x < (n : Int)

theorem MOk.seen {n m : Nat} {nb : List (List Int)} {s : List Bool} {L R : List Int} (h : MOk n m nb s L R) (i : Nat) : MOk n m nb (s.set i true) L R :=
  ⟨h.hnb, by simp [h.hs], h.hL, h.hR⟩
end Go.AM

namespace Go.Proofs.D
open Go.AM
set_option maxRecDepth 100000
@[go_sem] theorem tyd1 : tyd Tryd.prog 1 = some (1, false) := by kernel_rfl
@[go_sem] theorem zeC1 : zeC Tryd.prog 1 = some [.any] := by kernel_rfl
@[go_sem] theorem byD1 : byD Tryd.prog 1 = some 8 := by kernel_rfl
@[go_sem] theorem tyd2 : tyd Tryd.prog 2 = some (1, false) := by kernel_rfl
@[go_sem] theorem zeC2 : zeC Tryd.prog 2 = some [.int .i64 0] := by kernel_rfl
@[go_sem] theorem byD2 : byD Tryd.prog 2 = some 8 := by kernel_rfl
@[go_sem] theorem inD2 : inD Tryd.prog 2 = some .i64 := by kernel_rfl
@[go_sem] theorem und2 : Tryd.prog.underlying 2 = some (.int .i64) := by kernel_rfl
@[go_sem] theorem valD2 : valD Tryd.prog 2 = some (some .i64) := by kernel_rfl
@[go_sem] theorem tyd3 : tyd Tryd.prog 3 = some (1, false) := by kernel_rfl
@[go_sem] theorem zeC3 : zeC Tryd.prog 3 = some [.int .i64 0] := by kernel_rfl
@[go_sem] theorem byD3 : byD Tryd.prog 3 = some 8 := by kernel_rfl
@[go_sem] theorem inD3 : inD Tryd.prog 3 = some .i64 := by kernel_rfl
@[go_sem] theorem und3 : Tryd.prog.underlying 3 = some (.int .i64) := by kernel_rfl
@[go_sem] theorem valD3 : valD Tryd.prog 3 = some (some .i64) := by kernel_rfl
@[go_sem] theorem tyd4 : tyd Tryd.prog 4 = some (1, false) := by kernel_rfl
@[go_sem] theorem zeC4 : zeC Tryd.prog 4 = some [.bool false] := by kernel_rfl
@[go_sem] theorem byD4 : byD Tryd.prog 4 = some 1 := by kernel_rfl
@[go_sem] theorem valD4 : valD Tryd.prog 4 = some none := by kernel_rfl
@[go_sem] theorem und4 : Tryd.prog.underlying 4 = some .bool := by kernel_rfl
@[go_sem] theorem tyd5 : tyd Tryd.prog 5 = some (1, false) := by kernel_rfl
@[go_sem] theorem zeC5 : zeC Tryd.prog 5 = some [.int .u8 0] := by kernel_rfl
@[go_sem] theorem byD5 : byD Tryd.prog 5 = some 1 := by kernel_rfl
@[go_sem] theorem inD5 : inD Tryd.prog 5 = some .u8 := by kernel_rfl
@[go_sem] theorem und5 : Tryd.prog.underlying 5 = some (.int .u8) := by kernel_rfl
@[go_sem] theorem valD5 : valD Tryd.prog 5 = some (some .u8) := by kernel_rfl
@[go_sem] theorem tyd6 : tyd Tryd.prog 6 = some (1, false) := by kernel_rfl
@[go_sem] theorem zeC6 : zeC Tryd.prog 6 = some [.int .u8 0] := by kernel_rfl
@[go_sem] theorem byD6 : byD Tryd.prog 6 = some 1 := by kernel_rfl
@[go_sem] theorem inD6 : inD Tryd.prog 6 = some .u8 := by kernel_rfl
@[go_sem] theorem und6 : Tryd.prog.underlying 6 = some (.int .u8) := by kernel_rfl
@[go_sem] theorem valD6 : valD Tryd.prog 6 = some (some .u8) := by kernel_rfl
@[go_sem] theorem tyd7 : tyd Tryd.prog 7 = some (4, true) := by kernel_rfl
@[go_sem] theorem flD7_0 : flD Tryd.prog 7 0 = some (2, 0, 1) := by kernel_rfl
@[go_sem] theorem flD7_1 : flD Tryd.prog 7 1 = some (3, 1, 1) := by kernel_rfl
@[go_sem] theorem flD7_2 : flD Tryd.prog 7 2 = some (4, 2, 1) := by kernel_rfl
@[go_sem] theorem flD7_3 : flD Tryd.prog 7 3 = some (6, 3, 1) := by kernel_rfl
@[go_sem] theorem stD7 : stD Tryd.prog 7 = some [(0, 1), (1, 1), (2, 1), (3, 1)] := by kernel_rfl
@[go_sem] theorem zeC7 : zeC Tryd.prog 7 = some [.int .i64 0, .int .i64 0, .bool false, .int .u8 0] := by kernel_rfl
@[go_sem] theorem byD7 : byD Tryd.prog 7 = some 24 := by kernel_rfl
@[go_sem] theorem tyd8 : tyd Tryd.prog 8 = some (4, true) := by kernel_rfl
@[go_sem] theorem flD8_0 : flD Tryd.prog 8 0 = some (2, 0, 1) := by kernel_rfl
@[go_sem] theorem flD8_1 : flD Tryd.prog 8 1 = some (3, 1, 1) := by kernel_rfl
@[go_sem] theorem flD8_2 : flD Tryd.prog 8 2 = some (4, 2, 1) := by kernel_rfl
@[go_sem] theorem flD8_3 : flD Tryd.prog 8 3 = some (6, 3, 1) := by kernel_rfl
@[go_sem] theorem stD8 : stD Tryd.prog 8 = some [(0, 1), (1, 1), (2, 1), (3, 1)] := by kernel_rfl
@[go_sem] theorem zeC8 : zeC Tryd.prog 8 = some [.int .i64 0, .int .i64 0, .bool false, .int .u8 0] := by kernel_rfl
@[go_sem] theorem byD8 : byD Tryd.prog 8 = some 24 := by kernel_rfl
@[go_sem] theorem tyd9 : tyd Tryd.prog 9 = some (1, false) := by kernel_rfl
@[go_sem] theorem zeC9 : zeC Tryd.prog 9 = some [.str ByteArray.empty] := by kernel_rfl
@[go_sem] theorem byD9 : byD Tryd.prog 9 = some 16 := by kernel_rfl
@[go_sem] theorem und9 : Tryd.prog.underlying 9 = some .string := by kernel_rfl
@[go_sem] theorem tyd10 : tyd Tryd.prog 10 = some (1, false) := by kernel_rfl
@[go_sem] theorem zeC10 : zeC Tryd.prog 10 = some [.str ByteArray.empty] := by kernel_rfl
@[go_sem] theorem byD10 : byD Tryd.prog 10 = some 16 := by kernel_rfl
@[go_sem] theorem und10 : Tryd.prog.underlying 10 = some .string := by kernel_rfl
@[go_sem] theorem tyd11 : tyd Tryd.prog 11 = some (1, false) := by kernel_rfl
@[go_sem] theorem zeC11 : zeC Tryd.prog 11 = some [.str ByteArray.empty] := by kernel_rfl
@[go_sem] theorem byD11 : byD Tryd.prog 11 = some 16 := by kernel_rfl
@[go_sem] theorem und11 : Tryd.prog.underlying 11 = some .string := by kernel_rfl
@[go_sem] theorem tyd12 : tyd Tryd.prog 12 = some (1, false) := by kernel_rfl
@[go_sem] theorem zeC12 : zeC Tryd.prog 12 = some [.int .u64 0] := by kernel_rfl
@[go_sem] theorem byD12 : byD Tryd.prog 12 = some 8 := by kernel_rfl
@[go_sem] theorem inD12 : inD Tryd.prog 12 = some .u64 := by kernel_rfl
@[go_sem] theorem und12 : Tryd.prog.underlying 12 = some (.int .u64) := by kernel_rfl
@[go_sem] theorem valD12 : valD Tryd.prog 12 = some (some .u64) := by kernel_rfl
@[go_sem] theorem tyd13 : tyd Tryd.prog 13 = some (2, true) := by kernel_rfl
@[go_sem] theorem flD13_0 : flD Tryd.prog 13 0 = some (9, 0, 1) := by kernel_rfl
@[go_sem] theorem flD13_1 : flD Tryd.prog 13 1 = some (12, 1, 1) := by kernel_rfl
@[go_sem] theorem stD13 : stD Tryd.prog 13 = some [(0, 1), (1, 1)] := by kernel_rfl
@[go_sem] theorem zeC13 : zeC Tryd.prog 13 = some [.str ByteArray.empty, .int .u64 0] := by kernel_rfl
@[go_sem] theorem byD13 : byD Tryd.prog 13 = some 24 := by kernel_rfl
@[go_sem] theorem tyd14 : tyd Tryd.prog 14 = some (2, true) := by kernel_rfl
@[go_sem] theorem flD14_0 : flD Tryd.prog 14 0 = some (9, 0, 1) := by kernel_rfl
@[go_sem] theorem flD14_1 : flD Tryd.prog 14 1 = some (12, 1, 1) := by kernel_rfl
@[go_sem] theorem stD14 : stD Tryd.prog 14 = some [(0, 1), (1, 1)] := by kernel_rfl
@[go_sem] theorem zeC14 : zeC Tryd.prog 14 = some [.str ByteArray.empty, .int .u64 0] := by kernel_rfl
@[go_sem] theorem byD14 : byD Tryd.prog 14 = some 24 := by kernel_rfl
@[go_sem] theorem tyd15 : tyd Tryd.prog 15 = some (1, false) := by kernel_rfl
@[go_sem] theorem zeC15 : zeC Tryd.prog 15 = some [.nilp] := by kernel_rfl
@[go_sem] theorem byD15 : byD Tryd.prog 15 = some 8 := by kernel_rfl
@[go_sem] theorem tyd16 : tyd Tryd.prog 16 = some (1, false) := by kernel_rfl
@[go_sem] theorem zeC16 : zeC Tryd.prog 16 = some [.nilp] := by kernel_rfl
@[go_sem] theorem byD16 : byD Tryd.prog 16 = some 8 := by kernel_rfl
@[go_sem] theorem tyd17 : tyd Tryd.prog 17 = some (1, false) := by kernel_rfl
@[go_sem] theorem zeC17 : zeC Tryd.prog 17 = some [.nilp] := by kernel_rfl
@[go_sem] theorem byD17 : byD Tryd.prog 17 = some 8 := by kernel_rfl
@[go_sem] theorem tyd18 : tyd Tryd.prog 18 = some (1, true) := by kernel_rfl
@[go_sem] theorem flD18_0 : flD Tryd.prog 18 0 = some (17, 0, 1) := by kernel_rfl
@[go_sem] theorem stD18 : stD Tryd.prog 18 = some [(0, 1)] := by kernel_rfl
@[go_sem] theorem zeC18 : zeC Tryd.prog 18 = some [.nilp] := by kernel_rfl
@[go_sem] theorem byD18 : byD Tryd.prog 18 = some 8 := by kernel_rfl
@[go_sem] theorem tyd19 : tyd Tryd.prog 19 = some (1, true) := by kernel_rfl
@[go_sem] theorem flD19_0 : flD Tryd.prog 19 0 = some (17, 0, 1) := by kernel_rfl
@[go_sem] theorem stD19 : stD Tryd.prog 19 = some [(0, 1)] := by kernel_rfl
@[go_sem] theorem zeC19 : zeC Tryd.prog 19 = some [.nilp] := by kernel_rfl
@[go_sem] theorem byD19 : byD Tryd.prog 19 = some 8 := by kernel_rfl
@[go_sem] theorem tyd21 : tyd Tryd.prog 21 = some (1, false) := by kernel_rfl
@[go_sem] theorem zeC21 : zeC Tryd.prog 21 = some [.int .i32 0] := by kernel_rfl
@[go_sem] theorem byD21 : byD Tryd.prog 21 = some 4 := by kernel_rfl
@[go_sem] theorem inD21 : inD Tryd.prog 21 = some .i32 := by kernel_rfl
@[go_sem] theorem und21 : Tryd.prog.underlying 21 = some (.int .i32) := by kernel_rfl
@[go_sem] theorem valD21 : valD Tryd.prog 21 = some (some .i32) := by kernel_rfl
@[go_sem] theorem tyd22 : tyd Tryd.prog 22 = some (1, false) := by kernel_rfl
@[go_sem] theorem slD22 : slD Tryd.prog 22 = some (69, 2) := by kernel_rfl
@[go_sem] theorem zeC22 : zeC Tryd.prog 22 = some [.nilsl] := by kernel_rfl
@[go_sem] theorem byD22 : byD Tryd.prog 22 = some 24 := by kernel_rfl
@[go_sem] theorem tyd23 : tyd Tryd.prog 23 = some (1, true) := by kernel_rfl
@[go_sem] theorem flD23_0 : flD Tryd.prog 23 0 = some (22, 0, 1) := by kernel_rfl
@[go_sem] theorem stD23 : stD Tryd.prog 23 = some [(0, 1)] := by kernel_rfl
@[go_sem] theorem zeC23 : zeC Tryd.prog 23 = some [.nilsl] := by kernel_rfl
@[go_sem] theorem byD23 : byD Tryd.prog 23 = some 24 := by kernel_rfl
@[go_sem] theorem tyd24 : tyd Tryd.prog 24 = some (1, true) := by kernel_rfl
@[go_sem] theorem flD24_0 : flD Tryd.prog 24 0 = some (22, 0, 1) := by kernel_rfl
@[go_sem] theorem stD24 : stD Tryd.prog 24 = some [(0, 1)] := by kernel_rfl
@[go_sem] theorem zeC24 : zeC Tryd.prog 24 = some [.nilsl] := by kernel_rfl
@[go_sem] theorem byD24 : byD Tryd.prog 24 = some 24 := by kernel_rfl
@[go_sem] theorem tyd25 : tyd Tryd.prog 25 = some (1, false) := by kernel_rfl
@[go_sem] theorem slD25 : slD Tryd.prog 25 = some (36, 1) := by kernel_rfl
@[go_sem] theorem zeC25 : zeC Tryd.prog 25 = some [.nilsl] := by kernel_rfl
@[go_sem] theorem byD25 : byD Tryd.prog 25 = some 24 := by kernel_rfl
@[go_sem] theorem tyd26 : tyd Tryd.prog 26 = some (1, false) := by kernel_rfl
@[go_sem] theorem zeC26 : zeC Tryd.prog 26 = some [.any] := by kernel_rfl
@[go_sem] theorem byD26 : byD Tryd.prog 26 = some 8 := by kernel_rfl
@[go_sem] theorem tyd27 : tyd Tryd.prog 27 = some (1, false) := by kernel_rfl
@[go_sem] theorem zeC27 : zeC Tryd.prog 27 = some [.any] := by kernel_rfl
@[go_sem] theorem byD27 : byD Tryd.prog 27 = some 8 := by kernel_rfl
@[go_sem] theorem tyd28 : tyd Tryd.prog 28 = some (1, false) := by kernel_rfl
@[go_sem] theorem slD28 : slD Tryd.prog 28 = some (34, 2) := by kernel_rfl
@[go_sem] theorem zeC28 : zeC Tryd.prog 28 = some [.nilsl] := by kernel_rfl
@[go_sem] theorem byD28 : byD Tryd.prog 28 = some 24 := by kernel_rfl
@[go_sem] theorem tyd29 : tyd Tryd.prog 29 = some (1, false) := by kernel_rfl
@[go_sem] theorem zeC29 : zeC Tryd.prog 29 = some [.int .i64 0] := by kernel_rfl
@[go_sem] theorem byD29 : byD Tryd.prog 29 = some 8 := by kernel_rfl
@[go_sem] theorem inD29 : inD Tryd.prog 29 = some .i64 := by kernel_rfl
@[go_sem] theorem und29 : Tryd.prog.underlying 29 = some (.int .i64) := by kernel_rfl
@[go_sem] theorem valD29 : valD Tryd.prog 29 = some (some .i64) := by kernel_rfl
@[go_sem] theorem tyd31 : tyd Tryd.prog 31 = some (1, false) := by kernel_rfl
@[go_sem] theorem zeC31 : zeC Tryd.prog 31 = some [.any] := by kernel_rfl
@[go_sem] theorem byD31 : byD Tryd.prog 31 = some 8 := by kernel_rfl
@[go_sem] theorem tyd32 : tyd Tryd.prog 32 = some (1, false) := by kernel_rfl
@[go_sem] theorem zeC32 : zeC Tryd.prog 32 = some [.any] := by kernel_rfl
@[go_sem] theorem byD32 : byD Tryd.prog 32 = some 8 := by kernel_rfl
@[go_sem] theorem tyd33 : tyd Tryd.prog 33 = some (1, false) := by kernel_rfl
@[go_sem] theorem zeC33 : zeC Tryd.prog 33 = some [.any] := by kernel_rfl
@[go_sem] theorem byD33 : byD Tryd.prog 33 = some 8 := by kernel_rfl
@[go_sem] theorem tyd34 : tyd Tryd.prog 34 = some (2, true) := by kernel_rfl
@[go_sem] theorem gdD34 : gdD Tryd.prog 34 = false := by kernel_rfl
@[go_sem] theorem arD34 : arD Tryd.prog 34 = some (2, 3, 1) := by kernel_rfl
@[go_sem] theorem stD34 : stD Tryd.prog 34 = none := by kernel_rfl
@[go_sem] theorem zeC34 : zeC Tryd.prog 34 = some [.int .i64 0, .int .i64 0] := by kernel_rfl
@[go_sem] theorem byD34 : byD Tryd.prog 34 = some 16 := by kernel_rfl
@[go_sem] theorem tyd35 : tyd Tryd.prog 35 = some (1, false) := by kernel_rfl
@[go_sem] theorem zeC35 : zeC Tryd.prog 35 = some [.any] := by kernel_rfl
@[go_sem] theorem byD35 : byD Tryd.prog 35 = some 8 := by kernel_rfl
@[go_sem] theorem tyd36 : tyd Tryd.prog 36 = some (1, false) := by kernel_rfl
@[go_sem] theorem slD36 : slD Tryd.prog 36 = some (3, 1) := by kernel_rfl
@[go_sem] theorem zeC36 : zeC Tryd.prog 36 = some [.nilsl] := by kernel_rfl
@[go_sem] theorem byD36 : byD Tryd.prog 36 = some 24 := by kernel_rfl
@[go_sem] theorem tyd38 : tyd Tryd.prog 38 = some (1, false) := by kernel_rfl
@[go_sem] theorem zeC38 : zeC Tryd.prog 38 = some [.any] := by kernel_rfl
@[go_sem] theorem byD38 : byD Tryd.prog 38 = some 8 := by kernel_rfl
@[go_sem] theorem tyd39 : tyd Tryd.prog 39 = some (1, false) := by kernel_rfl
@[go_sem] theorem zeC39 : zeC Tryd.prog 39 = some [.any] := by kernel_rfl
@[go_sem] theorem byD39 : byD Tryd.prog 39 = some 8 := by kernel_rfl
@[go_sem] theorem tyd40 : tyd Tryd.prog 40 = some (1, false) := by kernel_rfl
@[go_sem] theorem zeC40 : zeC Tryd.prog 40 = some [.any] := by kernel_rfl
@[go_sem] theorem byD40 : byD Tryd.prog 40 = some 8 := by kernel_rfl
@[go_sem] theorem tyd42 : tyd Tryd.prog 42 = some (1, false) := by kernel_rfl
@[go_sem] theorem zeC42 : zeC Tryd.prog 42 = some [.any] := by kernel_rfl
@[go_sem] theorem byD42 : byD Tryd.prog 42 = some 8 := by kernel_rfl
@[go_sem] theorem tyd43 : tyd Tryd.prog 43 = some (1, false) := by kernel_rfl
@[go_sem] theorem zeC43 : zeC Tryd.prog 43 = some [.any] := by kernel_rfl
@[go_sem] theorem byD43 : byD Tryd.prog 43 = some 8 := by kernel_rfl
@[go_sem] theorem tyd44 : tyd Tryd.prog 44 = some (1, false) := by kernel_rfl
@[go_sem] theorem zeC44 : zeC Tryd.prog 44 = some [.any] := by kernel_rfl
@[go_sem] theorem byD44 : byD Tryd.prog 44 = some 8 := by kernel_rfl
@[go_sem] theorem tyd46 : tyd Tryd.prog 46 = some (1, false) := by kernel_rfl
@[go_sem] theorem zeC46 : zeC Tryd.prog 46 = some [.any] := by kernel_rfl
@[go_sem] theorem byD46 : byD Tryd.prog 46 = some 8 := by kernel_rfl
@[go_sem] theorem tyd48 : tyd Tryd.prog 48 = some (1, false) := by kernel_rfl
@[go_sem] theorem zeC48 : zeC Tryd.prog 48 = some [.any] := by kernel_rfl
@[go_sem] theorem byD48 : byD Tryd.prog 48 = some 8 := by kernel_rfl
@[go_sem] theorem tyd49 : tyd Tryd.prog 49 = some (1, false) := by kernel_rfl
@[go_sem] theorem zeC49 : zeC Tryd.prog 49 = some [.any] := by kernel_rfl
@[go_sem] theorem byD49 : byD Tryd.prog 49 = some 8 := by kernel_rfl
@[go_sem] theorem tyd51 : tyd Tryd.prog 51 = some (1, false) := by kernel_rfl
@[go_sem] theorem zeC51 : zeC Tryd.prog 51 = some [.any] := by kernel_rfl
@[go_sem] theorem byD51 : byD Tryd.prog 51 = some 8 := by kernel_rfl
@[go_sem] theorem tyd52 : tyd Tryd.prog 52 = some (1, false) := by kernel_rfl
@[go_sem] theorem zeC52 : zeC Tryd.prog 52 = some [.any] := by kernel_rfl
@[go_sem] theorem byD52 : byD Tryd.prog 52 = some 8 := by kernel_rfl
@[go_sem] theorem tyd53 : tyd Tryd.prog 53 = some (1, false) := by kernel_rfl
@[go_sem] theorem zeC53 : zeC Tryd.prog 53 = some [.any] := by kernel_rfl
@[go_sem] theorem byD53 : byD Tryd.prog 53 = some 8 := by kernel_rfl
@[go_sem] theorem tyd54 : tyd Tryd.prog 54 = some (1, false) := by kernel_rfl
@[go_sem] theorem zeC54 : zeC Tryd.prog 54 = some [.any] := by kernel_rfl
@[go_sem] theorem byD54 : byD Tryd.prog 54 = some 8 := by kernel_rfl
@[go_sem] theorem tyd55 : tyd Tryd.prog 55 = some (1, false) := by kernel_rfl
@[go_sem] theorem slD55 : slD Tryd.prog 55 = some (56, 1) := by kernel_rfl
@[go_sem] theorem zeC55 : zeC Tryd.prog 55 = some [.nilsl] := by kernel_rfl
@[go_sem] theorem byD55 : byD Tryd.prog 55 = some 24 := by kernel_rfl
@[go_sem] theorem tyd56 : tyd Tryd.prog 56 = some (1, false) := by kernel_rfl
@[go_sem] theorem slD56 : slD Tryd.prog 56 = some (4, 1) := by kernel_rfl
@[go_sem] theorem zeC56 : zeC Tryd.prog 56 = some [.nilsl] := by kernel_rfl
@[go_sem] theorem byD56 : byD Tryd.prog 56 = some 24 := by kernel_rfl
@[go_sem] theorem tyd57 : tyd Tryd.prog 57 = some (1, false) := by kernel_rfl
@[go_sem] theorem zeC57 : zeC Tryd.prog 57 = some [.any] := by kernel_rfl
@[go_sem] theorem byD57 : byD Tryd.prog 57 = some 8 := by kernel_rfl
@[go_sem] theorem tyd58 : tyd Tryd.prog 58 = some (1, false) := by kernel_rfl
@[go_sem] theorem zeC58 : zeC Tryd.prog 58 = some [.any] := by kernel_rfl
@[go_sem] theorem byD58 : byD Tryd.prog 58 = some 8 := by kernel_rfl
@[go_sem] theorem tyd59 : tyd Tryd.prog 59 = some (1, false) := by kernel_rfl
@[go_sem] theorem zeC59 : zeC Tryd.prog 59 = some [.any] := by kernel_rfl
@[go_sem] theorem byD59 : byD Tryd.prog 59 = some 8 := by kernel_rfl
@[go_sem] theorem tyd60 : tyd Tryd.prog 60 = some (1, false) := by kernel_rfl
@[go_sem] theorem zeC60 : zeC Tryd.prog 60 = some [.any] := by kernel_rfl
@[go_sem] theorem byD60 : byD Tryd.prog 60 = some 8 := by kernel_rfl
@[go_sem] theorem tyd61 : tyd Tryd.prog 61 = some (1, false) := by kernel_rfl
@[go_sem] theorem zeC61 : zeC Tryd.prog 61 = some [.any] := by kernel_rfl
@[go_sem] theorem byD61 : byD Tryd.prog 61 = some 8 := by kernel_rfl
@[go_sem] theorem tyd62 : tyd Tryd.prog 62 = some (1, false) := by kernel_rfl
@[go_sem] theorem zeC62 : zeC Tryd.prog 62 = some [.any] := by kernel_rfl
@[go_sem] theorem byD62 : byD Tryd.prog 62 = some 8 := by kernel_rfl
@[go_sem] theorem tyd63 : tyd Tryd.prog 63 = some (1, false) := by kernel_rfl
@[go_sem] theorem zeC63 : zeC Tryd.prog 63 = some [.any] := by kernel_rfl
@[go_sem] theorem byD63 : byD Tryd.prog 63 = some 8 := by kernel_rfl
@[go_sem] theorem tyd64 : tyd Tryd.prog 64 = some (1, false) := by kernel_rfl
@[go_sem] theorem zeC64 : zeC Tryd.prog 64 = some [.any] := by kernel_rfl
@[go_sem] theorem byD64 : byD Tryd.prog 64 = some 8 := by kernel_rfl
@[go_sem] theorem tyd65 : tyd Tryd.prog 65 = some (1, false) := by kernel_rfl
@[go_sem] theorem zeC65 : zeC Tryd.prog 65 = some [.any] := by kernel_rfl
@[go_sem] theorem byD65 : byD Tryd.prog 65 = some 8 := by kernel_rfl
@[go_sem] theorem tyd66 : tyd Tryd.prog 66 = some (1, false) := by kernel_rfl
@[go_sem] theorem zeC66 : zeC Tryd.prog 66 = some [.any] := by kernel_rfl
@[go_sem] theorem byD66 : byD Tryd.prog 66 = some 8 := by kernel_rfl
@[go_sem] theorem tyd67 : tyd Tryd.prog 67 = some (1, false) := by kernel_rfl
@[go_sem] theorem slD67 : slD Tryd.prog 67 = some (81, 1) := by kernel_rfl
@[go_sem] theorem zeC67 : zeC Tryd.prog 67 = some [.nilsl] := by kernel_rfl
@[go_sem] theorem byD67 : byD Tryd.prog 67 = some 24 := by kernel_rfl
@[go_sem] theorem tyd68 : tyd Tryd.prog 68 = some (2, true) := by kernel_rfl
@[go_sem] theorem flD68_0 : flD Tryd.prog 68 0 = some (3, 0, 1) := by kernel_rfl
@[go_sem] theorem flD68_1 : flD Tryd.prog 68 1 = some (67, 1, 1) := by kernel_rfl
@[go_sem] theorem stD68 : stD Tryd.prog 68 = some [(0, 1), (1, 1)] := by kernel_rfl
@[go_sem] theorem zeC68 : zeC Tryd.prog 68 = some [.int .i64 0, .nilsl] := by kernel_rfl
@[go_sem] theorem byD68 : byD Tryd.prog 68 = some 32 := by kernel_rfl
@[go_sem] theorem tyd69 : tyd Tryd.prog 69 = some (2, true) := by kernel_rfl
@[go_sem] theorem flD69_0 : flD Tryd.prog 69 0 = some (3, 0, 1) := by kernel_rfl
@[go_sem] theorem flD69_1 : flD Tryd.prog 69 1 = some (67, 1, 1) := by kernel_rfl
@[go_sem] theorem stD69 : stD Tryd.prog 69 = some [(0, 1), (1, 1)] := by kernel_rfl
@[go_sem] theorem zeC69 : zeC Tryd.prog 69 = some [.int .i64 0, .nilsl] := by kernel_rfl
@[go_sem] theorem byD69 : byD Tryd.prog 69 = some 32 := by kernel_rfl
@[go_sem] theorem tyd70 : tyd Tryd.prog 70 = some (1, false) := by kernel_rfl
@[go_sem] theorem zeC70 : zeC Tryd.prog 70 = some [.any] := by kernel_rfl
@[go_sem] theorem byD70 : byD Tryd.prog 70 = some 8 := by kernel_rfl
@[go_sem] theorem tyd71 : tyd Tryd.prog 71 = some (1, false) := by kernel_rfl
@[go_sem] theorem zeC71 : zeC Tryd.prog 71 = some [.any] := by kernel_rfl
@[go_sem] theorem byD71 : byD Tryd.prog 71 = some 8 := by kernel_rfl
@[go_sem] theorem tyd72 : tyd Tryd.prog 72 = some (1, false) := by kernel_rfl
@[go_sem] theorem zeC72 : zeC Tryd.prog 72 = some [.any] := by kernel_rfl
@[go_sem] theorem byD72 : byD Tryd.prog 72 = some 8 := by kernel_rfl
@[go_sem] theorem tyd73 : tyd Tryd.prog 73 = some (1, false) := by kernel_rfl
@[go_sem] theorem zeC73 : zeC Tryd.prog 73 = some [.any] := by kernel_rfl
@[go_sem] theorem byD73 : byD Tryd.prog 73 = some 8 := by kernel_rfl
@[go_sem] theorem tyd75 : tyd Tryd.prog 75 = some (1, false) := by kernel_rfl
@[go_sem] theorem zeC75 : zeC Tryd.prog 75 = some [.any] := by kernel_rfl
@[go_sem] theorem byD75 : byD Tryd.prog 75 = some 8 := by kernel_rfl
@[go_sem] theorem tyd76 : tyd Tryd.prog 76 = some (1, false) := by kernel_rfl
@[go_sem] theorem zeC76 : zeC Tryd.prog 76 = some [.any] := by kernel_rfl
@[go_sem] theorem byD76 : byD Tryd.prog 76 = some 8 := by kernel_rfl
@[go_sem] theorem tyd77 : tyd Tryd.prog 77 = some (1, false) := by kernel_rfl
@[go_sem] theorem zeC77 : zeC Tryd.prog 77 = some [.any] := by kernel_rfl
@[go_sem] theorem byD77 : byD Tryd.prog 77 = some 8 := by kernel_rfl
@[go_sem] theorem tyd78 : tyd Tryd.prog 78 = some (1, false) := by kernel_rfl
@[go_sem] theorem zeC78 : zeC Tryd.prog 78 = some [.any] := by kernel_rfl
@[go_sem] theorem byD78 : byD Tryd.prog 78 = some 8 := by kernel_rfl
@[go_sem] theorem tyd79 : tyd Tryd.prog 79 = some (8, true) := by kernel_rfl
@[go_sem] theorem gdD79 : gdD Tryd.prog 79 = false := by kernel_rfl
@[go_sem] theorem arD79 : arD Tryd.prog 79 = some (8, 5, 1) := by kernel_rfl
@[go_sem] theorem stD79 : stD Tryd.prog 79 = none := by kernel_rfl
@[go_sem] theorem zeC79 : zeC Tryd.prog 79 = some [.int .u8 0, .int .u8 0, .int .u8 0, .int .u8 0, .int .u8 0, .int .u8 0, .int .u8 0, .int .u8 0] := by kernel_rfl
@[go_sem] theorem byD79 : byD Tryd.prog 79 = some 8 := by kernel_rfl
@[go_sem] theorem tyd80 : tyd Tryd.prog 80 = some (8, true) := by kernel_rfl
@[go_sem] theorem gdD80 : gdD Tryd.prog 80 = false := by kernel_rfl
@[go_sem] theorem arD80 : arD Tryd.prog 80 = some (8, 5, 1) := by kernel_rfl
@[go_sem] theorem stD80 : stD Tryd.prog 80 = none := by kernel_rfl
@[go_sem] theorem zeC80 : zeC Tryd.prog 80 = some [.int .u8 0, .int .u8 0, .int .u8 0, .int .u8 0, .int .u8 0, .int .u8 0, .int .u8 0, .int .u8 0] := by kernel_rfl
@[go_sem] theorem byD80 : byD Tryd.prog 80 = some 8 := by kernel_rfl
@[go_sem] theorem tyd81 : tyd Tryd.prog 81 = some (1, false) := by kernel_rfl
@[go_sem] theorem zeC81 : zeC Tryd.prog 81 = some [.int .u64 0] := by kernel_rfl
@[go_sem] theorem byD81 : byD Tryd.prog 81 = some 8 := by kernel_rfl
@[go_sem] theorem inD81 : inD Tryd.prog 81 = some .u64 := by kernel_rfl
@[go_sem] theorem und81 : Tryd.prog.underlying 81 = some (.int .u64) := by kernel_rfl
@[go_sem] theorem valD81 : valD Tryd.prog 81 = some (some .u64) := by kernel_rfl
@[go_sem] theorem tyd82 : tyd Tryd.prog 82 = some (1, false) := by kernel_rfl
@[go_sem] theorem zeC82 : zeC Tryd.prog 82 = some [.nilp] := by kernel_rfl
@[go_sem] theorem byD82 : byD Tryd.prog 82 = some 8 := by kernel_rfl
@[go_sem] theorem tyd83 : tyd Tryd.prog 83 = some (1, false) := by kernel_rfl
@[go_sem] theorem slD83 : slD Tryd.prog 83 = some (80, 8) := by kernel_rfl
@[go_sem] theorem zeC83 : zeC Tryd.prog 83 = some [.nilsl] := by kernel_rfl
@[go_sem] theorem byD83 : byD Tryd.prog 83 = some 24 := by kernel_rfl
@[go_sem] theorem tyd84 : tyd Tryd.prog 84 = some (1, false) := by kernel_rfl
@[go_sem] theorem slD84 : slD Tryd.prog 84 = some (28, 1) := by kernel_rfl
@[go_sem] theorem zeC84 : zeC Tryd.prog 84 = some [.nilsl] := by kernel_rfl
@[go_sem] theorem byD84 : byD Tryd.prog 84 = some 24 := by kernel_rfl
@[go_sem] theorem tyd85 : tyd Tryd.prog 85 = some (12, true) := by kernel_rfl
@[go_sem] theorem flD85_0 : flD Tryd.prog 85 0 = some (80, 0, 8) := by kernel_rfl
@[go_sem] theorem flD85_1 : flD Tryd.prog 85 1 = some (28, 8, 1) := by kernel_rfl
@[go_sem] theorem flD85_2 : flD Tryd.prog 85 2 = some (83, 9, 1) := by kernel_rfl
@[go_sem] theorem flD85_3 : flD Tryd.prog 85 3 = some (84, 10, 1) := by kernel_rfl
@[go_sem] theorem flD85_4 : flD Tryd.prog 85 4 = some (3, 11, 1) := by kernel_rfl
@[go_sem] theorem stD85 : stD Tryd.prog 85 = some [(0, 8), (8, 1), (9, 1), (10, 1), (11, 1)] := by kernel_rfl
@[go_sem] theorem zeC85 : zeC Tryd.prog 85 = some [.int .u8 0, .int .u8 0, .int .u8 0, .int .u8 0, .int .u8 0, .int .u8 0, .int .u8 0, .int .u8 0, .nilsl, .nilsl, .nilsl, .int .i64 0] := by kernel_rfl
@[go_sem] theorem byD85 : byD Tryd.prog 85 = some 88 := by kernel_rfl
@[go_sem] theorem tyd86 : tyd Tryd.prog 86 = some (12, true) := by kernel_rfl
@[go_sem] theorem flD86_0 : flD Tryd.prog 86 0 = some (80, 0, 8) := by kernel_rfl
@[go_sem] theorem flD86_1 : flD Tryd.prog 86 1 = some (28, 8, 1) := by kernel_rfl
@[go_sem] theorem flD86_2 : flD Tryd.prog 86 2 = some (83, 9, 1) := by kernel_rfl
@[go_sem] theorem flD86_3 : flD Tryd.prog 86 3 = some (84, 10, 1) := by kernel_rfl
@[go_sem] theorem flD86_4 : flD Tryd.prog 86 4 = some (3, 11, 1) := by kernel_rfl
@[go_sem] theorem stD86 : stD Tryd.prog 86 = some [(0, 8), (8, 1), (9, 1), (10, 1), (11, 1)] := by kernel_rfl
@[go_sem] theorem zeC86 : zeC Tryd.prog 86 = some [.int .u8 0, .int .u8 0, .int .u8 0, .int .u8 0, .int .u8 0, .int .u8 0, .int .u8 0, .int .u8 0, .nilsl, .nilsl, .nilsl, .int .i64 0] := by kernel_rfl
@[go_sem] theorem byD86 : byD Tryd.prog 86 = some 88 := by kernel_rfl
@[go_sem] theorem tyd87 : tyd Tryd.prog 87 = some (1, false) := by kernel_rfl
@[go_sem] theorem zeC87 : zeC Tryd.prog 87 = some [.any] := by kernel_rfl
@[go_sem] theorem byD87 : byD Tryd.prog 87 = some 8 := by kernel_rfl
@[go_sem] theorem tyd88 : tyd Tryd.prog 88 = some (1, false) := by kernel_rfl
@[go_sem] theorem zeC88 : zeC Tryd.prog 88 = some [.any] := by kernel_rfl
@[go_sem] theorem byD88 : byD Tryd.prog 88 = some 8 := by kernel_rfl
@[go_sem] theorem tyd89 : tyd Tryd.prog 89 = some (1, false) := by kernel_rfl
@[go_sem] theorem zeC89 : zeC Tryd.prog 89 = some [.any] := by kernel_rfl
@[go_sem] theorem byD89 : byD Tryd.prog 89 = some 8 := by kernel_rfl
@[go_sem] theorem tyd90 : tyd Tryd.prog 90 = some (1, false) := by kernel_rfl
@[go_sem] theorem zeC90 : zeC Tryd.prog 90 = some [.any] := by kernel_rfl
@[go_sem] theorem byD90 : byD Tryd.prog 90 = some 8 := by kernel_rfl
@[go_sem] theorem tyd91 : tyd Tryd.prog 91 = some (1, false) := by kernel_rfl
@[go_sem] theorem zeC91 : zeC Tryd.prog 91 = some [.any] := by kernel_rfl
@[go_sem] theorem byD91 : byD Tryd.prog 91 = some 8 := by kernel_rfl
@[go_sem] theorem tyd92 : tyd Tryd.prog 92 = some (1, false) := by kernel_rfl
@[go_sem] theorem zeC92 : zeC Tryd.prog 92 = some [.any] := by kernel_rfl
@[go_sem] theorem byD92 : byD Tryd.prog 92 = some 8 := by kernel_rfl
@[go_sem] theorem tyd93 : tyd Tryd.prog 93 = some (1, false) := by kernel_rfl
@[go_sem] theorem zeC93 : zeC Tryd.prog 93 = some [.any] := by kernel_rfl
@[go_sem] theorem byD93 : byD Tryd.prog 93 = some 8 := by kernel_rfl
@[go_sem] theorem tyd94 : tyd Tryd.prog 94 = some (1, false) := by kernel_rfl
@[go_sem] theorem zeC94 : zeC Tryd.prog 94 = some [.any] := by kernel_rfl
@[go_sem] theorem byD94 : byD Tryd.prog 94 = some 8 := by kernel_rfl
@[go_sem] theorem tyd95 : tyd Tryd.prog 95 = some (1, false) := by kernel_rfl
@[go_sem] theorem zeC95 : zeC Tryd.prog 95 = some [.any] := by kernel_rfl
@[go_sem] theorem byD95 : byD Tryd.prog 95 = some 8 := by kernel_rfl
@[go_sem] theorem tyd96 : tyd Tryd.prog 96 = some (1, false) := by kernel_rfl
@[go_sem] theorem zeC96 : zeC Tryd.prog 96 = some [.any] := by kernel_rfl
@[go_sem] theorem byD96 : byD Tryd.prog 96 = some 8 := by kernel_rfl
@[go_sem] theorem tyd97 : tyd Tryd.prog 97 = some (1, false) := by kernel_rfl
@[go_sem] theorem zeC97 : zeC Tryd.prog 97 = some [.any] := by kernel_rfl
@[go_sem] theorem byD97 : byD Tryd.prog 97 = some 8 := by kernel_rfl
@[go_sem] theorem tyd98 : tyd Tryd.prog 98 = some (1, false) := by kernel_rfl
@[go_sem] theorem zeC98 : zeC Tryd.prog 98 = some [.any] := by kernel_rfl
@[go_sem] theorem byD98 : byD Tryd.prog 98 = some 8 := by kernel_rfl
@[go_sem] theorem tyd99 : tyd Tryd.prog 99 = some (1, false) := by kernel_rfl
@[go_sem] theorem zeC99 : zeC Tryd.prog 99 = some [.any] := by kernel_rfl
@[go_sem] theorem byD99 : byD Tryd.prog 99 = some 8 := by kernel_rfl
@[go_sem] theorem tyd100 : tyd Tryd.prog 100 = some (1, false) := by kernel_rfl
@[go_sem] theorem zeC100 : zeC Tryd.prog 100 = some [.any] := by kernel_rfl
@[go_sem] theorem byD100 : byD Tryd.prog 100 = some 8 := by kernel_rfl
@[go_sem] theorem tyd101 : tyd Tryd.prog 101 = some (1, false) := by kernel_rfl
@[go_sem] theorem zeC101 : zeC Tryd.prog 101 = some [.any] := by kernel_rfl
@[go_sem] theorem byD101 : byD Tryd.prog 101 = some 8 := by kernel_rfl
@[go_sem] theorem tyd102 : tyd Tryd.prog 102 = some (1, false) := by kernel_rfl
@[go_sem] theorem zeC102 : zeC Tryd.prog 102 = some [.any] := by kernel_rfl
@[go_sem] theorem byD102 : byD Tryd.prog 102 = some 8 := by kernel_rfl
@[go_sem] theorem tyd103 : tyd Tryd.prog 103 = some (1, false) := by kernel_rfl
@[go_sem] theorem zeC103 : zeC Tryd.prog 103 = some [.any] := by kernel_rfl
@[go_sem] theorem byD103 : byD Tryd.prog 103 = some 8 := by kernel_rfl
@[go_sem] theorem tyd104 : tyd Tryd.prog 104 = some (1, false) := by kernel_rfl
@[go_sem] theorem zeC104 : zeC Tryd.prog 104 = some [.any] := by kernel_rfl
@[go_sem] theorem byD104 : byD Tryd.prog 104 = some 8 := by kernel_rfl
@[go_sem] theorem tyd105 : tyd Tryd.prog 105 = some (1, false) := by kernel_rfl
@[go_sem] theorem zeC105 : zeC Tryd.prog 105 = some [.any] := by kernel_rfl
@[go_sem] theorem byD105 : byD Tryd.prog 105 = some 8 := by kernel_rfl
@[go_sem] theorem tyd106 : tyd Tryd.prog 106 = some (1, false) := by kernel_rfl
@[go_sem] theorem zeC106 : zeC Tryd.prog 106 = some [.any] := by kernel_rfl
@[go_sem] theorem byD106 : byD Tryd.prog 106 = some 8 := by kernel_rfl
@[go_sem] theorem tyd107 : tyd Tryd.prog 107 = some (1, false) := by kernel_rfl
@[go_sem] theorem zeC107 : zeC Tryd.prog 107 = some [.any] := by kernel_rfl
@[go_sem] theorem byD107 : byD Tryd.prog 107 = some 8 := by kernel_rfl
@[go_sem] theorem tyd108 : tyd Tryd.prog 108 = some (1, false) := by kernel_rfl
@[go_sem] theorem zeC108 : zeC Tryd.prog 108 = some [.nilp] := by kernel_rfl
@[go_sem] theorem byD108 : byD Tryd.prog 108 = some 8 := by kernel_rfl
@[go_sem] theorem tyd109 : tyd Tryd.prog 109 = some (1, false) := by kernel_rfl
@[go_sem] theorem zeC109 : zeC Tryd.prog 109 = some [.any] := by kernel_rfl
@[go_sem] theorem byD109 : byD Tryd.prog 109 = some 8 := by kernel_rfl
@[go_sem] theorem tyd110 : tyd Tryd.prog 110 = some (3, true) := by kernel_rfl
@[go_sem] theorem flD110_0 : flD Tryd.prog 110 0 = some (3, 0, 1) := by kernel_rfl
@[go_sem] theorem flD110_1 : flD Tryd.prog 110 1 = some (25, 1, 1) := by kernel_rfl
@[go_sem] theorem flD110_2 : flD Tryd.prog 110 2 = some (56, 2, 1) := by kernel_rfl
@[go_sem] theorem stD110 : stD Tryd.prog 110 = some [(0, 1), (1, 1), (2, 1)] := by kernel_rfl
@[go_sem] theorem zeC110 : zeC Tryd.prog 110 = some [.int .i64 0, .nilsl, .nilsl] := by kernel_rfl
@[go_sem] theorem byD110 : byD Tryd.prog 110 = some 56 := by kernel_rfl
@[go_sem] theorem tyd111 : tyd Tryd.prog 111 = some (3, true) := by kernel_rfl
@[go_sem] theorem flD111_0 : flD Tryd.prog 111 0 = some (3, 0, 1) := by kernel_rfl
@[go_sem] theorem flD111_1 : flD Tryd.prog 111 1 = some (25, 1, 1) := by kernel_rfl
@[go_sem] theorem flD111_2 : flD Tryd.prog 111 2 = some (56, 2, 1) := by kernel_rfl
@[go_sem] theorem stD111 : stD Tryd.prog 111 = some [(0, 1), (1, 1), (2, 1)] := by kernel_rfl
@[go_sem] theorem zeC111 : zeC Tryd.prog 111 = some [.int .i64 0, .nilsl, .nilsl] := by kernel_rfl
@[go_sem] theorem byD111 : byD Tryd.prog 111 = some 56 := by kernel_rfl
@[go_sem] theorem tyd112 : tyd Tryd.prog 112 = some (1, false) := by kernel_rfl
@[go_sem] theorem zeC112 : zeC Tryd.prog 112 = some [.any] := by kernel_rfl
@[go_sem] theorem byD112 : byD Tryd.prog 112 = some 8 := by kernel_rfl
@[go_sem] theorem tyd113 : tyd Tryd.prog 113 = some (1, false) := by kernel_rfl
@[go_sem] theorem zeC113 : zeC Tryd.prog 113 = some [.any] := by kernel_rfl
@[go_sem] theorem byD113 : byD Tryd.prog 113 = some 8 := by kernel_rfl
@[go_sem] theorem tyd114 : tyd Tryd.prog 114 = some (1, false) := by kernel_rfl
@[go_sem] theorem zeC114 : zeC Tryd.prog 114 = some [.nilp] := by kernel_rfl
@[go_sem] theorem byD114 : byD Tryd.prog 114 = some 8 := by kernel_rfl
@[go_sem] theorem tyd115 : tyd Tryd.prog 115 = some (64, true) := by kernel_rfl
@[go_sem] theorem gdD115 : gdD Tryd.prog 115 = false := by kernel_rfl
@[go_sem] theorem arD115 : arD Tryd.prog 115 = some (64, 5, 1) := by kernel_rfl
@[go_sem] theorem stD115 : stD Tryd.prog 115 = none := by kernel_rfl
@[go_sem] theorem byD115 : byD Tryd.prog 115 = some 64 := by kernel_rfl
@[go_sem] theorem tyd116 : tyd Tryd.prog 116 = some (1, false) := by kernel_rfl
@[go_sem] theorem zeC116 : zeC Tryd.prog 116 = some [.int .u64 0] := by kernel_rfl
@[go_sem] theorem byD116 : byD Tryd.prog 116 = some 8 := by kernel_rfl
@[go_sem] theorem inD116 : inD Tryd.prog 116 = some .u64 := by kernel_rfl
@[go_sem] theorem und116 : Tryd.prog.underlying 116 = some (.int .u64) := by kernel_rfl
@[go_sem] theorem valD116 : valD Tryd.prog 116 = some (some .u64) := by kernel_rfl
@[go_sem] theorem tyd117 : tyd Tryd.prog 117 = some (1, false) := by kernel_rfl
@[go_sem] theorem zeC117 : zeC Tryd.prog 117 = some [.any] := by kernel_rfl
@[go_sem] theorem byD117 : byD Tryd.prog 117 = some 8 := by kernel_rfl
@[go_sem] theorem tyd118 : tyd Tryd.prog 118 = some (1, false) := by kernel_rfl
@[go_sem] theorem zeC118 : zeC Tryd.prog 118 = some [.any] := by kernel_rfl
@[go_sem] theorem byD118 : byD Tryd.prog 118 = some 8 := by kernel_rfl
@[go_sem] theorem tyd119 : tyd Tryd.prog 119 = some (1, false) := by kernel_rfl
@[go_sem] theorem zeC119 : zeC Tryd.prog 119 = some [.any] := by kernel_rfl
@[go_sem] theorem byD119 : byD Tryd.prog 119 = some 8 := by kernel_rfl
@[go_sem] theorem tyd120 : tyd Tryd.prog 120 = some (4, true) := by kernel_rfl
@[go_sem] theorem flD120_0 : flD Tryd.prog 120 0 = some (17, 0, 1) := by kernel_rfl
@[go_sem] theorem flD120_1 : flD Tryd.prog 120 1 = some (17, 1, 1) := by kernel_rfl
@[go_sem] theorem flD120_2 : flD Tryd.prog 120 2 = some (17, 2, 1) := by kernel_rfl
@[go_sem] theorem flD120_3 : flD Tryd.prog 120 3 = some (9, 3, 1) := by kernel_rfl
@[go_sem] theorem stD120 : stD Tryd.prog 120 = some [(0, 1), (1, 1), (2, 1), (3, 1)] := by kernel_rfl
@[go_sem] theorem zeC120 : zeC Tryd.prog 120 = some [.nilp, .nilp, .nilp, .str ByteArray.empty] := by kernel_rfl
@[go_sem] theorem byD120 : byD Tryd.prog 120 = some 40 := by kernel_rfl
@[go_sem] theorem tyd121 : tyd Tryd.prog 121 = some (4, true) := by kernel_rfl
@[go_sem] theorem flD121_0 : flD Tryd.prog 121 0 = some (17, 0, 1) := by kernel_rfl
@[go_sem] theorem flD121_1 : flD Tryd.prog 121 1 = some (17, 1, 1) := by kernel_rfl
@[go_sem] theorem flD121_2 : flD Tryd.prog 121 2 = some (17, 2, 1) := by kernel_rfl
@[go_sem] theorem flD121_3 : flD Tryd.prog 121 3 = some (9, 3, 1) := by kernel_rfl
@[go_sem] theorem stD121 : stD Tryd.prog 121 = some [(0, 1), (1, 1), (2, 1), (3, 1)] := by kernel_rfl
@[go_sem] theorem zeC121 : zeC Tryd.prog 121 = some [.nilp, .nilp, .nilp, .str ByteArray.empty] := by kernel_rfl
@[go_sem] theorem byD121 : byD Tryd.prog 121 = some 40 := by kernel_rfl
@[go_sem] theorem tyd122 : tyd Tryd.prog 122 = some (0, true) := by kernel_rfl
@[go_sem] theorem arD122 : arD Tryd.prog 122 = some (0, 16, 1) := by kernel_rfl
@[go_sem] theorem stD122 : stD Tryd.prog 122 = none := by kernel_rfl
@[go_sem] theorem byD122 : byD Tryd.prog 122 = some 0 := by kernel_rfl
@[go_sem] theorem tyd123 : tyd Tryd.prog 123 = some (0, true) := by kernel_rfl
@[go_sem] theorem flD123_0 : flD Tryd.prog 123 0 = some (122, 0, 0) := by kernel_rfl
@[go_sem] theorem stD123 : stD Tryd.prog 123 = some [(0, 0)] := by kernel_rfl
@[go_sem] theorem byD123 : byD Tryd.prog 123 = some 0 := by kernel_rfl
@[go_sem] theorem tyd124 : tyd Tryd.prog 124 = some (0, true) := by kernel_rfl
@[go_sem] theorem flD124_0 : flD Tryd.prog 124 0 = some (122, 0, 0) := by kernel_rfl
@[go_sem] theorem stD124 : stD Tryd.prog 124 = some [(0, 0)] := by kernel_rfl
@[go_sem] theorem byD124 : byD Tryd.prog 124 = some 0 := by kernel_rfl
@[go_sem] theorem tyd125 : tyd Tryd.prog 125 = some (1, false) := by kernel_rfl
@[go_sem] theorem zeC125 : zeC Tryd.prog 125 = some [.any] := by kernel_rfl
@[go_sem] theorem byD125 : byD Tryd.prog 125 = some 8 := by kernel_rfl
@[go_sem] theorem tyd126 : tyd Tryd.prog 126 = some (1, false) := by kernel_rfl
@[go_sem] theorem zeC126 : zeC Tryd.prog 126 = some [.int .u32 0] := by kernel_rfl
@[go_sem] theorem byD126 : byD Tryd.prog 126 = some 4 := by kernel_rfl
@[go_sem] theorem inD126 : inD Tryd.prog 126 = some .u32 := by kernel_rfl
@[go_sem] theorem und126 : Tryd.prog.underlying 126 = some (.int .u32) := by kernel_rfl
@[go_sem] theorem valD126 : valD Tryd.prog 126 = some (some .u32) := by kernel_rfl
@[go_sem] theorem tyd127 : tyd Tryd.prog 127 = some (1, false) := by kernel_rfl
@[go_sem] theorem zeC127 : zeC Tryd.prog 127 = some [.int .u8 0] := by kernel_rfl
@[go_sem] theorem byD127 : byD Tryd.prog 127 = some 1 := by kernel_rfl
@[go_sem] theorem inD127 : inD Tryd.prog 127 = some .u8 := by kernel_rfl
@[go_sem] theorem und127 : Tryd.prog.underlying 127 = some (.int .u8) := by kernel_rfl
@[go_sem] theorem valD127 : valD Tryd.prog 127 = some (some .u8) := by kernel_rfl
@[go_sem] theorem tyd128 : tyd Tryd.prog 128 = some (1, false) := by kernel_rfl
@[go_sem] theorem zeC128 : zeC Tryd.prog 128 = some [.int .u8 0] := by kernel_rfl
@[go_sem] theorem byD128 : byD Tryd.prog 128 = some 1 := by kernel_rfl
@[go_sem] theorem inD128 : inD Tryd.prog 128 = some .u8 := by kernel_rfl
@[go_sem] theorem und128 : Tryd.prog.underlying 128 = some (.int .u8) := by kernel_rfl
@[go_sem] theorem valD128 : valD Tryd.prog 128 = some (some .u8) := by kernel_rfl
@[go_sem] theorem tyd129 : tyd Tryd.prog 129 = some (1, false) := by kernel_rfl
@[go_sem] theorem zeC129 : zeC Tryd.prog 129 = some [.any] := by kernel_rfl
@[go_sem] theorem byD129 : byD Tryd.prog 129 = some 8 := by kernel_rfl
@[go_sem] theorem tyd130 : tyd Tryd.prog 130 = some (1, false) := by kernel_rfl
@[go_sem] theorem zeC130 : zeC Tryd.prog 130 = some [.nilp] := by kernel_rfl
@[go_sem] theorem byD130 : byD Tryd.prog 130 = some 8 := by kernel_rfl
@[go_sem] theorem tyd131 : tyd Tryd.prog 131 = some (1, false) := by kernel_rfl
@[go_sem] theorem zeC131 : zeC Tryd.prog 131 = some [.int .i32 0] := by kernel_rfl
@[go_sem] theorem byD131 : byD Tryd.prog 131 = some 4 := by kernel_rfl
@[go_sem] theorem inD131 : inD Tryd.prog 131 = some .i32 := by kernel_rfl
@[go_sem] theorem und131 : Tryd.prog.underlying 131 = some (.int .i32) := by kernel_rfl
@[go_sem] theorem valD131 : valD Tryd.prog 131 = some (some .i32) := by kernel_rfl
@[go_sem] theorem tyd132 : tyd Tryd.prog 132 = some (1, false) := by kernel_rfl
@[go_sem] theorem zeC132 : zeC Tryd.prog 132 = some [.int .i32 0] := by kernel_rfl
@[go_sem] theorem byD132 : byD Tryd.prog 132 = some 4 := by kernel_rfl
@[go_sem] theorem inD132 : inD Tryd.prog 132 = some .i32 := by kernel_rfl
@[go_sem] theorem und132 : Tryd.prog.underlying 132 = some (.int .i32) := by kernel_rfl
@[go_sem] theorem valD132 : valD Tryd.prog 132 = some (some .i32) := by kernel_rfl
@[go_sem] theorem tyd133 : tyd Tryd.prog 133 = some (11, true) := by kernel_rfl
@[go_sem] theorem flD133_0 : flD Tryd.prog 133 0 = some (12, 0, 1) := by kernel_rfl
@[go_sem] theorem flD133_1 : flD Tryd.prog 133 1 = some (12, 1, 1) := by kernel_rfl
@[go_sem] theorem flD133_2 : flD Tryd.prog 133 2 = some (126, 2, 1) := by kernel_rfl
@[go_sem] theorem flD133_3 : flD Tryd.prog 133 3 = some (127, 3, 1) := by kernel_rfl
@[go_sem] theorem flD133_4 : flD Tryd.prog 133 4 = some (5, 4, 1) := by kernel_rfl
@[go_sem] theorem flD133_5 : flD Tryd.prog 133 5 = some (5, 5, 1) := by kernel_rfl
@[go_sem] theorem flD133_6 : flD Tryd.prog 133 6 = some (128, 6, 1) := by kernel_rfl
@[go_sem] theorem flD133_7 : flD Tryd.prog 133 7 = some (129, 7, 1) := by kernel_rfl
@[go_sem] theorem flD133_8 : flD Tryd.prog 133 8 = some (130, 8, 1) := by kernel_rfl
@[go_sem] theorem flD133_9 : flD Tryd.prog 133 9 = some (131, 9, 1) := by kernel_rfl
@[go_sem] theorem flD133_10 : flD Tryd.prog 133 10 = some (132, 10, 1) := by kernel_rfl
@[go_sem] theorem stD133 : stD Tryd.prog 133 = some [(0, 1), (1, 1), (2, 1), (3, 1), (4, 1), (5, 1), (6, 1), (7, 1), (8, 1), (9, 1), (10, 1)] := by kernel_rfl
@[go_sem] theorem zeC133 : zeC Tryd.prog 133 = some [.int .u64 0, .int .u64 0, .int .u32 0, .int .u8 0, .int .u8 0, .int .u8 0, .int .u8 0, .any, .nilp, .int .i32 0, .int .i32 0] := by kernel_rfl
@[go_sem] theorem byD133 : byD Tryd.prog 133 = some 48 := by kernel_rfl
@[go_sem] theorem tyd134 : tyd Tryd.prog 134 = some (11, true) := by kernel_rfl
@[go_sem] theorem flD134_0 : flD Tryd.prog 134 0 = some (12, 0, 1) := by kernel_rfl
@[go_sem] theorem flD134_1 : flD Tryd.prog 134 1 = some (12, 1, 1) := by kernel_rfl
@[go_sem] theorem flD134_2 : flD Tryd.prog 134 2 = some (126, 2, 1) := by kernel_rfl
@[go_sem] theorem flD134_3 : flD Tryd.prog 134 3 = some (127, 3, 1) := by kernel_rfl
@[go_sem] theorem flD134_4 : flD Tryd.prog 134 4 = some (5, 4, 1) := by kernel_rfl
@[go_sem] theorem flD134_5 : flD Tryd.prog 134 5 = some (5, 5, 1) := by kernel_rfl
@[go_sem] theorem flD134_6 : flD Tryd.prog 134 6 = some (128, 6, 1) := by kernel_rfl
@[go_sem] theorem flD134_7 : flD Tryd.prog 134 7 = some (129, 7, 1) := by kernel_rfl
@[go_sem] theorem flD134_8 : flD Tryd.prog 134 8 = some (130, 8, 1) := by kernel_rfl
@[go_sem] theorem flD134_9 : flD Tryd.prog 134 9 = some (131, 9, 1) := by kernel_rfl
@[go_sem] theorem flD134_10 : flD Tryd.prog 134 10 = some (132, 10, 1) := by kernel_rfl
@[go_sem] theorem stD134 : stD Tryd.prog 134 = some [(0, 1), (1, 1), (2, 1), (3, 1), (4, 1), (5, 1), (6, 1), (7, 1), (8, 1), (9, 1), (10, 1)] := by kernel_rfl
@[go_sem] theorem zeC134 : zeC Tryd.prog 134 = some [.int .u64 0, .int .u64 0, .int .u32 0, .int .u8 0, .int .u8 0, .int .u8 0, .int .u8 0, .any, .nilp, .int .i32 0, .int .i32 0] := by kernel_rfl
@[go_sem] theorem byD134 : byD Tryd.prog 134 = some 48 := by kernel_rfl
@[go_sem] theorem ent2 : enters Tryd.prog 2 = true := by kernel_rfl
@[go_sem] theorem ent3 : enters Tryd.prog 3 = true := by kernel_rfl
@[go_sem] theorem ent4 : enters Tryd.prog 4 = true := by kernel_rfl
@[go_sem] theorem ent5 : enters Tryd.prog 5 = true := by kernel_rfl
@[go_sem] theorem ent6 : enters Tryd.prog 6 = true := by kernel_rfl
@[go_sem] theorem ent7 : enters Tryd.prog 7 = true := by kernel_rfl
@[go_sem] theorem ent8 : enters Tryd.prog 8 = true := by kernel_rfl
@[go_sem] theorem ent9 : enters Tryd.prog 9 = true := by kernel_rfl
@[go_sem] theorem ent10 : enters Tryd.prog 10 = true := by kernel_rfl
@[go_sem] theorem ent11 : enters Tryd.prog 11 = true := by kernel_rfl
@[go_sem] theorem ent12 : enters Tryd.prog 12 = true := by kernel_rfl
@[go_sem] theorem ent13 : enters Tryd.prog 13 = true := by kernel_rfl
@[go_sem] theorem ent14 : enters Tryd.prog 14 = true := by kernel_rfl
@[go_sem] theorem ent15 : enters Tryd.prog 15 = true := by kernel_rfl
@[go_sem] theorem ent16 : enters Tryd.prog 16 = true := by kernel_rfl
@[go_sem] theorem ent17 : enters Tryd.prog 17 = true := by kernel_rfl
@[go_sem] theorem ent18 : enters Tryd.prog 18 = true := by kernel_rfl
@[go_sem] theorem ent19 : enters Tryd.prog 19 = true := by kernel_rfl
@[go_sem] theorem ent20 : enters Tryd.prog 20 = true := by kernel_rfl
@[go_sem] theorem ent21 : enters Tryd.prog 21 = true := by kernel_rfl
@[go_sem] theorem ent22 : enters Tryd.prog 22 = true := by kernel_rfl
@[go_sem] theorem ent23 : enters Tryd.prog 23 = true := by kernel_rfl
@[go_sem] theorem ent24 : enters Tryd.prog 24 = true := by kernel_rfl
@[go_sem] theorem ent25 : enters Tryd.prog 25 = true := by kernel_rfl
@[go_sem] theorem ent26 : enters Tryd.prog 26 = true := by kernel_rfl
@[go_sem] theorem ent27 : enters Tryd.prog 27 = true := by kernel_rfl
@[go_sem] theorem ent28 : enters Tryd.prog 28 = true := by kernel_rfl
@[go_sem] theorem ent29 : enters Tryd.prog 29 = true := by kernel_rfl
@[go_sem] theorem ent30 : enters Tryd.prog 30 = true := by kernel_rfl
@[go_sem] theorem ent31 : enters Tryd.prog 31 = true := by kernel_rfl
@[go_sem] theorem ent32 : enters Tryd.prog 32 = true := by kernel_rfl
@[go_sem] theorem ent33 : enters Tryd.prog 33 = true := by kernel_rfl
@[go_sem] theorem ent34 : enters Tryd.prog 34 = true := by kernel_rfl
@[go_sem] theorem ent35 : enters Tryd.prog 35 = true := by kernel_rfl
@[go_sem] theorem ent36 : enters Tryd.prog 36 = true := by kernel_rfl
@[go_sem] theorem ent37 : enters Tryd.prog 37 = true := by kernel_rfl
@[go_sem] theorem ent38 : enters Tryd.prog 38 = true := by kernel_rfl
@[go_sem] theorem ent39 : enters Tryd.prog 39 = true := by kernel_rfl
@[go_sem] theorem ent40 : enters Tryd.prog 40 = true := by kernel_rfl
@[go_sem] theorem ent41 : enters Tryd.prog 41 = true := by kernel_rfl
@[go_sem] theorem ent42 : enters Tryd.prog 42 = true := by kernel_rfl
@[go_sem] theorem ent43 : enters Tryd.prog 43 = true := by kernel_rfl
@[go_sem] theorem ent44 : enters Tryd.prog 44 = true := by kernel_rfl
@[go_sem] theorem ent45 : enters Tryd.prog 45 = true := by kernel_rfl
@[go_sem] theorem ent46 : enters Tryd.prog 46 = true := by kernel_rfl
@[go_sem] theorem ent47 : enters Tryd.prog 47 = true := by kernel_rfl
@[go_sem] theorem ent48 : enters Tryd.prog 48 = true := by kernel_rfl
@[go_sem] theorem ent49 : enters Tryd.prog 49 = true := by kernel_rfl
@[go_sem] theorem ent50 : enters Tryd.prog 50 = true := by kernel_rfl
@[go_sem] theorem ent51 : enters Tryd.prog 51 = true := by kernel_rfl
@[go_sem] theorem ent52 : enters Tryd.prog 52 = true := by kernel_rfl
@[go_sem] theorem ent53 : enters Tryd.prog 53 = true := by kernel_rfl
@[go_sem] theorem ent54 : enters Tryd.prog 54 = true := by kernel_rfl
@[go_sem] theorem ent55 : enters Tryd.prog 55 = true := by kernel_rfl
@[go_sem] theorem ent56 : enters Tryd.prog 56 = true := by kernel_rfl
@[go_sem] theorem ent57 : enters Tryd.prog 57 = true := by kernel_rfl
@[go_sem] theorem ent58 : enters Tryd.prog 58 = true := by kernel_rfl
@[go_sem] theorem ent59 : enters Tryd.prog 59 = true := by kernel_rfl
@[go_sem] theorem ent60 : enters Tryd.prog 60 = true := by kernel_rfl
@[go_sem] theorem ent61 : enters Tryd.prog 61 = true := by kernel_rfl
@[go_sem] theorem ent62 : enters Tryd.prog 62 = true := by kernel_rfl
@[go_sem] theorem ent63 : enters Tryd.prog 63 = true := by kernel_rfl
@[go_sem] theorem ent64 : enters Tryd.prog 64 = true := by kernel_rfl
@[go_sem] theorem ent65 : enters Tryd.prog 65 = true := by kernel_rfl
@[go_sem] theorem ent66 : enters Tryd.prog 66 = true := by kernel_rfl
@[go_sem] theorem ent67 : enters Tryd.prog 67 = true := by kernel_rfl
@[go_sem] theorem ent68 : enters Tryd.prog 68 = true := by kernel_rfl
@[go_sem] theorem ent69 : enters Tryd.prog 69 = true := by kernel_rfl
@[go_sem] theorem ent70 : enters Tryd.prog 70 = true := by kernel_rfl
@[go_sem] theorem ent71 : enters Tryd.prog 71 = true := by kernel_rfl
@[go_sem] theorem ent72 : enters Tryd.prog 72 = true := by kernel_rfl
@[go_sem] theorem ent73 : enters Tryd.prog 73 = true := by kernel_rfl
@[go_sem] theorem ent74 : enters Tryd.prog 74 = true := by kernel_rfl
@[go_sem] theorem ent75 : enters Tryd.prog 75 = true := by kernel_rfl
@[go_sem] theorem ent76 : enters Tryd.prog 76 = true := by kernel_rfl
@[go_sem] theorem ent77 : enters Tryd.prog 77 = true := by kernel_rfl
@[go_sem] theorem ent78 : enters Tryd.prog 78 = true := by kernel_rfl
@[go_sem] theorem ent79 : enters Tryd.prog 79 = true := by kernel_rfl
@[go_sem] theorem ent80 : enters Tryd.prog 80 = true := by kernel_rfl
@[go_sem] theorem ent81 : enters Tryd.prog 81 = true := by kernel_rfl
@[go_sem] theorem ent82 : enters Tryd.prog 82 = true := by kernel_rfl
@[go_sem] theorem ent83 : enters Tryd.prog 83 = true := by kernel_rfl
@[go_sem] theorem ent84 : enters Tryd.prog 84 = true := by kernel_rfl
@[go_sem] theorem ent85 : enters Tryd.prog 85 = true := by kernel_rfl
@[go_sem] theorem ent86 : enters Tryd.prog 86 = true := by kernel_rfl
@[go_sem] theorem ent87 : enters Tryd.prog 87 = true := by kernel_rfl
@[go_sem] theorem ent88 : enters Tryd.prog 88 = true := by kernel_rfl
@[go_sem] theorem ent89 : enters Tryd.prog 89 = true := by kernel_rfl
@[go_sem] theorem ent90 : enters Tryd.prog 90 = true := by kernel_rfl
@[go_sem] theorem ent91 : enters Tryd.prog 91 = true := by kernel_rfl
@[go_sem] theorem ent92 : enters Tryd.prog 92 = true := by kernel_rfl
@[go_sem] theorem ent93 : enters Tryd.prog 93 = true := by kernel_rfl
@[go_sem] theorem ent94 : enters Tryd.prog 94 = true := by kernel_rfl
@[go_sem] theorem ent95 : enters Tryd.prog 95 = true := by kernel_rfl
@[go_sem] theorem ent96 : enters Tryd.prog 96 = true := by kernel_rfl
@[go_sem] theorem ent97 : enters Tryd.prog 97 = true := by kernel_rfl
@[go_sem] theorem ent98 : enters Tryd.prog 98 = true := by kernel_rfl
@[go_sem] theorem ent99 : enters Tryd.prog 99 = true := by kernel_rfl
@[go_sem] theorem ent100 : enters Tryd.prog 100 = true := by kernel_rfl
@[go_sem] theorem ent101 : enters Tryd.prog 101 = true := by kernel_rfl
@[go_sem] theorem ent122 : enters Tryd.prog 122 = true := by kernel_rfl
end Go.Proofs.D

/- The dimension seat. -/
namespace Go.AM
def tzA : List AV := tzTab.map (AV.int .u8)
theorem globA_aux : globA 0 = some tzA := rfl
@[go_sem] theorem globA_0 : globA 0 = some tzA := Eq.trans globA_aux (Eq.refl _)
theorem tzA_len (q : Nat) : (List.drop q tzA).length = 64 - q := by rw [List.length_drop]; rfl
theorem tzA_get {q k : Nat} (hq : q < 64) (h : tzTab.getD q 0 = (k : Int)) : (List.drop q tzA).getD 0 .any = .int .u8 (k : Int) := by
  have hl : tzTab.length = 64 := rfl
  rw [← h]
  unfold tzA
  simp only [List.getD_eq_getElem?_getD, List.getElem?_drop, List.getElem?_map, Nat.add_zero]
  rw [List.getElem?_eq_getElem (by omega)]
  simp only [Option.map_some, Option.getD_some]
end Go.AM
namespace Go.Proofs.D
open Go.AM Go
theorem mixed : Tryd.prog.follows .mixedOrders = true := by kernel_rfl
end Go.Proofs.D

namespace Go.Proofs.D
open Go.AM Go
set_option maxRecDepth 100000
set_option maxHeartbeats 1000000
theorem bwords_r (n : Int) (h0 : 0 ≤ n) (h1 : n ≤ 1000000) : Reads Tryd.prog 83 false [.int .i64 n] (.int .i64 (wordsN n)) := by
 have hd : 0 ≤ (n + 64 - 1).tdiv 64 ∧ (n + 64 - 1).tdiv 64 ≤ 1000064 := by rw [Int.tdiv_eq_ediv_of_nonneg (by omega)]; omega
 refine Reads.body (rs := [.tmp 2]) Tryd.func83 rfl Tryd.ntmps83 rfl (by simp) ?_
 generalize hQr : retQ _ _ _ = Qr
 -- block 1
 refine AW.sg [0] [] trivial ?_
 refine AW.sg [2] [] trivial ?_
 -- ret 1
 rw [← hQr]
 refine AW.rt trivial ?_
 exact Wk.of_eq (by simp [wordsN])
theorem bvalid_b (N : Int) (W : List Int) (hl : W.length ≤ 9223372036854775807) (hz : 0 < W.length) : Reads Tryd.prog 74 false [.agg [.int .i64 N, .rsl 1 (words W)]] (.bool (validS N W)) := by
 have hwr := bwords_r N
 refine Reads.body (rs := [.tmp 2]) Tryd.func74 rfl Tryd.ntmps74 rfl (by simp) ?_
 generalize hQr : retQ _ _ _ = Qr
 -- block 2
 refine AW.sg [1] [1] trivial ?_
 refine AW.seq fun K1 hK1 => ?_
 refine AW.sd mixed 0 (fun ii => if ii = 14 then some (.reads false (.int .i64 (wordsN N))) else none) [1,20] [1] trivial ?_
 repeat with_reducible refine cj ?_ ?_
 all_goals try first | ((intro hh; refine ⟨hh, ?_⟩; simp at hh; exact hwr (by omega) (by omega))) | (intros; (repeat' apply And.intro) <;> first | assumption | ((intro hh; refine ⟨hh, ?_⟩; simp at hh; exact hwr (by omega) (by omega)))) | omega | exact chk (by kernel_rfl) | exact ent (by kernel_rfl) | (intro hgd; exact absurd hgd (by decide)) | rfl | exact gD | (intro _hgd; simp_all [go_sem]; done)
 refine AW.cn ?_ ?_
 ·intro hb
  refine AW.sg [2] [] trivial ?_
  -- ret 1
  rw [← hQr]
  refine AW.rt trivial ?_
  exact Wk.of_eq (by congr 1; symm; simp [validS]; intros; omega)
 ·intro hb
  have hwn := wordsN_rng (n := N) (by omega)
  have hmod : 0 ≤ N.tmod 64 ∧ N.tmod 64 < 64 := by rw [Int.tmod_eq_emod_of_nonneg (by omega)]; omega
  have hpre : 0 ≤ N ∧ N ≤ 512 ∧ (W.length : Int) = wordsN N := by omega
  have hgw : (words W).getD ((W.length : Int) - 1).toNat [] = [.int .u64 (W.getD (W.length - 1) 0)] := by rw [show ((W.length : Int) - 1).toNat = W.length - 1 by omega]; exact words_getD (by omega)
  refine AW.skip ?_
  refine hK1 _ _ _ ?_; clear hK1
  refine AW.sg [1,3] [1] trivial ?_
  refine AW.sg [2] [] (@hgw) ?_
  repeat with_reducible refine cj ?_ ?_
  all_goals try first | ((intro hh; (repeat' apply And.intro) <;> first | exact hh | omega)) | (intros; (repeat' apply And.intro) <;> first | assumption | ((intro hh; (repeat' apply And.intro) <;> first | exact hh | omega))) | omega | (intro hgd; exact absurd hgd (by decide)) | rfl | (simp only [go_sem, reduceIte, reduceCtorEq, zA, zM, zE, zL, zD, zS, zP, zB, zI, zR, hgw]; done) | (intro _hgd; simp_all [go_sem]; done)
  -- ret 2
  rw [← hQr]
  refine AW.rt trivial ?_
  exact Wk.of_eq (by simp [validS, topB, hpre.1, hpre.2.1, hpre.2.2])
theorem words_nil_get (i : Nat) : (words []).getD i [] = [] := rfl
theorem words_nil_len : (words []).length = 0 := rfl
theorem bvalid_a (N : Int) : Reads Tryd.prog 74 false [.agg [.int .i64 N, .rsl 1 (words [])]] (.bool (validS N [])) := by
 have hwr := bwords_r N
 refine Reads.body (rs := [.tmp 2]) Tryd.func74 rfl Tryd.ntmps74 rfl (by simp) ?_
 generalize hQr : retQ _ _ _ = Qr
 -- block 3
 refine AW.sg [1] [1] trivial ?_
 refine AW.seq fun K1 hK1 => ?_
 refine AW.sd mixed 0 (fun ii => if ii = 14 then some (.reads false (.int .i64 (wordsN N))) else none) [1,20] [1] (@words_nil_len) ?_
 repeat with_reducible refine cj ?_ ?_
 all_goals try first | ((intro hh; refine ⟨hh, ?_⟩; simp at hh; exact hwr (by omega) (by omega))) | (intros; (repeat' apply And.intro) <;> first | assumption | ((intro hh; refine ⟨hh, ?_⟩; simp at hh; exact hwr (by omega) (by omega)))) | omega | exact chk (by kernel_rfl) | exact ent (by kernel_rfl) | (intro hgd; exact absurd hgd (by decide)) | rfl | (simp only [go_sem, reduceIte, reduceCtorEq, zA, zM, zE, zL, zD, zS, zP, zB, zI, zR, words_nil_len]; done) | (intro _hgd; simp_all [go_sem]; done)
 refine AW.cn ?_ ?_
 ·intro hb
  refine AW.sg [2] [] trivial ?_
  -- ret 1
  rw [← hQr]
  refine AW.rt trivial ?_
  exact Wk.of_eq (by congr 1; symm; simp [validS]; intros; omega)
 ·intro hb
  have hwn := wordsN_rng (n := N) (by omega)
  obtain rfl : N = 0 := by omega
  refine AW.skip ?_
  refine hK1 _ _ _ ?_; clear hK1
  refine AW.sg [1,3] [1] (@Int.zero_tmod) ?_
  refine AW.seq fun K2 hK2 => ?_
  refine AW.regionK 0 (fun _ => none) [2] [] ?_
  simp only [go_sem, reduceIte, reduceCtorEq, zA, zM, zE, zL, zD, zS, zP, zB, zI, zR, words_nil_get, words_nil_len, List.getD_nil]
  repeat with_reducible refine cj ?_ ?_
  all_goals try first | omega | (intros; (repeat' apply And.intro) <;> first | assumption | omega | decide) | (intro hgd; exact absurd hgd (by decide)) | rfl | (simp only [go_sem, reduceIte, reduceCtorEq, zA, zM, zE, zL, zD, zS, zP, zB, zI, zR, words_nil_get, words_nil_len, List.getD_nil]; done) | (intro _hgd; simp_all [go_sem]; done)
  refine hK2 _ _ _ ?_; clear hK2
  -- ret 2
  rw [← hQr]
  refine AW.rt trivial ?_
  exact Wk.of_eq (by rfl)
theorem bvalid_r (N : Int) (W : List Int) (hl : W.length ≤ 9223372036854775807) : Reads Tryd.prog 74 false [.agg [.int .i64 N, .rsl 1 (words W)]] (.bool (validS N W)) := by
 cases W with
 | nil => exact bvalid_a N
 | cons w l => exact bvalid_b N (w :: l) hl (by simp)
def badRow (n : Nat) (x : USet) : Bool := !(decide (x.N = n) && validS x.N x.W)
theorem vrow_r (rs : List USet) (x : USet) (hl : rs.length ≤ 9223372036854775807) (hx : x.W.length ≤ 9223372036854775807) : Reads Tryd.prog 85 false [.agg (rowV x), .rptr [.rsl 2 (rs.map rowV)]] (.bool (badRow rs.length x)) := by
 have hv := bvalid_r x.N x.W hx
 unfold rowV
 refine Reads.body (rs := [.tmp 3]) Tryd.func85 rfl Tryd.ntmps85 rfl (by simp) ?_
 generalize hQr : retQ _ _ _ = Qr
 -- block 4
 refine AW.sg [1,2] [2] trivial ?_
 refine AW.so 0 (fun ii => if ii = 8 then some (.reads false (.bool (validS x.N x.W))) else none) [3] [] trivial ?_
 repeat with_reducible refine cj ?_ ?_
 all_goals try first | ((intro hh; exact ⟨hh, hv⟩)) | (intros; (repeat' apply And.intro) <;> first | assumption | ((intro hh; exact ⟨hh, hv⟩))) | omega | exact ent (by kernel_rfl) | (intro hgd; exact absurd hgd (by decide)) | rfl | exact gD | (intro _hgd; simp_all [go_sem]; done)
 -- ret 1
 rw [← hQr]
 refine AW.rt trivial ?_
 exact Wk.of_eq (by simp [badRow])
theorem ixrow_r (rs : List USet) (hl : rs.length ≤ 9223372036854775807) (hx : ∀ x ∈ rs, x.W.length ≤ 9223372036854775807) : Reads Tryd.prog 66 false [.rsl 2 (rs.map rowV), .fn 85 [.rptr [.rsl 2 (rs.map rowV)]]] (.int .i64 (ixf (badRow rs.length) rs)) := by
 have hbp := fun x hxm => vrow_r rs x hl (hx x hxm)
 refine Reads.body (rs := [.tmp 4]) Tryd.func66 rfl Tryd.ntmps66 rfl (by simp) ?_
 generalize hQr : retQ _ _ _ = Qr
 -- block 5
 refine AW.sg [0,1] [] trivial ?_
 refine AW.seq fun K1 hK1 => ?_
 refine AW.sg [0,1,7,8] [] trivial ?_
 refine AW.block ?_
 refine AW.loopE (fun mm ee ss kk => ∃ (j : Nat), rs.length - j = mm ∧ ee = [(0, .rsl 2 (rs.map rowV)), (1, .fn 85 [.rptr [.rsl 2 (rs.map rowV)]]), (7, .int .i64 rs.length), (8, .int .i64 (j : Nat))] ∧ ss = [] ∧ (j ≤ rs.length ∧ (rs.take j).any (badRow rs.length) = false)) ?_ ?_
 -- init 1
 ·exact ⟨_, 0, rfl, eD, eD, eT⟩
 rintro mm ee ss kk ⟨j, rfl, rfl, rfl, hI⟩
 generalize hQl1 : thenQ _ _ = Ql1
 obtain ⟨hj, hall⟩ := hI
 refine AW.sg [0,1,7,8,9] [] trivial ?_
 refine AW.seq fun K2 hK2 => ?_
 refine AW.cn ?_ ?_
 ·intro hb
  obtain ⟨x, hx⟩ := getI (l := rs) (j := j) (by omega)
  have hgx := getV (f := rowV) hx
  have hats := any_take_succ (p := badRow rs.length) hx
  have hbx := hbp x (List.mem_of_getElem? hx)
  refine AW.skip ?_
  refine hK2 _ _ _ ?_; clear hK2
  refine AW.seq fun K3 hK3 => ?_
  refine AW.block ?_
  refine AW.sg [0,1,5,7,8] [] trivial ?_
  refine AW.so 0 (fun ii => if ii = 5 then some (.reads false (.bool (badRow rs.length x))) else none) [0,1,5,7,8,16] [] (e2 @hgx @rowV.eq_1) ?_
  repeat with_reducible refine cj ?_ ?_
  all_goals try first | (exact hbx) | omega | exact ent (by kernel_rfl)
  refine AW.cn ?_ ?_
  ·intro hb
   refine AW.sg [4] [] trivial ?_
   -- ret 1
   rw [← hQl1, ← hQr]
   refine AW.rt trivial ?_
   exact Wk.of_eq (by rw [ixf_at hx hb hall])
  ·intro hb
   refine AW.skip ?_
   refine hK3 _ _ _ ?_; clear hK3
   refine AW.rg [0,1,7,8] [] trivial ?_
   -- again 1
   rw [← hQl1]; change Exists _
   exact ⟨_, eO, j + 1, rfl, eD, eD, (⟨by omega, by rw [hats, hall, hb]; rfl⟩)⟩
 ·intro hb
  -- exit 0
  refine AW.kx [] [] ?_
  rw [← hQl1]
  refine hK1 _ _ _ ?_; clear hK1
  refine AW.sg [4] [] trivial ?_
  -- ret 2
  rw [← hQr]
  refine AW.rt trivial ?_
  exact Wk.of_eq (by rw [List.take_of_length_le (by omega)] at hall; rw [ixf_none hall])
theorem ctrow_r (rs : List USet) (hl : rs.length ≤ 9223372036854775807) (hx : ∀ x ∈ rs, x.W.length ≤ 9223372036854775807) : Reads Tryd.prog 38 false [.rsl 2 (rs.map rowV), .fn 85 [.rptr [.rsl 2 (rs.map rowV)]]] (.bool (rs.any (badRow rs.length))) := by
 have h := ixrow_r rs hl hx
 have hge := ixf_ge (badRow rs.length) rs
 refine Reads.body (rs := [.tmp 4]) Tryd.func38 rfl Tryd.ntmps38 rfl (by simp) ?_
 generalize hQr : retQ _ _ _ = Qr
 -- block 6
 refine AW.sg [0,1] [] trivial ?_
 refine AW.so 0 (fun ii => if ii = 2 then some (.reads false (.int .i64 (ixf (badRow rs.length) rs))) else none) [4] [] trivial ?_
 repeat with_reducible refine cj ?_ ?_
 all_goals try first | (exact h) | omega | exact ent (by kernel_rfl)
 -- ret 1
 rw [← hQr]
 refine AW.rt trivial ?_
 exact Wk.of_eq (by rw [hge])
theorem not_any_all {α : Type} (p : α → Bool) (l : List α) : (!l.any fun x => !p x) = l.all p := by
 induction l with
 | nil => rfl
 | cons a l ih => simp only [List.any_cons, List.all_cons, Bool.not_or, ih, Bool.not_not]
theorem validR_any (rs : List USet) : validR rs = (decide (rs.length ≤ 512) && !rs.any (badRow rs.length)) := by
 unfold validR badRow; rw [not_any_all]
theorem rvalid_r (rs : List USet) (hl : rs.length ≤ 9223372036854775807) (hx : ∀ x ∈ rs, x.W.length ≤ 9223372036854775807) : Reads Tryd.prog 67 false [relV rs] (.bool (validR rs)) := by
 have h := Reads.flat (ctrow_r rs hl hx) rfl
 have hv := validR_any rs
 have e : ((rs.length : Int) ≤ 512) = (rs.length ≤ 512) := by apply propext; omega
 unfold relV
 refine Reads.body (rs := [.tmp 2]) Tryd.func67 rfl Tryd.ntmps67 rfl (by simp) ?_
 generalize hQr : retQ _ _ _ = Qr
 -- block 7
 refine AW.sg [1] [1] trivial ?_
 refine AW.so 0 (fun ii => if ii = 8 then some (.reads true (.bool (rs.any (badRow rs.length)))) else none) [2] [] trivial ?_
 repeat with_reducible refine cj ?_ ?_
 all_goals try first | ((intro hh; exact ⟨hh, h⟩)) | (intros; (repeat' apply And.intro) <;> first | assumption | ((intro hh; exact ⟨hh, h⟩))) | omega | exact ent (by kernel_rfl) | (intro hgd; exact absurd hgd (by decide)) | rfl | exact gD | (intro _hgd; simp_all [go_sem]; done)
 -- ret 1
 rw [← hQr]
 refine AW.rt trivial ?_
 exact Wk.of_eq (by rw [hv]; simp [e])
end Go.Proofs.D

namespace Go.Proofs.D
open Go.AM Go
set_option maxRecDepth 100000
set_option maxHeartbeats 1000000
end Go.Proofs.D

namespace Go.Proofs.D
open Go.AM Go
set_option maxRecDepth 100000
set_option maxHeartbeats 1000000
theorem set_getD_self {α : Type} (l : List α) (i : Nat) (d : α) : l.set i (l.getD i d) = l := by
 refine List.ext_getElem? fun k => ?_
 rw [List.getElem?_set]
 split
 ·rename_i h; subst h
  split
  ·rename_i h2; simp [List.getD_eq_getElem?_getD, h2]
  ·rename_i h2; rw [List.getElem?_eq_none (by omega)]
 ·rfl
/-- A row takes the members of another one up to a word. -/
def orUpto (A B : List Int) (j : Nat) : List Int := List.zipWith (bOr .u64) (A.take j) (B.take j) ++ A.drop j
theorem orUpto_zero (A B : List Int) : orUpto A B 0 = A := by simp [orUpto]
theorem orUpto_len {A B : List Int} (h : A.length = B.length) (j : Nat) : (orUpto A B j).length = A.length := by simp [orUpto]; omega
theorem orUpto_all {A B : List Int} (h : A.length = B.length) {j : Nat} (hj : A.length ≤ j) : orUpto A B j = List.zipWith (bOr .u64) A B := by
 unfold orUpto; rw [List.take_of_length_le hj, List.take_of_length_le (by omega), List.drop_of_length_le hj]; simp
theorem orUpto_get {A B : List Int} (h : A.length = B.length) {j k : Nat} (hk : j ≤ k) : (orUpto A B j).getD k 0 = A.getD k 0 := by
 unfold orUpto
 by_cases hj : j ≤ A.length
 ·have hl : (List.zipWith (bOr .u64) (A.take j) (B.take j)).length = j := by simp; omega
  rw [List.getD_eq_getElem?_getD, List.getElem?_append_right (by omega), hl, List.getElem?_drop, List.getD_eq_getElem?_getD]
  congr 2; omega
 ·have hl : (List.zipWith (bOr .u64) (A.take j) (B.take j)).length = A.length := by simp; omega
  rw [List.drop_of_length_le (by omega), List.append_nil, Go.AM.getD_out (by omega), Go.AM.getD_out (by omega)]
theorem orUpto_succ {A B : List Int} (h : A.length = B.length) {j : Nat} (hj : j < A.length) : orUpto A B (j + 1) = (orUpto A B j).set j (bOr .u64 (A.getD j 0) (B.getD j 0)) := by
 unfold orUpto
 have hl : (List.zipWith (bOr .u64) (A.take j) (B.take j)).length = j := by simp; omega
 rw [List.set_append_right _ _ (by omega), hl, Nat.sub_self, List.drop_eq_getElem_cons hj, List.set_cons_zero, List.take_succ_eq_append_getElem hj, List.take_succ_eq_append_getElem (by omega), List.zipWith_append (by simp; omega)]
 simp [List.getD_eq_getElem?_getD, hj, show j < B.length by omega]
theorem rep_succ (n j : Nat) (b : List Bool) : List.replicate (j + 1) b = List.replicate j b ++ [b] := List.replicate_succ'
end Go.Proofs.D

/- What the relation program computes, over tables. -/
namespace Go.AM
def iter {α : Type} (f : Nat → α → α) : Nat → α → α
  | 0, x => x
  | m + 1, x => f m (iter f m x)
theorem iter_succ {α : Type} (f : Nat → α → α) (m : Nat) (x : α) : iter f (m + 1) x = f m (iter f m x) := rfl
theorem iter_inv {α : Type} {f : Nat → α → α} {p : α → Prop} {n : Nat} (hf : ∀ i x, i < n → p x → p (f i x)) : ∀ m x, m ≤ n → p x → p (iter f m x)
  | 0, _, _, h => h
  | m + 1, x, hm, h => hf m _ (by omega) (iter_inv hf m x (by omega) h)
def orRow (t : List (List Bool)) (i : Nat) (b : List Bool) : List (List Bool) := t.set i (List.zipWith (· || ·) (rowT t i) b)
theorem Sq.orRow {n : Nat} {t : List (List Bool)} (h : Sq n t) {i : Nat} (hi : i < n) {b : List Bool} (hb : b.length = n) : Sq n (orRow t i b) :=
  h.set i (by have := h.rowLen hi; simp; omega)
def warshI (k i : Nat) (t : List (List Bool)) : List (List Bool) := if atT t i k then orRow t i (rowT t k) else t
theorem warshI_eq (k i : Nat) (t : List (List Bool)) : warshI k i t = if atT t i k then orRow t i (rowT t k) else t := rfl
theorem Sq.warshI {n : Nat} {t : List (List Bool)} (h : Sq n t) {k i : Nat} (hk : k < n) (hi : i < n) : Sq n (warshI k i t) := by
  unfold AM.warshI; split
  · exact h.orRow hi (h.rowLen hk)
  · exact h
def warshK (n k : Nat) (t : List (List Bool)) : List (List Bool) := iter (warshI k) n t
theorem Sq.warshK' {n : Nat} {t : List (List Bool)} (h : Sq n t) {k : Nat} (hk : k < n) {m : Nat} (hm : m ≤ n) : Sq n (iter (AM.warshI k) m t) := iter_inv (n := n) (fun i x hi hx => hx.warshI hk hi) m t hm h
theorem Sq.warshK {n : Nat} {t : List (List Bool)} (h : Sq n t) {k : Nat} (hk : k < n) : Sq n (warshK n k t) := h.warshK' hk (Nat.le_refl _)
def warsh (n : Nat) (t : List (List Bool)) : List (List Bool) := iter (warshK n) n t
theorem Sq.warsh' {n : Nat} {t : List (List Bool)} (h : Sq n t) {m : Nat} (hm : m ≤ n) : Sq n (iter (AM.warshK n) m t) := iter_inv (n := n) (fun i x hi hx => hx.warshK hi) m t hm h
theorem Sq.warsh {n : Nat} {t : List (List Bool)} (h : Sq n t) : Sq n (warsh n t) := h.warsh' (Nat.le_refl _)
def zeroT (n : Nat) : List (List Bool) := List.replicate n (List.replicate n false)
def compI (a b : List (List Bool)) (i k : Nat) (t : List (List Bool)) : List (List Bool) := if atT a i k then orRow t i (rowT b k) else t
def compT (n : Nat) (a b : List (List Bool)) : List (List Bool) := iter (fun i t => iter (compI a b i) n t) n (zeroT n)
theorem Sq.compI {n : Nat} {a b t : List (List Bool)} (hb : Sq n b) (h : Sq n t) {i k : Nat} (hi : i < n) (hk : k < n) : Sq n (compI a b i k t) := by
  unfold AM.compI; split
  · exact h.orRow hi (hb.rowLen hk)
  · exact h
theorem Sq.compK {n : Nat} {a b t : List (List Bool)} (hb : Sq n b) (h : Sq n t) {i : Nat} (hi : i < n) {m : Nat} (hm : m ≤ n) : Sq n (iter (AM.compI a b i) m t) := iter_inv (p := Sq n) (n := n) (fun k x hk hx => Sq.compI hb hx hi hk) m t hm h
theorem Sq.comp' {n : Nat} {a b : List (List Bool)} (hb : Sq n b) {m : Nat} (hm : m ≤ n) : Sq n (iter (fun i t => iter (AM.compI a b i) n t) m (zeroT n)) := iter_inv (p := Sq n) (n := n) (fun i x hi hx => Sq.compK hb hx hi (Nat.le_refl _)) m _ hm (Sq.rep n)
theorem Sq.comp {n : Nat} {a b : List (List Bool)} (hb : Sq n b) : Sq n (compT n a b) := Sq.comp' hb (Nat.le_refl _)
def rowPairs (t : List (List Bool)) (i m : Nat) : List (Int × Int) := ((List.range m).filter fun j => atT t i j).map fun (j : Nat) => ((i : Int), (j : Int))
theorem rowPairs_succ (t : List (List Bool)) (i m : Nat) : rowPairs t i (m + 1) = if atT t i m then rowPairs t i m ++ [((i : Int), (m : Int))] else rowPairs t i m := by
  unfold rowPairs
  rw [List.range_succ, List.filter_append, List.map_append]
  by_cases h : atT t i m = true
  · rw [if_pos h]; simp [List.filter_cons, h]
  · rw [if_neg h]; simp [List.filter_cons, h]
theorem rowPairs_le (t : List (List Bool)) (i m : Nat) : (rowPairs t i m).length ≤ m := by
  unfold rowPairs
  have := List.length_filter_le (fun j => atT t i j) (List.range m)
  simp at this ⊢; exact this
def pairsAt (t : List (List Bool)) (n i : Nat) : List (Int × Int) := (List.range i).flatMap fun i => rowPairs t i n
def pairsT (t : List (List Bool)) (n : Nat) : List (Int × Int) := pairsAt t n n
theorem pairsAt_succ (t : List (List Bool)) (n i : Nat) : pairsAt t n (i + 1) = pairsAt t n i ++ rowPairs t i n := by
  unfold pairsAt; rw [List.range_succ, List.flatMap_append]; simp
theorem pairsAt_le (t : List (List Bool)) (n : Nat) : ∀ i, (pairsAt t n i).length ≤ n * i
  | 0 => by simp [pairsAt]
  | i + 1 => by
    have ih := pairsAt_le t n i
    have := rowPairs_le t i n
    rw [pairsAt_succ, List.length_append, Nat.mul_add]; omega
theorem pairsT_mem {t : List (List Bool)} {n : Nat} {p : Int × Int} : p ∈ pairsT t n ↔ ∃ i j : Nat, p = ((i : Int), (j : Int)) ∧ i < n ∧ j < n ∧ atT t i j = true := by
  simp only [pairsT, pairsAt, rowPairs, List.mem_flatMap, List.mem_map, List.mem_filter, List.mem_range]
  constructor
  · rintro ⟨i, hi, j, ⟨hj, h⟩, rfl⟩; exact ⟨i, j, rfl, hi, hj, h⟩
  · rintro ⟨i, j, rfl, hi, hj, h⟩; exact ⟨i, hi, j, ⟨hj, h⟩, rfl⟩
theorem pairs_app (l : List (Int × Int)) (a b : Int) : l.map pairV ++ [[.int .i64 a, .int .i64 b]] = (l ++ [(a, b)]).map pairV := by simp [pairV]
/-- A table half copied. -/
def fillT (t : List (List Bool)) (n i : Nat) : List (List Bool) := t.take i ++ List.replicate (n - i) (List.replicate n false)
theorem fillT_zero (t : List (List Bool)) (n : Nat) : fillT t n 0 = zeroT n := by simp [fillT, zeroT]
theorem fillT_all {n : Nat} {t : List (List Bool)} (h : Sq n t) : fillT t n n = t := by
  unfold fillT; rw [List.take_of_length_le (by rw [h.len]; exact Nat.le_refl _)]; simp
theorem fillT_succ {n : Nat} {t : List (List Bool)} (h : Sq n t) {i : Nat} (hi : i < n) : (fillT t n i).set i (rowT t i) = fillT t n (i + 1) := by
  unfold fillT
  have hl : (t.take i).length = i := by have := h.len; simp; omega
  rw [List.set_append_right _ _ (by omega), hl, Nat.sub_self, show n - i = (n - (i + 1)) + 1 by omega, List.replicate_succ, List.set_cons_zero, List.take_succ_eq_append_getElem (i := i) (by rw [h.len]; exact hi)]
  have : rowT t i = t[i]'(by rw [h.len]; exact hi) := rowT_of (List.getElem?_eq_getElem _)
  rw [this, List.append_assoc]; rfl
theorem fillT_sq {n : Nat} {t : List (List Bool)} (h : Sq n t) {i : Nat} (hi : i ≤ n) : Sq n (fillT t n i) := by
  refine ⟨by have := h.len; simp [fillT]; omega, fun b hb => ?_⟩
  unfold fillT at hb
  rcases List.mem_append.1 hb with hb | hb
  · exact h.row b (List.mem_of_mem_take hb)
  · rw [List.eq_of_mem_replicate hb]; simp
theorem fillT_row {n : Nat} {t : List (List Bool)} (h : Sq n t) {i : Nat} (hi : i < n) : rowT (fillT t n i) i = List.replicate n false := by
  unfold rowT fillT
  have hl : (t.take i).length = i := by have := h.len; simp; omega
  rw [List.getD_eq_getElem?_getD, List.getElem?_append_right (by omega), hl, Nat.sub_self, List.getElem?_replicate, if_pos (by omega)]; rfl
theorem range_all_succ {p : Nat → Bool} (j : Nat) : (List.range (j + 1)).all p = ((List.range j).all p && p j) := by
  rw [List.range_succ, List.all_append]; simp
theorem range_all_false {p : Nat → Bool} {j m : Nat} (h : j < m) (hp : p j = false) : (List.range m).all p = false := by
  rw [List.all_eq_false]; exact ⟨j, List.mem_range.2 h, by simp [hp]⟩
def acyc (n : Nat) (t : List (List Bool)) : Bool := (List.range n).all fun i => !atT (warsh n t) i i
def putT (u : List (List Bool)) (i j : Nat) : List (List Bool) := u.set i ((rowT u i).set j true)
theorem Sq.putT {n : Nat} {u : List (List Bool)} (h : Sq n u) {i : Nat} (hi : i < n) (j : Nat) : Sq n (putT u i j) := h.set i (by have := h.rowLen hi; simp; exact this)
theorem atT_putT {n : Nat} {u : List (List Bool)} (h : Sq n u) {i j : Nat} (hi : i < n) (hj : j < n) (a b : Nat) : atT (putT u i j) a b = (decide (i = a ∧ j = b) || atT u a b) := by
  unfold atT AM.putT
  rw [rowT_set]
  have hl := h.len
  by_cases e : i = a
  · subst e
    rw [if_pos ⟨rfl, by omega⟩, getD_setB]
    have hr := h.rowLen hi
    by_cases e2 : j = b
    · subst e2; rw [if_pos ⟨rfl, by omega⟩]; simp
    · rw [if_neg (by rintro ⟨x, _⟩; exact e2 x)]; simp [e2]
  · rw [if_neg (by rintro ⟨x, _⟩; exact e x)]; simp [e]
def inP (n : Nat) (p : Int × Int) : Prop := 0 ≤ p.1 ∧ p.1 < n ∧ 0 ≤ p.2 ∧ p.2 < n
theorem pairsT_in {t : List (List Bool)} {n : Nat} : ∀ p ∈ pairsT t n, inP n p := fun p hp => by
  obtain ⟨i, j, rfl, h1, h2, _⟩ := pairsT_mem.1 hp
  unfold inP; simp only; omega
end Go.AM

namespace Go.Proofs.D
open Go.AM Go
set_option maxRecDepth 100000
set_option maxHeartbeats 1000000
def longR (rs : List USet) : Prop := rs.length ≤ 9223372036854775807 ∧ ∀ x ∈ rs, x.W.length ≤ 9223372036854775807
/-- The errors. -/
theorem valid_g (n : Nat) (t : List (List Bool)) (hs : Sq n t) (hn : n ≤ 512) : Reads Tryd.prog 67 false [relB t] (.bool true) := by
 have h := rvalid_r (t.map SB) (by simp [hs.len]; omega) (fun x hx => by
  obtain ⟨b, hb, rfl⟩ := List.mem_map.1 hx
  have := hs.row b hb
  have hwn := wordsN_rng (n := (b.length : Int)) (by omega)
  show (setW b b.length).length ≤ _
  rw [setW_len']; omega)
 rw [valid_tab hs hn, ← relB_SB] at h
 exact h
end Go.Proofs.D

namespace Go.Proofs.D
open Go.AM Go
set_option maxRecDepth 100000
set_option maxHeartbeats 1000000
end Go.Proofs.D

namespace Go.Proofs.D
open Go.AM Go
set_option maxRecDepth 100000
set_option maxHeartbeats 1000000
end Go.Proofs.D

/- More on tables: what the reference computes. -/
namespace Go.AM
theorem eqB_ne {α : Type} [DecidableEq α] {a b : List α} {j : Nat} {x y : α} (ha : a[j]? = some x) (hb : b[j]? = some y) (h : x ≠ y) : a ≠ b := by
  intro e; subst e; rw [ha] at hb; exact h (Option.some.inj hb)
theorem take_succ_eqA {α : Type} {a b : List α} {j : Nat} {x : α} (ha : a[j]? = some x) (hb : b[j]? = some x) (h : a.take j = b.take j) : a.take (j + 1) = b.take (j + 1) := by
  obtain ⟨h1, h2⟩ := List.getElem?_eq_some_iff.1 ha
  obtain ⟨h3, h4⟩ := List.getElem?_eq_some_iff.1 hb
  rw [List.take_succ_eq_append_getElem h1, List.take_succ_eq_append_getElem h3, h, h2, h4]
theorem take_succT {t : List (List Bool)} {i : Nat} (h : i < t.length) : t.take (i + 1) = t.take i ++ [rowT t i] := by
  obtain ⟨h1, h2⟩ := List.getElem?_eq_some_iff.1 (rowT_get h)
  rw [List.take_succ_eq_append_getElem h1, h2]
theorem noOsl_bools (l : List Bool) : noOsl (bools l) := noOsl_map (f := fun x : Bool => [AV.bool x]) (fun x i sz q e => by
  rcases i with _ | i <;> simp at e) l
section
variable (s : Store) (d : Nat)
end
end Go.AM

/- The algebra of relations. -/
namespace Go.AM
theorem bool_ext {x y : Bool} (h : x = true ↔ y = true) : x = y := by cases x <;> cases y <;> simp_all
end Go.AM

/- The transitive closure. -/
namespace Go.AM
theorem warshI_row {n k : Nat} {t : List (List Bool)} (ht : Sq n t) (hk : k < n) : ∀ m, m ≤ n → Sq n (iter (warshI k) m t) ∧ rowT (iter (warshI k) m t) k = rowT t k ∧ ∀ i, i < n → rowT (iter (warshI k) m t) i = if i < m ∧ atT t i k = true then List.zipWith (· || ·) (rowT t i) (rowT t k) else rowT t i
  | 0, _ => ⟨ht, rfl, fun i _ => by rw [if_neg (by omega)]; rfl⟩
  | m + 1, hm => by
    obtain ⟨h1, h2, h3⟩ := warshI_row ht hk m (by omega)
    have hs : Sq n (iter (warshI k) (m + 1) t) := h1.warshI hk (by omega)
    rw [iter_succ, warshI_eq] at hs ⊢
    generalize iter (warshI k) m t = U at *
    have hUl := h1.len
    have hat : atT U m k = atT t m k := by
      have := h3 m (by omega)
      rw [if_neg (by omega)] at this
      unfold atT; rw [this]
    have hrm : rowT U m = rowT t m := by have := h3 m (by omega); rw [if_neg (by omega)] at this; exact this
    have hself : List.zipWith (· || ·) (rowT t k) (rowT t k) = rowT t k := by
      refine List.ext_getElem (by simp) fun i a b => by simp
    by_cases hc : atT t m k = true
    · rw [if_pos (by rw [hat]; exact hc)] at hs ⊢
      unfold orRow at hs ⊢
      refine ⟨hs, ?_, fun i hi => ?_⟩
      · rw [rowT_set]
        by_cases e : m = k
        · rw [if_pos ⟨e, by omega⟩, hrm, h2, e, hself]
        · rw [if_neg (by rintro ⟨x, _⟩; exact e x), h2]
      · rw [rowT_set]
        by_cases e : m = i
        · subst e
          rw [if_pos ⟨rfl, by omega⟩, hrm, h2, if_pos ⟨by omega, hc⟩]
        · rw [if_neg (by rintro ⟨x, _⟩; exact e x), h3 i hi]
          have : (i < m + 1 ∧ atT t i k = true) ↔ (i < m ∧ atT t i k = true) := ⟨fun h => ⟨by omega, h.2⟩, fun h => ⟨by omega, h.2⟩⟩
          simp only [this]
    · rw [if_neg (by rw [hat]; exact hc)] at hs ⊢
      refine ⟨hs, h2, fun i hi => ?_⟩
      rw [h3 i hi]
      have : (i < m + 1 ∧ atT t i k = true) ↔ (i < m ∧ atT t i k = true) := ⟨fun h => ⟨by
        by_cases e : i = m
        · subst e; exact absurd h.2 hc
        · omega, h.2⟩, fun h => ⟨by omega, h.2⟩⟩
      simp only [this]
theorem atT_warshK {n k : Nat} {t : List (List Bool)} (ht : Sq n t) (hk : k < n) {i j : Nat} (hi : i < n) (hj : j < n) : atT (warshK n k t) i j = (atT t i j || (atT t i k && atT t k j)) := by
  obtain ⟨_, _, h3⟩ := warshI_row ht hk n (Nat.le_refl _)
  have h := h3 i hi
  unfold warshK
  have h4 : atT (iter (warshI k) n t) i j = (rowT (iter (warshI k) n t) i).getD j false := rfl
  rw [h4, h]
  by_cases hc : atT t i k = true
  · rw [if_pos ⟨hi, hc⟩, zipB_get _ (by rw [ht.rowLen hi, ht.rowLen hk]) (by rw [ht.rowLen hi]; exact hj), hc, Bool.true_and]; rfl
  · rw [if_neg (by rintro ⟨_, x⟩; exact hc x)]
    have : atT t i k = false := by simpa using hc
    rw [this, Bool.false_and, Bool.or_false]; rfl
/-- Paths whose inner nodes are less than k. -/
def R_ (t : List (List Bool)) : Nat → Nat → Nat → Bool
  | 0, i, j => atT t i j
  | k + 1, i, j => R_ t k i j || (R_ t k i k && R_ t k k j)
theorem warsh_R {n : Nat} {t : List (List Bool)} (ht : Sq n t) : ∀ m, m ≤ n → ∀ i j, i < n → j < n → atT (iter (warshK n) m t) i j = R_ t m i j
  | 0, _, i, j, _, _ => rfl
  | m + 1, hm, i, j, hi, hj => by
    have ih := warsh_R ht m (by omega)
    rw [iter_succ, atT_warshK (ht.warsh' (by omega)) (by omega) hi hj, ih i j hi hj, ih i m hi (by omega), ih m j (by omega) hj]; rfl
theorem R_trans {t : List (List Bool)} : ∀ (k m : Nat), m < k → ∀ i j, R_ t k i m = true → R_ t k m j = true → R_ t k i j = true
  | k + 1, m, hm, i, j, h1, h2 => by
    simp only [R_, Bool.or_eq_true, Bool.and_eq_true] at h1 h2 ⊢
    by_cases e : m = k
    · subst e
      right
      exact ⟨by rcases h1 with h | h; exact h; exact h.1, by rcases h2 with h | h; exact h; exact h.2⟩
    · have ih := R_trans (t := t) k m (by omega)
      rcases h1 with h1 | h1 <;> rcases h2 with h2 | h2
      · exact .inl (ih i j h1 h2)
      · exact .inr ⟨ih i k h1 h2.1, h2.2⟩
      · exact .inr ⟨h1.1, ih k j h1.2 h2⟩
      · exact .inr ⟨h1.1, h2.2⟩
theorem warsh_trans {n : Nat} {t : List (List Bool)} (ht : Sq n t) {i k j : Nat} (hi : i < n) (hk : k < n) (hj : j < n) (h1 : atT (warsh n t) i k = true) (h2 : atT (warsh n t) k j = true) : atT (warsh n t) i j = true := by
  unfold warsh at *
  rw [warsh_R ht n (Nat.le_refl _) _ _ hi hk] at h1
  rw [warsh_R ht n (Nat.le_refl _) _ _ hk hj] at h2
  rw [warsh_R ht n (Nat.le_refl _) _ _ hi hj]
  exact R_trans n k hk i j h1 h2
theorem R_mono {t : List (List Bool)} : ∀ (k i j : Nat), atT t i j = true → R_ t k i j = true
  | 0, _, _, h => h
  | k + 1, i, j, h => by simp only [R_, Bool.or_eq_true]; exact .inl (R_mono k i j h)
theorem warsh_sub {n : Nat} {t : List (List Bool)} (ht : Sq n t) {i j : Nat} (hi : i < n) (hj : j < n) (h : atT t i j = true) : atT (warsh n t) i j = true := by
  unfold warsh; rw [warsh_R ht n (Nat.le_refl _) _ _ hi hj]; exact R_mono n i j h
/-- The closure is the least. -/
theorem R_least {n : Nat} {t : List (List Bool)} {S : Nat → Nat → Prop} (hs : ∀ i j, i < n → j < n → atT t i j = true → S i j) (ht : ∀ i k j, i < n → k < n → j < n → S i k → S k j → S i j) : ∀ (k i j : Nat), k ≤ n → i < n → j < n → R_ t k i j = true → S i j
  | 0, i, j, _, hi, hj, h => hs i j hi hj h
  | k + 1, i, j, hk, hi, hj, h => by
    simp only [R_, Bool.or_eq_true, Bool.and_eq_true] at h
    rcases h with h | h
    · exact R_least hs ht k i j (by omega) hi hj h
    · exact ht i k j hi (by omega) hj (R_least hs ht k i k (by omega) hi (by omega) h.1) (R_least hs ht k k j (by omega) (by omega) hj h.2)
theorem warsh_least {n : Nat} {t : List (List Bool)} (h : Sq n t) {S : Nat → Nat → Prop} (hs : ∀ i j, i < n → j < n → atT t i j = true → S i j) (ht : ∀ i k j, i < n → k < n → j < n → S i k → S k j → S i j) {i j : Nat} (hi : i < n) (hj : j < n) (hw : atT (warsh n t) i j = true) : S i j := by
  unfold warsh at hw
  rw [warsh_R h n (Nat.le_refl _) _ _ hi hj] at hw
  exact R_least hs ht n i j (Nat.le_refl _) hi hj hw
end Go.AM

/- The program's cycle. -/
namespace Go.AM
abbrev CSt := List Int × List Int × Int
def cycI (t : List (List Bool)) (f at_ v : Int) (i : Nat) (st : CSt) : CSt :=
  if atT t i v.toNat then
    if (i : Int) ≠ f ∧ st.1.getD i 0 < 0 then (st.1.set i (at_ + 1), st.2.1 ++ [(i : Int)], if (i : Int) = f ∧ st.2.2 = 0 then at_ + 1 else st.2.2)
    else (st.1, st.2.1, if (i : Int) = f ∧ st.2.2 = 0 then at_ + 1 else st.2.2)
  else st
def cycAt (k : Nat) (st : CSt) : Int := if 0 < k then st.1.getD (st.2.1.getD k 0).toNat 0 else 0
def cycK (t : List (List Bool)) (n : Nat) (f : Int) (k : Nat) (st : CSt) : CSt := iter (cycI t f (cycAt k st) (st.2.1.getD k 0)) n st
def cyc0 (n : Nat) (f : Int) : CSt := (List.replicate n (-1), [f], 0)
structure WfC (n : Nat) (f : Int) (st : CSt) : Prop where
  len : st.1.length = n
  rng : ∀ v ∈ st.2.1, 0 ≤ v ∧ v < n
  cnt : st.1.count (-1) + st.2.1.length ≤ n + 1
  vals : ∀ i, -1 ≤ st.1.getD i 0 ∧ st.1.getD i 0 ≤ st.2.1.length + 1
  ln : 0 ≤ st.2.2 ∧ st.2.2 ≤ st.2.1.length + 2
theorem count_setI {l : List Int} {i : Nat} {k : Int} (h : l.getD i 0 = -1) (hk : k ≠ -1) : (l.set i k).count (-1) + 1 = l.count (-1) := by
  have hi : i < l.length := by
    rcases Nat.lt_or_ge i l.length with h1 | h1
    · exact h1
    · rw [Go.AM.getD_out h1] at h; omega
  rw [List.count_set hi]
  have e1 : l[i] = -1 := by simpa [List.getD_eq_getElem?_getD, hi] using h
  have e2 : (k == -1) = false := by simpa using hk
  have hpos : 0 < l.count (-1) := List.count_pos_iff.2 (e1 ▸ List.getElem_mem hi)
  simp only [e1, beq_self_eq_true, if_true, e2, Bool.false_eq_true, if_false]
  omega
theorem find_range_none {p : Nat → Bool} : ∀ {n : Nat}, (List.range n).find? p = none ↔ ∀ i, i < n → p i = false := fun {n} => by
  rw [List.find?_eq_none]; simp
theorem find_range_lt {p : Nat → Bool} {n i : Nat} (h : (List.range n).find? p = some i) : i < n ∧ p i = true ∧ ∀ j, j < i → p j = false := by
  rw [List.find?_range_eq_some] at h
  exact ⟨List.mem_range.1 h.2.1, h.1, fun j hj => by simpa using h.2.2 j hj⟩
end Go.AM
namespace Go.AM
theorem WfC.start {n : Nat} {f : Int} (h0 : 0 ≤ f) (h1 : f < n) : WfC n f (cyc0 n f) := by
  refine ⟨by simp [cyc0], fun v hv => ?_, by simp [cyc0], fun i => ?_, by simp [cyc0]⟩
  · simp [cyc0] at hv; subst hv; exact ⟨h0, h1⟩
  · simp only [cyc0]
    rw [List.getD_eq_getElem?_getD, List.getElem?_replicate]; split <;> simp
theorem WfC.i {n : Nat} {f : Int} {st : CSt} (h : WfC n f st) (t : List (List Bool)) {at_ : Int} (v : Int) {i : Nat} (hi : i < n) (ha0 : -1 ≤ at_) (ha1 : at_ ≤ st.2.1.length + 1) : WfC n f (cycI t f at_ v i st) ∧ st.2.1.length ≤ (cycI t f at_ v i st).2.1.length ∧ ∀ (j : Nat) (x : Int), st.2.1[j]? = some x → (cycI t f at_ v i st).2.1[j]? = some x := by
  unfold cycI
  split
  · split
    · rename_i _ hc
      have hv := h.vals i
      have hm : st.1.getD i 0 = -1 := by omega
      have hcs := count_setI hm (k := at_ + 1) (by omega)
      have hln := h.ln
      refine ⟨⟨by simp [h.len], fun x hx => ?_, ?_, fun j => ?_, ?_⟩, by simp, fun j x hj => ?_⟩
      · rcases List.mem_append.1 hx with hx | hx
        · exact h.rng x hx
        · simp at hx; subst hx; omega
      · have := h.cnt
        simp only [List.length_append, List.length_singleton]; omega
      · have := h.vals j
        simp only [List.length_append, List.length_singleton]
        by_cases e : i = j
        · subst e
          by_cases h2 : i < st.1.length
          · rw [Go.AM.getD_set_eq h2]; omega
          · rw [List.set_eq_of_length_le (by omega)]; omega
        · rw [Go.AM.getD_set_ne e]; omega
      · simp only [List.length_append, List.length_singleton]
        split <;> omega
      · rw [List.getElem?_append_left (List.getElem?_eq_some_iff.1 hj).1]; exact hj
    · have hln := h.ln
      refine ⟨⟨h.len, h.rng, h.cnt, h.vals, ?_⟩, Nat.le_refl _, fun j x hj => hj⟩
      simp only
      split <;> omega
  · exact ⟨h, Nat.le_refl _, fun j x hj => hj⟩
theorem WfC.k' {n : Nat} {f : Int} {st : CSt} (h : WfC n f st) (t : List (List Bool)) {at_ : Int} (v : Int) (ha0 : -1 ≤ at_) (ha1 : at_ ≤ st.2.1.length + 1) : ∀ m, m ≤ n → WfC n f (iter (cycI t f at_ v) m st) ∧ st.2.1.length ≤ (iter (cycI t f at_ v) m st).2.1.length ∧ ∀ (j : Nat) (x : Int), st.2.1[j]? = some x → (iter (cycI t f at_ v) m st).2.1[j]? = some x
  | 0, _ => ⟨h, Nat.le_refl _, fun _ _ hj => hj⟩
  | m + 1, hm => by
    obtain ⟨h1, h2, h3⟩ := WfC.k' h t v ha0 ha1 m (by omega)
    obtain ⟨g1, g2, g3⟩ := h1.i t v (i := m) (by omega) ha0 (by omega)
    exact ⟨g1, Nat.le_trans h2 g2, fun j x hj => g3 j x (h3 j x hj)⟩
theorem WfC.at {n : Nat} {f : Int} {st : CSt} (h : WfC n f st) (k : Nat) : -1 ≤ cycAt k st ∧ cycAt k st ≤ st.2.1.length + 1 := by
  unfold cycAt; split
  · exact h.vals _
  · omega
theorem WfC.k {n : Nat} {f : Int} {st : CSt} (h : WfC n f st) (t : List (List Bool)) (k : Nat) : WfC n f (cycK t n f k st) ∧ st.2.1.length ≤ (cycK t n f k st).2.1.length ∧ ∀ (j : Nat) (x : Int), st.2.1[j]? = some x → (cycK t n f k st).2.1[j]? = some x :=
  WfC.k' h t _ (h.at k).1 (h.at k).2 n (Nat.le_refl _)
end Go.AM

/- The least topological order. -/
namespace Go.AM
theorem filter_lt {p q : Nat → Bool} {l : List Nat} (h : ∀ x ∈ l, p x = true → q x = true) (hx : ∃ x ∈ l, q x = true ∧ p x = false) : (l.filter p).length < (l.filter q).length := by
  induction l with
  | nil => obtain ⟨x, hx, _⟩ := hx; cases hx
  | cons a l ih =>
    have hle : (l.filter p).length ≤ (l.filter q).length := by
      have := List.Sublist.length_le (l.filter p |>.filter_sublist (p := q))
      have e : (l.filter p).filter q = l.filter p := by
        rw [List.filter_eq_self]
        intro x hx; exact h x (by simp [(List.mem_filter.1 hx).1]) (List.mem_filter.1 hx).2
      have e2 : (l.filter p).filter q = (l.filter q).filter p := by rw [List.filter_filter, List.filter_filter]; congr 1; funext x; exact Bool.and_comm _ _
      rw [← e, e2]; exact List.length_filter_le _ _
    obtain ⟨x, hx, h1, h2⟩ := hx
    rcases List.mem_cons.1 hx with rfl | hx
    · simp only [List.filter_cons, h1, h2, if_true, Bool.false_eq_true, if_false, List.length_cons]; omega
    · have ih := ih (fun y hy => h y (by simp [hy])) ⟨x, hx, h1, h2⟩
      have ha := h a (by simp)
      simp only [List.filter_cons]
      cases hp : p a
      · cases hq : q a
        · simpa using ih
        · simp only [Bool.false_eq_true, if_false, if_true, List.length_cons]; omega
      · rw [ha hp]; simp only [if_true, List.length_cons]; omega
def freeO (n : Nat) (t : List (List Bool)) (out : List Nat) (i : Nat) : Bool := !out.contains i && (List.range n).all fun k => !atT t k i || out.contains k
def nextO (n : Nat) (t : List (List Bool)) (out : List Nat) : Option Nat := (List.range n).find? (freeO n t out)
def ordO (n : Nat) (t : List (List Bool)) : Nat → List Nat → List Nat
  | 0, out => out
  | m + 1, out => match nextO n t out with
    | some i => ordO n t m (out ++ [i])
    | none => out
theorem freeO_iff {n : Nat} {t : List (List Bool)} {out : List Nat} {i : Nat} : freeO n t out i = true ↔ i ∉ out ∧ ∀ k, k < n → atT t k i = true → k ∈ out := by
  simp only [freeO, Bool.and_eq_true, Bool.not_eq_true', List.all_eq_true, List.mem_range, Bool.or_eq_true]
  constructor
  · rintro ⟨h1, h2⟩
    refine ⟨fun h => (by simp [h] at h1), fun k hk ha => ?_⟩
    rcases h2 k hk with h | h
    · rw [ha] at h; cases h
    · simpa using h
  · rintro ⟨h1, h2⟩
    refine ⟨by simpa using h1, fun k hk => ?_⟩
    cases ha : atT t k i with
    | false => exact .inl rfl
    | true => exact .inr (by simpa using h2 k hk ha)
theorem acyc_iff {n : Nat} {t : List (List Bool)} : acyc n t = true ↔ ∀ i, i < n → atT (warsh n t) i i = false := by
  unfold acyc; rw [List.all_eq_true]
  constructor
  · intro h i hi; have := h i (List.mem_range.2 hi); simpa using this
  · intro h i hi; rw [h i (List.mem_range.1 hi)]; rfl
theorem exists_free {n : Nat} {t : List (List Bool)} (hs : Sq n t) (ha : acyc n t = true) {out : List Nat} : ∀ (m i : Nat), i < n → i ∉ out → ((List.range n).filter fun k => atT (warsh n t) k i && !out.contains k).length ≤ m → ∃ j, j < n ∧ freeO n t out j = true := by
  have hac := acyc_iff.1 ha
  intro m
  induction m with
  | zero =>
    intro i hi ho hl
    refine ⟨i, hi, freeO_iff.2 ⟨ho, fun k hk h => ?_⟩⟩
    rcases Classical.em (k ∈ out) with h1 | h1
    · exact h1
    · exfalso
      have hm : k ∈ (List.range n).filter fun k => atT (warsh n t) k i && !out.contains k := by
        rw [List.mem_filter]; exact ⟨List.mem_range.2 hk, by simp [warsh_sub hs hk hi h, h1]⟩
      have := List.length_pos_of_mem hm
      omega
  | succ m ih =>
    intro i hi ho hl
    by_cases hf : freeO n t out i = true
    · exact ⟨i, hi, hf⟩
    · have : ∃ k, k < n ∧ atT t k i = true ∧ k ∉ out := by
        rcases Classical.em (∃ k, k < n ∧ atT t k i = true ∧ k ∉ out) with h | h
        · exact h
        · exact absurd (freeO_iff.2 ⟨ho, fun k hk h1 => by
            rcases Classical.em (k ∈ out) with h2 | h2
            · exact h2
            · exact absurd ⟨k, hk, h1, h2⟩ h⟩) hf
      obtain ⟨k, hk, h1, h2⟩ := this
      have hki := warsh_sub hs hk hi h1
      refine ih k hk h2 (Nat.le_of_lt_succ (Nat.lt_of_lt_of_le (filter_lt (fun x hx hp => ?_) ⟨k, List.mem_range.2 hk, ?_, ?_⟩) hl))
      · simp only [Bool.and_eq_true] at hp ⊢
        exact ⟨warsh_trans hs (List.mem_range.1 hx) hk hi hp.1 hki, hp.2⟩
      · simp [hki, h2]
      · rw [hac k hk]; rfl
structure OrdI (n : Nat) (t : List (List Bool)) (out : List Nat) : Prop where
  nd : out.Nodup
  rng : ∀ i ∈ out, i < n
  top : ∀ (q i k : Nat), out[q]? = some i → k < n → atT t k i = true → ∃ p : Nat, p < q ∧ out[p]? = some k
theorem OrdI.closed {n : Nat} {t : List (List Bool)} {out : List Nat} (h : OrdI n t out) {i k : Nat} (hi : i ∈ out) (hk : k < n) (ha : atT t k i = true) : k ∈ out := by
  obtain ⟨q, hq, rfl⟩ := List.mem_iff_getElem.1 hi
  obtain ⟨p, _, hp⟩ := h.top q _ k (List.getElem?_eq_getElem hq) hk ha
  exact List.mem_of_getElem? hp
theorem OrdI.snoc {n : Nat} {t : List (List Bool)} {out : List Nat} (h : OrdI n t out) {i : Nat} (hi : i < n) (hf : freeO n t out i = true) : OrdI n t (out ++ [i]) := by
  obtain ⟨h1, h2⟩ := freeO_iff.1 hf
  refine ⟨?_, fun j hj => ?_, fun q j k hq hk ha => ?_⟩
  · rw [List.nodup_append]
    exact ⟨h.nd, by simp, fun a ha b hb => by simp at hb; subst hb; rintro rfl; exact h1 ha⟩
  · rcases List.mem_append.1 hj with hj | hj
    · exact h.rng j hj
    · simp at hj; omega
  · by_cases hql : q < out.length
    · rw [List.getElem?_append_left hql] at hq
      obtain ⟨p, hp1, hp2⟩ := h.top q j k hq hk ha
      exact ⟨p, hp1, by rw [List.getElem?_append_left (by omega)]; exact hp2⟩
    · have hq2 := (List.getElem?_eq_some_iff.1 hq).1
      simp at hq2
      have : q = out.length := by omega
      subst this
      simp at hq; subst hq
      obtain ⟨p, hp, hpk⟩ := List.mem_iff_getElem.1 (h2 k hk ha)
      exact ⟨p, hp, by rw [List.getElem?_append_left hp, List.getElem?_eq_getElem hp, hpk]⟩
theorem nodup_nat : ∀ (n : Nat) (l : List Nat), l.Nodup → (∀ i ∈ l, i < n) → l.length ≤ n
  | 0, l, _, h => by
    cases l with
    | nil => simp
    | cons a l => have := h a (by simp); omega
  | n + 1, l, hn, h => by
    have ih := nodup_nat n (l.erase n) (hn.erase _) fun u hu => by
      have h1 := (List.Nodup.mem_erase_iff hn).1 hu
      have := h u h1.2
      have := h1.1
      omega
    have : l.length ≤ (l.erase n).length + 1 := by
      rw [List.length_erase]; split <;> omega
    omega
theorem sub_len : ∀ (n : Nat) (l : List Nat), (∀ i, i < n → i ∈ l) → n ≤ l.length
  | 0, _, _ => Nat.zero_le _
  | n + 1, l, h => by
    have hn := h n (by omega)
    have ih := sub_len n (l.erase n) fun i hi => (List.mem_erase_of_ne (by omega)).2 (h i (by omega))
    rw [List.length_erase_of_mem hn] at ih
    have := List.length_pos_of_mem hn
    omega
theorem missing {n : Nat} {l : List Nat} (hl : l.length < n) : ∃ i, i < n ∧ i ∉ l := by
  rcases Classical.em (∃ i, i < n ∧ i ∉ l) with h | h
  · exact h
  · exfalso
    have := sub_len n l fun i hi => by
      rcases Classical.em (i ∈ l) with h1 | h1
      · exact h1
      · exact absurd ⟨i, hi, h1⟩ h
    omega
theorem OrdI.next {n : Nat} {t : List (List Bool)} (hs : Sq n t) (ha : acyc n t = true) {out : List Nat} (hl : out.length < n) : ∃ i, nextO n t out = some i ∧ i < n ∧ freeO n t out i = true := by
  obtain ⟨i, hi, ho⟩ := missing hl
  obtain ⟨j, hj, hf⟩ := exists_free hs ha _ i hi ho (Nat.le_refl _)
  cases h : nextO n t out with
  | none => have := find_range_none.1 h j hj; rw [hf] at this; cases this
  | some i => obtain ⟨h1, h2, _⟩ := find_range_lt h; exact ⟨i, rfl, h1, h2⟩
theorem ordO_ok {n : Nat} {t : List (List Bool)} (hs : Sq n t) (ha : acyc n t = true) : ∀ (m : Nat) (out : List Nat), OrdI n t out → out.length + m = n → OrdI n t (ordO n t m out) ∧ (ordO n t m out).length = n
  | 0, out, h, hl => ⟨h, hl⟩
  | m + 1, out, h, hl => by
    obtain ⟨i, h1, h2, h3⟩ := OrdI.next hs ha (out := out) (by omega)
    unfold ordO; rw [h1]
    exact ordO_ok hs ha m _ (h.snoc h2 h3) (by simp; omega)
theorem OrdI.nil (n : Nat) (t : List (List Bool)) : OrdI n t [] := ⟨by simp, by simp, by simp⟩
/-- How many stand before a node. -/
def cntO (n : Nat) (t : List (List Bool)) (out : List Nat) (j : Nat) : Nat := ((List.range n).filter fun k => atT t k j && !out.contains k).length
def befO (n : Nat) (t : List (List Bool)) (out : List Nat) : List Int := (List.range n).map fun j => if out.contains j then -1 else (cntO n t out j : Int)
theorem befO_len (n : Nat) (t : List (List Bool)) (out : List Nat) : (befO n t out).length = n := by simp [befO]
theorem befO_get {n : Nat} {t : List (List Bool)} {out : List Nat} {j : Nat} (hj : j < n) : (befO n t out).getD j 0 = if out.contains j then -1 else (cntO n t out j : Int) := by
  simp [befO, List.getD_eq_getElem?_getD, hj]
theorem cntO_zero {n : Nat} {t : List (List Bool)} {out : List Nat} {j : Nat} : cntO n t out j = 0 ↔ ∀ k, k < n → atT t k j = true → k ∈ out := by
  unfold cntO
  rw [List.length_eq_zero_iff, List.filter_eq_nil_iff]
  constructor
  · intro h k hk ha
    have := h k (List.mem_range.2 hk)
    rw [ha] at this; simpa using this
  · intro h k hk
    have := h k (List.mem_range.1 hk)
    cases ha : atT t k j with
    | false => simp
    | true => simp [this ha]
theorem befO_free {n : Nat} {t : List (List Bool)} {out : List Nat} {j : Nat} (hj : j < n) : decide (0 = (befO n t out).getD j 0) = freeO n t out j := by
  refine bool_ext ?_
  rw [decide_eq_true_eq, freeO_iff, befO_get hj]
  by_cases h : j ∈ out
  · simp [h]
  · have hc : out.contains j = false := by simpa using h
    rw [hc]
    simp only [Bool.false_eq_true, if_false]
    constructor
    · intro h2; exact ⟨h, cntO_zero.1 (by omega)⟩
    · intro h2; rw [cntO_zero.2 h2.2]; rfl
theorem befO_ix {n : Nat} {t : List (List Bool)} {out : List Nat} {i : Nat} (h : nextO n t out = some i) : ixf (fun y => decide (0 = y)) (befO n t out) = i := by
  obtain ⟨h1, h2, h3⟩ := find_range_lt h
  have hg : ∀ j, j < n → (befO n t out)[j]? = some ((befO n t out).getD j 0) := fun j hj => by
    rw [List.getElem?_eq_getElem (by rw [befO_len]; exact hj)]; simp [List.getD_eq_getElem?_getD, befO_len, hj]
  refine ixf_at (hg i h1) (by rw [befO_free h1]; exact h2) ?_
  rw [List.any_eq_false]
  intro y hy
  rw [List.mem_take_iff_getElem] at hy
  obtain ⟨k, hk, rfl⟩ := hy
  have hkn : k < n := by omega
  have := h3 k (by omega)
  rw [← befO_free hkn] at this
  simp only [List.getD_eq_getElem?_getD, befO_len, hkn, List.getElem?_eq_getElem, Option.getD_some] at this
  simpa using this
def decJ (t : List (List Bool)) (i j : Nat) (B : List Int) : List Int := if atT t i j then B.set j (B.getD j 0 - 1) else B
theorem decJ_eq (t : List (List Bool)) (i j : Nat) (B : List Int) : decJ t i j B = if atT t i j then B.set j (B.getD j 0 - 1) else B := rfl
theorem decJ_len (t : List (List Bool)) (i : Nat) (B : List Int) : ∀ m, (iter (decJ t i) m B).length = B.length
  | 0 => rfl
  | m + 1 => by rw [iter_succ, decJ_eq]; split <;> simp [decJ_len t i B m]
theorem decJ_get (t : List (List Bool)) (i : Nat) (B : List Int) (j : Nat) : ∀ m, m ≤ B.length → (iter (decJ t i) m B).getD j 0 = if j < m ∧ atT t i j = true then B.getD j 0 - 1 else B.getD j 0
  | 0, _ => by rw [if_neg (by omega)]; rfl
  | m + 1, hm => by
    have ih := decJ_get t i B j m (by omega)
    have hl := decJ_len t i B m
    have ihm := decJ_get t i B m m (by omega)
    rw [if_neg (by omega)] at ihm
    rw [iter_succ, decJ_eq]
    by_cases h : atT t i m = true
    · rw [if_pos h]
      by_cases e : m = j
      · subst e; rw [Go.AM.getD_set_eq (by omega), ihm, if_pos ⟨by omega, h⟩]
      · rw [Go.AM.getD_set_ne e, ih]
        have : (j < m + 1 ∧ atT t i j = true) ↔ (j < m ∧ atT t i j = true) := ⟨fun x => ⟨by omega, x.2⟩, fun x => ⟨by omega, x.2⟩⟩
        simp only [this]
    · rw [if_neg h, ih]
      have : (j < m + 1 ∧ atT t i j = true) ↔ (j < m ∧ atT t i j = true) := ⟨fun x => ⟨by
        by_cases e : j = m
        · subst e; exact absurd x.2 h
        · omega, x.2⟩, fun x => ⟨by omega, x.2⟩⟩
      simp only [this]
theorem filter_one {p q : Nat → Bool} {a : Nat} : ∀ {l : List Nat}, l.Nodup → a ∈ l → p a = true → q a = false → (∀ x ∈ l, x ≠ a → q x = p x) → (l.filter q).length + 1 = (l.filter p).length
  | [], _, ha, _, _, _ => by cases ha
  | b :: l, hn, ha, hp, hq, h => by
    rw [List.nodup_cons] at hn
    by_cases e : b = a
    · subst e
      have : l.filter q = l.filter p := List.filter_congr fun x hx => h x (by simp [hx]) (fun e => hn.1 (e ▸ hx))
      simp [List.filter_cons, hp, hq, this]
    · have hal : a ∈ l := (List.mem_cons.1 ha).resolve_left fun x => e x.symm
      have ih := filter_one hn.2 hal hp hq fun x hx => h x (by simp [hx])
      have hb := h b (by simp) e
      simp only [List.filter_cons, hb]
      split <;> first | omega | (simp only [List.length_cons]; omega)
theorem befO_step {n : Nat} {t : List (List Bool)} (hs : Sq n t) (hac : acyc n t = true) {out : List Nat} (ho : OrdI n t out) {i : Nat} (hi : i < n) (hf : freeO n t out i = true) : iter (decJ t i) n ((befO n t out).set i (-1)) = befO n t (out ++ [i]) := by
  have hbl := befO_len n t out
  obtain ⟨h1, h2⟩ := freeO_iff.1 hf
  refine getD_ext (by rw [decJ_len]; simp [befO_len]) fun j hj => ?_
  rw [decJ_len, List.length_set, hbl] at hj
  rw [decJ_get t i _ j n (by simp [hbl]), befO_get hj]
  have hii : atT t i i = false := by
    cases h : atT t i i with
    | false => rfl
    | true => have := acyc_iff.1 hac i hi; rw [warsh_sub hs hi hi h] at this; cases this
  by_cases hji : j = i
  · subst hji
    rw [hii, if_neg (by simp), Go.AM.getD_set_eq (by omega)]
    simp
  · rw [Go.AM.getD_set_ne (Ne.symm hji), befO_get hj]
    have hc : (out ++ [i]).contains j = out.contains j := by simp [hji]
    rw [hc]
    by_cases hjo : j ∈ out
    · have hno : ¬ (j < n ∧ atT t i j = true) := fun h => h1 (ho.closed hjo hi h.2)
      have hcj : out.contains j = true := by simpa using hjo
      rw [if_neg hno, hcj]
      simp
    · have hcj : out.contains j = false := by simpa using hjo
      rw [hcj]
      simp only [Bool.false_eq_true, if_false]
      by_cases hat : atT t i j = true
      · rw [if_pos ⟨hj, hat⟩]
        have : cntO n t (out ++ [i]) j + 1 = cntO n t out j := by
          unfold cntO
          refine filter_one (a := i) List.nodup_range (List.mem_range.2 hi) ?_ ?_ fun x hx hxi => ?_
          · simp [hat, h1]
          · simp
          · simp [hxi]
        omega
      · rw [if_neg (by rintro ⟨_, x⟩; exact hat x)]
        have : cntO n t (out ++ [i]) j = cntO n t out j := by
          unfold cntO
          congr 1
          refine List.filter_congr fun x hx => ?_
          by_cases e : x = i
          · subst e; simp [hat]
          · simp [e]
        rw [this]
/-- The first counts. -/
def incP (B : List Int) (p : Int × Int) : List Int := B.set p.2.toNat (B.getD p.2.toNat 0 + 1)
def incPs (B : List Int) (L : List (Int × Int)) : List Int := L.foldl incP B
theorem incPs_len (L : List (Int × Int)) : ∀ B : List Int, (incPs B L).length = B.length := by
  induction L with
  | nil => intro B; rfl
  | cons p L ih => intro B; show (incPs (incP B p) L).length = _; rw [ih]; simp [incP]
theorem incPs_take {B : List Int} {L : List (Int × Int)} {j : Nat} {p : Int × Int} (h : L[j]? = some p) : incPs B (L.take (j + 1)) = incP (incPs B (L.take j)) p := by
  obtain ⟨hj, rfl⟩ := List.getElem?_eq_some_iff.1 h
  unfold incPs
  rw [List.take_succ_eq_append_getElem hj, List.foldl_append]; rfl
theorem incPs_get (L : List (Int × Int)) (j : Nat) : ∀ B : List Int, j < B.length → (incPs B L).getD j 0 = B.getD j 0 + ((L.filter fun p => p.2.toNat == j).length : Int) := by
  induction L with
  | nil => intro B _; simp [incPs]
  | cons p L ih =>
    intro B hj
    show (incPs (incP B p) L).getD j 0 = _
    rw [ih _ (by simp [incP]; exact hj)]
    unfold incP
    rw [List.filter_cons]
    by_cases e : p.2.toNat = j
    · rw [e, Go.AM.getD_set_eq hj]; simp; omega
    · rw [Go.AM.getD_set_ne e]; simp [e]
theorem incPs_bnd (L : List (Int × Int)) (j : Nat) (B : List Int) (h : ∀ i, B.getD i 0 = 0) : 0 ≤ (incPs B L).getD j 0 ∧ (incPs B L).getD j 0 ≤ L.length := by
  by_cases hj : j < B.length
  · rw [incPs_get L j B hj, h]
    have := List.length_filter_le (fun p : Int × Int => p.2.toNat == j) L
    omega
  · rw [Go.AM.getD_out (by rw [incPs_len]; omega)]; omega
theorem rowPairs_cnt (t : List (List Bool)) (i j : Nat) : ∀ m, ((rowPairs t i m).filter fun p => p.2.toNat == j).length = if j < m ∧ atT t i j = true then 1 else 0
  | 0 => by simp [rowPairs]
  | m + 1 => by
    have ih := rowPairs_cnt t i j m
    rw [rowPairs_succ]
    by_cases h : atT t i m = true
    · rw [if_pos h, List.filter_append, List.length_append, ih]
      by_cases e : m = j
      · subst e; simp [h]
      · have : (j < m + 1 ∧ atT t i j = true) ↔ (j < m ∧ atT t i j = true) := ⟨fun x => ⟨by omega, x.2⟩, fun x => ⟨by omega, x.2⟩⟩
        simp [e, this]
    · rw [if_neg h, ih]
      have : (j < m + 1 ∧ atT t i j = true) ↔ (j < m ∧ atT t i j = true) := ⟨fun x => ⟨by
        by_cases e : j = m
        · subst e; exact absurd x.2 h
        · omega, x.2⟩, fun x => ⟨by omega, x.2⟩⟩
      simp only [this]
theorem pairsAt_cnt {n : Nat} (t : List (List Bool)) {j : Nat} (hj : j < n) : ∀ i, ((pairsAt t n i).filter fun p => p.2.toNat == j).length = ((List.range i).filter fun k => atT t k j).length
  | 0 => by simp [pairsAt]
  | i + 1 => by
    rw [pairsAt_succ, List.filter_append, List.length_append, pairsAt_cnt t hj i, rowPairs_cnt, List.range_succ, List.filter_append, List.length_append]
    by_cases h : atT t i j = true
    · simp [h, hj]
    · simp [h]
theorem befO_nil (n : Nat) (t : List (List Bool)) : incPs (List.replicate n 0) (pairsT t n) = befO n t [] := by
  refine getD_ext (by rw [incPs_len, befO_len]; simp) fun j hj => ?_
  rw [incPs_len, List.length_replicate] at hj
  rw [incPs_get _ j _ (by simpa using hj), befO_get hj]
  have e0 : (List.replicate n (0 : Int)).getD j 0 = 0 := by rw [List.getD_eq_getElem?_getD, List.getElem?_replicate]; split <;> rfl
  have hc : cntO n t [] j = ((List.range n).filter fun k => atT t k j).length := by unfold cntO; congr 1; refine List.filter_congr fun x _ => by simp
  have := pairsAt_cnt t hj n
  rw [e0]; unfold pairsT; rw [this, ← hc]; simp
end Go.AM

namespace Go.Proofs.D
open Go.AM Go
set_option maxRecDepth 100000
set_option maxHeartbeats 2000000
theorem index_r (l : List Int) (x : Int) (hl : l.length ≤ 9223372036854775807) : Reads Tryd.prog 36 false [.rsl 1 (ints l), .int .i64 x] (.int .i64 (ixf (fun y => decide (x = y)) l)) := by
 refine Reads.body (rs := [.tmp 4]) Tryd.func36 rfl Tryd.ntmps36 rfl (by simp) ?_
 generalize hQr : retQ _ _ _ = Qr
 -- block 1
 refine AW.sg [0,1] [] trivial ?_
 refine AW.seq fun K1 hK1 => ?_
 refine AW.sg [0,1,7,8] [] trivial ?_
 refine AW.block ?_
 refine AW.loopE (fun mm ee ss kk => ∃ (j : Nat), l.length - j = mm ∧ ee = [(0, .rsl 1 (ints l)), (1, .int .i64 x), (7, .int .i64 l.length), (8, .int .i64 (j : Nat))] ∧ ss = [] ∧ (j ≤ l.length ∧ (l.take j).any (fun y => decide (x = y)) = false)) ?_ ?_
 -- init 1
 ·exact ⟨_, 0, rfl, eD, eD, eT⟩
 rintro mm ee ss kk ⟨j, rfl, rfl, rfl, hI⟩
 generalize hQl1 : thenQ _ _ = Ql1
 obtain ⟨hj, hall⟩ := hI
 refine AW.sg [0,1,7,8,9] [] trivial ?_
 refine AW.seq fun K2 hK2 => ?_
 refine AW.cn ?_ ?_
 ·intro hb
  obtain ⟨y, hy⟩ := getI (l := l) (j := j) (by omega)
  have hgy := ints_get hy
  have hats := any_take_succ (p := fun y => decide (x = y)) hy
  refine AW.skip ?_
  refine hK2 _ _ _ ?_; clear hK2
  refine AW.seq fun K3 hK3 => ?_
  refine AW.block ?_
  refine AW.sg [0,1,5,7,8] [] trivial ?_
  refine AW.sg [0,1,5,7,8,16] [] (@hgy) ?_
  refine AW.cn ?_ ?_
  ·intro hb
   refine AW.sg [4] [] trivial ?_
   -- ret 1
   rw [← hQl1, ← hQr]
   refine AW.rt trivial ?_
   exact Wk.of_eq (by rw [ixf_at hy (decide_eq_true hb) hall])
  ·intro hb
   refine AW.skip ?_
   refine hK3 _ _ _ ?_; clear hK3
   refine AW.rg [0,1,7,8] [] trivial ?_
   -- again 1
   rw [← hQl1]; change Exists _
   exact ⟨_, eO, j + 1, rfl, eD, eD, (⟨by omega, by rw [hats, hall, decide_eq_false hb]; rfl⟩)⟩
 ·intro hb
  -- exit 0
  refine AW.kx [] [] ?_
  rw [← hQl1]
  refine hK1 _ _ _ ?_; clear hK1
  refine AW.sg [4] [] trivial ?_
  -- ret 2
  rw [← hQr]
  refine AW.rt trivial ?_
  exact Wk.of_eq (by rw [List.take_of_length_le (by omega)] at hall; rw [ixf_none hall])
def nats (l : List Nat) : List Int := l.map fun (i : Nat) => (i : Int)
theorem nats_app (l : List Nat) (i : Nat) : nats l ++ [(i : Int)] = nats (l ++ [i]) := by simp [nats]
theorem nats_len (l : List Nat) : (nats l).length = l.length := by simp [nats]
end Go.Proofs.D

namespace Go.Proofs.D
open Go.AM Go
set_option maxRecDepth 100000
set_option maxHeartbeats 2000000
attribute [-go_sem] globA_0
theorem tz_c (x q k : Nat) (G : List AV) (hg : globA 0 = some G) (h0 : x ≠ 0) (hq : bShr .u64 (IntKind.u64.wrap (bAnd .u64 (x : Int) (IntKind.u64.wrap (0 - (x : Int))) * 285870213051353865)) 58 = (q : Int)) (hq1 : q < 64) (hd : (List.drop q G).getD 0 .any = .int .u8 (k : Int)) (hdl : (List.drop q G).length = 64 - q) (hw : IntKind.i64.wrap (k : Int) = k) : Reads Tryd.prog 86 false [.int .u64 (x : Nat)] (.int .i64 (k : Nat)) := by
 refine Reads.body (rs := [.tmp 2]) Tryd.func86 rfl Tryd.ntmps86 rfl (by simp) ?_
 generalize hQr : retQ _ _ _ = Qr
 -- block 1
 refine AW.sg [0] [] trivial ?_
 refine AW.seq fun K1 hK1 => ?_
 refine AW.sg [0,4] [] trivial ?_
 refine AW.cn ?_ ?_
 ·intro hb
  exfalso; omega
 ·intro hb
  refine AW.skip ?_
  refine hK1 _ _ _ ?_; clear hK1
  refine AW.sg [2] [] (e3 @hg @hq (e5 @hd @hdl @hw @Int.toNat_natCast @Nat.mul_one)) ?_
  -- ret 2
  rw [← hQr]
  refine AW.rt trivial ?_
  exact Wk.refl _
theorem tz_r (x : Nat) (hx : x < 18446744073709551616) (h0 : x ≠ 0) (k : Nat) (hk : k < 64) (hl : x &&& (18446744073709551616 - x) = 2 ^ k) : Reads Tryd.prog 86 false [.int .u64 (x : Nat)] (.int .i64 (k : Nat)) :=
 tz_c x _ k tzA globA_0 h0 (tz_ix hx h0 hk hl) (tz_look k hk).1 (tzA_get (tz_look k hk).1 (tz_look k hk).2) (tzA_len _) (wrapI (by omega))
end Go.Proofs.D

/- The members of a set, word by word. -/
namespace Go.AM
def memK (W : List Int) (k : Nat) : List Nat := (bitsW (W.getD k 0).toNat).map fun j => 64 * k + j
def memT (W : List Int) (k : Nat) : List Nat := (List.range k).flatMap (memK W)
theorem memT_succ (W : List Int) (k : Nat) : memT W (k + 1) = memT W k ++ memK W k := by
  unfold memT; rw [List.range_succ, List.flatMap_append]; simp
theorem memT_len (W : List Int) : ∀ k, (memT W k).length ≤ 64 * k
  | 0 => by simp [memT]
  | k + 1 => by
    rw [memT_succ, List.length_append]
    have := memT_len W k
    have h2 : (memK W k).length ≤ 64 := by
      unfold memK bitsW; rw [List.length_map]
      exact Nat.le_trans (List.length_filter_le _ _) (by simp)
    omega
theorem range_add (p : Nat → Bool) (a : Nat) : ∀ b, (List.range (a + b)).filter p = (List.range a).filter p ++ ((List.range b).filter fun j => p (a + j)).map fun j => a + j
  | 0 => by simp
  | b + 1 => by
    rw [← Nat.add_assoc, List.range_succ, List.filter_append, range_add p a b, List.range_succ, List.filter_append, List.map_append, List.append_assoc]
    congr 2
    simp only [List.filter_cons, List.filter_nil]
    split <;> simp
/-- The members are the places that have their bit. -/
theorem memT_filter {W : List Int} (hW : okW W) : ∀ k, memT W k = (List.range (64 * k)).filter fun (i : Nat) => hasW W (i : Int)
  | 0 => by simp [memT]
  | k + 1 => by
    rw [memT_succ, memT_filter hW k, Nat.mul_succ, range_add]
    congr 1
    unfold memK bitsW
    congr 1
    refine List.filter_congr fun j hj => ?_
    have hj := List.mem_range.1 hj
    rw [hasW_nat hW, show (64 * k + j) / 64 = k by omega, show (64 * k + j) % 64 = j by omega]
end Go.AM

namespace Go.Proofs.D
open Go.AM Go
set_option maxRecDepth 100000
set_option maxHeartbeats 2000000
theorem members_r (N : Int) (W : List Int) (hv : validS N W = true) (hW : okW W) : Reads Tryd.prog 68 false [.agg [.int .i64 N, .rsl 1 (words W)]] (.tup [.rsl 1 (ints (nats (memT W W.length))), .int .i64 ((0 : Nat) : Int)]) := by
 obtain ⟨hN0, hN1, hNl⟩ := validS_sz hv
 have hwr := wordsN_rng hN0
 have h := bvalid_r N W (by omega)
 rw [hv] at h
 have hml := memT_len W
 refine Reads.body (rs := [.tmp 2, .tmp 3]) Tryd.func68 rfl Tryd.ntmps68 rfl (by simp) ?_
 generalize hQr : retQ _ _ _ = Qr
 -- block 1
 refine AW.sg [1] [1] trivial ?_
 refine AW.seq fun K1 hK1 => ?_
 refine AW.so 0 (fun ii => if ii = 1 then some (.reads false (.bool true)) else none) [1,9] [1] trivial ?_
 repeat with_reducible refine cj ?_ ?_
 all_goals try first | (exact h) | omega | exact ent (by kernel_rfl)
 refine AW.cn ?_ ?_
 ·intro hb
  simp at hb
 ·intro hb
  refine AW.skip ?_
  refine hK1 _ _ _ ?_; clear hK1
  refine AW.sg [1,4] [1] trivial ?_
  refine AW.seq fun K2 hK2 => ?_
  refine AW.sg [4,11,12,13] [] trivial ?_
  refine AW.block ?_
  refine AW.nilOwn 4 200 1 (by simp only [go_sem, reduceIte, zE]) ?_
  refine AW.keep [4, 11, 12, 13] [200] ?_
  simp only [go_sem, reduceIte, zE]
  refine AW.loopE (fun mm ee ss kk => ∃ (k g v : Nat) (out : List Nat), W.length - k = mm ∧ ee = [(4, .sl ⟨200, g, none⟩ 0 out.length none), (11, .rsl 1 (words W)), (12, .int .i64 W.length), (13, .int .i64 (k : Nat))] ∧ ss = [(200, some ⟨g, v, 1, ints (nats out)⟩)] ∧ (k ≤ W.length ∧ out = memT W k)) ?_ ?_
  -- init 1
  ·refine ⟨_, 0, ?_, ?_, [], rfl, ?henv, ?hstore, ?hst⟩
   case henv =>
    repeat' (first | rfl | refine env_cons ?_ ?_ | refine st_cons ?_ ?_ ?_ ?_ | refine int_eq ?_ | refine bool_eq ?_ | refine rsl_eq ?_ | refine osl_eq ?_ | refine sl_eq ?_ ?_ ?_ | refine ptr_eq ?_ ?_ ?_ | refine agg_eq ?_ | refine es_cons ?_ ?_ | refine row_cons ?_ ?_)
    all_goals (first | (simp; done) | omega | (simp; omega))
   case hstore =>
    repeat' (first | rfl | refine env_cons ?_ ?_ | refine st_cons ?_ ?_ ?_ ?_ | refine int_eq ?_ | refine bool_eq ?_ | refine rsl_eq ?_ | refine osl_eq ?_ | refine sl_eq ?_ ?_ ?_ | refine ptr_eq ?_ ?_ ?_ | refine agg_eq ?_ | refine es_cons ?_ ?_ | refine row_cons ?_ ?_)
    all_goals (simp [ints, nats])
   case hst =>
    exact ⟨Nat.zero_le _, rfl⟩
  rintro mm ee ss kk ⟨k, g, v, out, rfl, rfl, rfl, hI⟩
  generalize hQl1 : thenQ _ _ = Ql1
  obtain ⟨hk, hout⟩ := hI
  refine AW.sg [4,11,12,13,14] [200] trivial ?_
  refine AW.seq fun K3 hK3 => ?_
  refine AW.cn ?_ ?_
  ·intro hb
   have hgw := words_getD (l := W) (i := k) (by omega)
   have hwk := hW k
   have hms := memT_succ W k
   have hmk : memK W k = (bitsW (W.getD k 0).toNat).map fun j => 64 * k + j := rfl
   obtain ⟨x, hx⟩ : ∃ x : Nat, W.getD k 0 = (x : Int) := ⟨_, (Int.toNat_of_nonneg hwk.1).symm⟩
   have hxl : x < 18446744073709551616 := by omega
   have hmb := hml (k + 1)
   rw [hx, Int.toNat_natCast] at hmk
   rw [hx] at hgw
   rw [hmk] at hms
   refine AW.skip ?_
   refine hK3 _ _ _ ?_; clear hK3
   refine AW.seq fun K4 hK4 => ?_
   refine AW.block ?_
   refine AW.sg [4,5,6,11,12,13] [200] (@hgw) ?_
   refine AW.block ?_
   refine AW.loopE (fun mm ee ss kk => ∃ (y g v : Nat) (o2 : List Nat), y + 1 = mm ∧ ee = [(4, .sl ⟨200, g, none⟩ 0 o2.length none), (5, .int .i64 (k : Nat)), (6, .int .u64 (y : Nat)), (11, .rsl 1 (words W)), (12, .int .i64 W.length), (13, .int .i64 (k : Nat))] ∧ ss = [(200, some ⟨g, v, 1, ints (nats o2)⟩)] ∧ (y < 18446744073709551616 ∧ memT W (k + 1) = o2 ++ (bitsW y).map fun j => 64 * k + j)) ?_ ?_
   -- init 2
   ·exact ⟨_, x, _, _, out, rfl, eD, eD, (⟨hxl, by rw [hms, hout]⟩)⟩
   rintro mm ee ss kk ⟨y, g, v, o2, rfl, rfl, rfl, hI⟩
   generalize hQl2 : thenQ _ _ = Ql2
   obtain ⟨hyl, hy⟩ := hI
   have hol : o2.length ≤ 64 * (k + 1) := by rw [hy, List.length_append] at hmb; omega
   refine AW.seq fun K5 hK5 => ?_
   refine AW.sg [4,5,6,11,12,13,19] [200] trivial ?_
   refine AW.cn ?_ ?_
   ·intro hb
    obtain ⟨j, hj, hj1, hj2, hj3⟩ := bitsW_step (x := y) (by omega) hyl
    have htz := tz_r y hyl (by omega) j hj hj1
    have hto : (ints (nats o2)).take o2.length = ints (nats o2) := List.take_of_length_le (by rw [ints_len, nats_len]; exact Nat.le_refl _)
    have hadd : (k : Int) * 64 + (j : Int) = ((64 * k + j : Nat) : Int) := by omega
    have hsub : IntKind.u64.wrap ((y : Int) - 1) = ((y - 1 : Nat) : Int) := by rw [show (y : Int) - 1 = ((y - 1 : Nat) : Int) by omega]; exact wrapU (by omega)
    have hand : bAnd .u64 (y : Int) ((y - 1 : Nat) : Int) = ((y &&& (y - 1) : Nat) : Int) := bAnd_nat hyl (by omega)
    have hone : [[AV.int .i64 ((64 * k + j : Nat) : Int)]] = ints [((64 * k + j : Nat) : Int)] := rfl
    refine AW.skip ?_
    refine hK5 _ _ _ ?_; clear hK5
    refine AW.seq fun K6 hK6 => ?_
    refine AW.block ?_
    refine AW.ro 0 (fun ii => if ii = 4 then some (.reads false (.int .i64 (j : Nat))) else none) [4,5,6,11,12,13] [200] (e5 @hadd @hto @ints_app @nats_app @nats_len) ?_
    repeat with_reducible refine cj ?_ ?_
    all_goals try first | (exact htz) | omega | exact ent (by kernel_rfl) | (simp [scP, scalar]; done) | exact scP_words _ | exact scP_ints _ | exact scP_bools _
    refine hK6 _ _ _ ?_; clear hK6
    refine AW.rg [4,5,6,11,12,13] [200] (e2 @hsub @hand) ?_
    -- again 2
    rw [← hQl2]; change Exists _
    exact ⟨_, eO, y &&& (y - 1), _, _, o2 ++ [64 * k + j], rfl, eD, eD, (⟨by omega, by rw [hy, hj2]; simp⟩)⟩
   ·intro hb
    have hy0 : y = 0 := by omega
    subst hy0
    rw [bitsW_zero, List.map_nil, List.append_nil] at hy
    -- exit 2
    refine AW.exit ?_
    rw [← hQl2]
    refine hK4 _ _ _ ?_; clear hK4
    refine AW.rg [4,11,12,13] [200] trivial ?_
    -- again 1
    rw [← hQl1]; change Exists _
    exact ⟨_, eO, k + 1, _, _, o2, rfl, eD, eD, (⟨by omega, hy.symm⟩)⟩
  ·intro hb
   -- exit 0
   refine AW.exit ?_
   rw [← hQl1]
   refine hK2 _ _ _ ?_; clear hK2
   refine AW.sg [2,3] [200] trivial ?_
   -- ret 2
   rw [← hQr]
   refine AW.rt trivial ?_
   have hkl : k = W.length := by omega
   subst hkl
   rw [hout, List.take_of_length_le (by rw [nats_len]; exact Nat.le_refl _)]
   exact Wk.refl _
end Go.Proofs.D

namespace Go.Proofs.D
open Go.AM Go
set_option maxRecDepth 100000
set_option maxHeartbeats 2000000
theorem pop_r (x : Nat) (hx : x < 18446744073709551616) : Reads Tryd.prog 96 false [.int .u64 (x : Nat)] (.int .i64 ((bitsW x).length : Nat)) := by
 obtain ⟨b1, b2, b3, b4⟩ := popN_bits hx
 have h1 := pop1 hx
 have h2 := pop2 b1 (by omega)
 have h3 := pop3 b2
 have b4' : popN x = (f3 1085102592571150095 (f2 3689348814741910323 (f1 6148914691236517205 x)) + f3 1085102592571150095 (f2 3689348814741910323 (f1 6148914691236517205 x)) / 256 + (f3 1085102592571150095 (f2 3689348814741910323 (f1 6148914691236517205 x)) + f3 1085102592571150095 (f2 3689348814741910323 (f1 6148914691236517205 x)) / 256) / 65536 + (f3 1085102592571150095 (f2 3689348814741910323 (f1 6148914691236517205 x)) + f3 1085102592571150095 (f2 3689348814741910323 (f1 6148914691236517205 x)) / 256 + (f3 1085102592571150095 (f2 3689348814741910323 (f1 6148914691236517205 x)) + f3 1085102592571150095 (f2 3689348814741910323 (f1 6148914691236517205 x)) / 256) / 65536) / 4294967296) % 128 := rfl
 rw [← b4, b4']
 clear b4 b4'
 generalize f1 6148914691236517205 x = a at *
 generalize f2 3689348814741910323 a = b at *
 generalize f3 1085102592571150095 b = y at *
 have h4 : IntKind.u64.wrap ((y : Int) + bShr .u64 (y : Int) 8) = ((y + y / 256 : Nat) : Int) := pop4 (k := 8) (by decide) (by decide) (by omega)
 have c1 : y + y / 256 < 600000000000000000 := by omega
 generalize y + y / 256 = y1 at *
 have h5 : IntKind.u64.wrap ((y1 : Int) + bShr .u64 (y1 : Int) 16) = ((y1 + y1 / 65536 : Nat) : Int) := pop4 (k := 16) (by decide) (by decide) (by omega)
 have c2 : y1 + y1 / 65536 < 700000000000000000 := by omega
 generalize y1 + y1 / 65536 = y2 at *
 have h6 : IntKind.u64.wrap ((y2 : Int) + bShr .u64 (y2 : Int) 32) = ((y2 + y2 / 4294967296 : Nat) : Int) := pop4 (k := 32) (by decide) (by decide) (by omega)
 have c3 : y2 + y2 / 4294967296 < 800000000000000000 := by omega
 generalize y2 + y2 / 4294967296 = y3 at *
 have h7 := pop5 (x := y3) (by omega)
 refine Reads.body (rs := [.tmp 2]) Tryd.func96 rfl Tryd.ntmps96 rfl (by simp) ?_
 generalize hQr : retQ _ _ _ = Qr
 -- block 1
 refine AW.sg [0] [] trivial ?_
 refine AW.sg [0] [] (@h1) ?_
 refine AW.sg [0] [] (@h2) ?_
 refine AW.sg [0] [] (@h3) ?_
 refine AW.sg [0] [] (@h4) ?_
 refine AW.sg [0] [] (@h5) ?_
 refine AW.sg [0] [] (@h6) ?_
 refine AW.sg [2] [] (@h7) ?_
 -- ret 1
 rw [← hQr]
 refine AW.rt trivial ?_
 exact Wk.refl _
end Go.Proofs.D

namespace Go.Proofs.D
open Go.AM Go
set_option maxRecDepth 100000
set_option maxHeartbeats 2000000
theorem count_r (N : Int) (W : List Int) (hv : validS N W = true) (hW : okW W) : Reads Tryd.prog 88 false [.agg [.int .i64 N, .rsl 1 (words W)]] (.int .i64 ((memT W W.length).length : Nat)) := by
 obtain ⟨hN0, hN1, hNl⟩ := validS_sz hv
 have hwr := wordsN_rng hN0
 have h := bvalid_r N W (by omega)
 rw [hv] at h
 have hml := memT_len W
 refine Reads.body (rs := [.tmp 2]) Tryd.func88 rfl Tryd.ntmps88 rfl (by simp) ?_
 generalize hQr : retQ _ _ _ = Qr
 -- block 1
 refine AW.sg [1] [1] trivial ?_
 refine AW.seq fun K1 hK1 => ?_
 refine AW.so 0 (fun ii => if ii = 1 then some (.reads false (.bool true)) else none) [1,8] [1] trivial ?_
 repeat with_reducible refine cj ?_ ?_
 all_goals try first | (exact h) | omega | exact ent (by kernel_rfl)
 refine AW.cn ?_ ?_
 ·intro hb
  simp at hb
 ·intro hb
  refine AW.skip ?_
  refine hK1 _ _ _ ?_; clear hK1
  refine AW.sg [1,3] [1] trivial ?_
  refine AW.seq fun K2 hK2 => ?_
  refine AW.sg [3,10,11,12] [] trivial ?_
  refine AW.block ?_
  refine AW.loopE (fun mm ee ss kk => ∃ (k c : Nat), W.length - k = mm ∧ ee = [(3, .int .i64 (c : Nat)), (10, .rsl 1 (words W)), (11, .int .i64 W.length), (12, .int .i64 (k : Nat))] ∧ ss = [] ∧ (k ≤ W.length ∧ c = (memT W k).length)) ?_ ?_
  -- init 1
  ·exact ⟨_, 0, 0, rfl, eD, eD, (⟨Nat.zero_le _, rfl⟩)⟩
  rintro mm ee ss kk ⟨k, c, rfl, rfl, rfl, hI⟩
  generalize hQl1 : thenQ _ _ = Ql1
  obtain ⟨hk, hc⟩ := hI
  have hmk := hml k
  refine AW.sg [3,10,11,12,13] [] trivial ?_
  refine AW.seq fun K3 hK3 => ?_
  refine AW.cn ?_ ?_
  ·intro hb
   have hgw := words_getD (l := W) (i := k) (by omega)
   have hwk := hW k
   have hms := memT_succ W k
   have hmk2 : memK W k = (bitsW (W.getD k 0).toNat).map fun j => 64 * k + j := rfl
   obtain ⟨x, hx⟩ : ∃ x : Nat, W.getD k 0 = (x : Int) := ⟨_, (Int.toNat_of_nonneg hwk.1).symm⟩
   have hpop := pop_r x (by omega)
   rw [hx, Int.toNat_natCast] at hmk2
   rw [hx] at hgw
   have hlen : (memT W (k + 1)).length = c + (bitsW x).length := by rw [hms, hmk2, List.length_append, List.length_map, hc]
   have hmk3 := hml (k + 1)
   refine AW.skip ?_
   refine hK3 _ _ _ ?_; clear hK3
   refine AW.seq fun K4 hK4 => ?_
   refine AW.block ?_
   refine AW.sg [3,5,10,11,12] [] (@hgw) ?_
   refine AW.ro 0 (fun ii => if ii = 2 then some (.reads false (.int .i64 ((bitsW x).length : Nat))) else none) [3,10,11,12] [] trivial ?_
   repeat with_reducible refine cj ?_ ?_
   all_goals try first | (exact hpop) | omega | exact ent (by kernel_rfl)
   refine hK4 _ _ _ ?_; clear hK4
   refine AW.rg [3,10,11,12] [] trivial ?_
   -- again 1
   rw [← hQl1]; change Exists _
   exact ⟨_, eO, k + 1, c + (bitsW x).length, rfl, eD, eD, (⟨by omega, hlen.symm⟩)⟩
  ·intro hb
   -- exit 0
   refine AW.kx [3] [] ?_
   rw [← hQl1]
   refine hK2 _ _ _ ?_; clear hK2
   refine AW.sg [2] [] trivial ?_
   -- ret 2
   rw [← hQr]
   refine AW.rt trivial ?_
   have hkl : k = W.length := by omega
   subst hkl
   rw [hc]
   exact Wk.refl _
end Go.Proofs.D

namespace Go.Proofs.D
open Go.AM Go
set_option maxRecDepth 100000
set_option maxHeartbeats 2000000
theorem minusf_r (a b : Int) : Reads Tryd.prog 95 false [.int .u64 a, .int .u64 b] (.int .u64 (bAndNot .u64 a b)) := by
 refine Reads.body (rs := [.tmp 4]) Tryd.func95 rfl Tryd.ntmps95 rfl (by simp) ?_
 generalize hQr : retQ _ _ _ = Qr
 -- block 1
 refine AW.sg [0,1] [] trivial ?_
 refine AW.sg [4] [] trivial ?_
 -- ret 1
 rw [← hQr]
 refine AW.rt trivial ?_
 exact Wk.refl _
theorem bmatching_r (N M : Int) (W V : List Int) (hl : W.length ≤ 9223372036854775807) (hl2 : V.length ≤ 9223372036854775807) : Reads Tryd.prog 100 false [.agg [.int .i64 N, .rsl 1 (words W)], .agg [.int .i64 M, .rsl 1 (words V)]] (.bool (validS N W && validS M V && decide (N = M))) := by
 have h1 := bvalid_r N W hl
 have h2 := bvalid_r M V hl2
 refine Reads.body (rs := [.tmp 4]) Tryd.func100 rfl Tryd.ntmps100 rfl (by simp) ?_
 generalize hQr : retQ _ _ _ = Qr
 -- block 2
 refine AW.sg [2,3] [2,3] trivial ?_
 refine AW.so 0 (fun ii => if ii = 1 then some (.reads false (.bool (validS N W))) else if ii = 4 then some (.reads false (.bool (validS M V))) else none) [4] [] trivial ?_
 repeat with_reducible refine cj ?_ ?_
 all_goals try first | (first | exact h1 | exact h2 | (intro hh; exact ⟨hh, h2⟩)) | (intros; (repeat' apply And.intro) <;> first | assumption | (first | exact h1 | exact h2 | (intro hh; exact ⟨hh, h2⟩))) | omega | exact ent (by kernel_rfl) | (intro hgd; exact absurd hgd (by decide)) | rfl | exact gD | (intro _hgd; simp_all [go_sem]; done)
 -- ret 1
 rw [← hQr]
 refine AW.rt trivial ?_
 exact Wk.refl _
theorem copied_u (N : Int) (W : List Int) (hl : W.length ≤ 1000) : Upd Tryd.prog 92 [] [.agg [.int .i64 N, .rsl 1 (words W)]] (fun k => .agg [.int .i64 N, .sl ⟨0, k, none⟩ 0 W.length none]) (fun k => [(0, some ⟨k, k, 1, words W⟩)]) := by
 refine Upd.of_body (rs := [.cell 2 69]) Tryd.func92 rfl Tryd.ntmps92 rfl (by simp) ?_
 intro k0 k hk0 hk1
 generalize hQr : retQ _ _ _ = Qr
 -- block 3
 refine AW.so 100 (fun _ => none) [1,2] [101,102] trivial ?_
 refine AW.sd mixed 100 (fun _ => none) [1,2,3] [101,102,103,109] trivial ?_
 refine AW.so 100 (fun _ => none) [2,3] [102,103,109] trivial ?_
 refine AW.so 100 (fun _ => none) [2] [102,109] trivial ?_
 -- ret 1
 rw [← hQr]
 refine AW.rt trivial ?_
 have e1 : words (List.take (min W.length W.length) W) ++ List.drop (min W.length W.length) (List.replicate W.length [AV.int IntKind.u64 0]) = words W := by rw [Nat.min_self, List.take_of_length_le (Nat.le_refl _), List.drop_of_length_le (by simp), List.append_nil]
 rw [e1]
 refine ⟨[(109, 0, true)], ?_⟩
 simp only [go_sem, reduceIte, zE, renC_words]
end Go.Proofs.D

namespace Go.Proofs.D
open Go.AM Go
set_option maxRecDepth 100000
set_option maxHeartbeats 2000000
def zipK (g : Int → Int → Int) (W V : List Int) (k : Nat) : List Int := (List.zipWith g W V).take k ++ W.drop k
theorem zipK_len {g : Int → Int → Int} {W V : List Int} (hl : V.length = W.length) {k : Nat} (hk : k ≤ W.length) : (zipK g W V k).length = W.length := by simp [zipK, hl]; omega
theorem zipK_get {g : Int → Int → Int} {W V : List Int} (hl : V.length = W.length) {k : Nat} (hk : k < W.length) : (zipK g W V k).getD k 0 = W.getD k 0 := by
 unfold zipK
 rw [Go.AM.getD_append, if_neg (by simp [hl]; omega)]
 simp [List.getD_eq_getElem?_getD, hl, Nat.min_eq_left (Nat.le_of_lt hk)]
theorem zipK_set {g : Int → Int → Int} {W V : List Int} (hl : V.length = W.length) {k : Nat} (hk : k < W.length) : (zipK g W V k).set k (g (W.getD k 0) (V.getD k 0)) = zipK g W V (k + 1) := by
 unfold zipK
 have h1 : ((List.zipWith g W V).take k).length = k := by simp [hl]; omega
 rw [List.set_append_right _ _ (by omega), h1, Nat.sub_self, List.drop_eq_getElem_cons hk, List.set_cons_zero, List.take_succ_eq_append_getElem (by simp [hl]; omega), List.append_assoc]
 simp [List.getD_eq_getElem?_getD, hk, show k < V.length by omega]
theorem combined_r (N M : Int) (W V : List Int) (F : Nat) (g : Int → Int → Int) (hl : W.length ≤ 1000) (hl2 : V.length ≤ 1000) (hlen : V.length = W.length) (hok : (validS N W && validS M V && decide (N = M)) = true) (he : enters Tryd.prog F = true) (hf : ∀ a b, Reads Tryd.prog F false [.int .u64 a, .int .u64 b] (.int .u64 (g a b))) :
  Reads Tryd.prog 94 false [.agg [.int .i64 N, .rsl 1 (words W)], .agg [.int .i64 M, .rsl 1 (words V)], .fn F []] (.tup [.agg [.int .i64 N, .rsl 1 (words (List.zipWith g W V))], .int .i64 ((0 : Nat) : Int)]) := by
 have hm := bmatching_r N M W V (by omega) (by omega)
 rw [hok] at hm
 have hc := copied_u N W hl
 refine Reads.body (rs := [.cell 6 69, .tmp 7]) Tryd.func94 rfl Tryd.ntmps94 rfl (by simp) ?_
 generalize hQr : retQ _ _ _ = Qr
 -- block 1
 refine AW.sg [2,3,4,6] [3,4,6] trivial ?_
 refine AW.seq fun K1 hK1 => ?_
 refine AW.so 0 (fun ii => if ii = 2 then some (.reads false (.bool true)) else none) [2,3,4,6,14] [3,4,6] trivial ?_
 repeat with_reducible refine cj ?_ ?_
 all_goals try first | (exact hm) | omega | exact ent (by kernel_rfl)
 refine AW.cn ?_ ?_
 ·intro hb
  simp at hb
 ·intro hb
  refine AW.skip ?_
  refine hK1 _ _ _ ?_; clear hK1
  refine AW.so 0 (fun ii => if ii = 1 then some (.upd [] (fun k => [(0, some ⟨k, k, 1, words W⟩)]) (fun k => .agg [.int .i64 N, .sl ⟨0, k, none⟩ 0 W.length none])) else none) [2,4,6,8] [4,6,8,17] trivial ?_
  repeat with_reducible refine cj ?_ ?_
  all_goals try first | (exact hc) | omega | exact ent (by kernel_rfl)
  refine AW.seq fun K2 hK2 => ?_
  refine AW.sg [2,6,8,19,20,21] [6,8,17] trivial ?_
  refine AW.block ?_
  refine AW.loopE (fun mm ee ss kk => ∃ (k g6 v6 g8 v8 g17 v17 : Nat), W.length - k = mm ∧ ee = [(2, .fn F []), (6, .ptr ⟨6, g6, none⟩ 0 0), (8, .ptr ⟨8, g8, none⟩ 0 0), (19, .rsl 1 (words V)), (20, .int .i64 V.length), (21, .int .i64 (k : Nat))] ∧ ss = [(6, some ⟨g6, v6, 2, [[.int .i64 0, .nilsl]]⟩), (8, some ⟨g8, v8, 2, [[.int .i64 N, .sl ⟨17, g17, none⟩ 0 W.length none]]⟩), (17, some ⟨g17, v17, 1, words (zipK g W V k)⟩)] ∧ (k ≤ W.length)) ?_ ?_
  -- init 1
  ·exact ⟨_, 0, _, _, _, _, _, _, rfl, eD, eD, eT⟩
  rintro mm ee ss kk ⟨k, g6, v6, g8, v8, g17, v17, rfl, rfl, rfl, hI⟩
  generalize hQl1 : thenQ _ _ = Ql1
  refine AW.sg [2,6,8,19,20,21,22] [6,8,17] trivial ?_
  refine AW.seq fun K3 hK3 => ?_
  refine AW.cn ?_ ?_
  ·intro hb
   have hzl := zipK_len (g := g) hlen (k := k) (by omega)
   have hzg := zipK_get (g := g) hlen (k := k) (by omega)
   have hzs := zipK_set (g := g) hlen (k := k) (by omega)
   have hgv := words_getD (l := V) (i := k) (by omega)
   have hgz := words_getD (l := zipK g W V k) (i := k) (by omega)
   rw [hzg] at hgz
   have hff := hf (W.getD k 0) (V.getD k 0)
   refine AW.skip ?_
   refine hK3 _ _ _ ?_; clear hK3
   refine AW.seq fun K4 hK4 => ?_
   refine AW.block ?_
   refine AW.sg [2,6,8,9,10,19,20,21] [6,8,17] (@hgv) ?_
   refine AW.rd mixed 0 (fun ii => if ii = 10 then some (.reads false (.int .u64 (g (W.getD k 0) (V.getD k 0)))) else none) [2,6,8,19,20,21] [6,8,17] (e2 @hgz @hzl) ?_
   repeat with_reducible refine cj ?_ ?_
   all_goals try first | (first | exact hff | exact he) | omega | exact chk (by kernel_rfl) | exact ent (by kernel_rfl)
   refine hK4 _ _ _ ?_; clear hK4
   refine AW.rg [2,6,8,19,20,21] [6,8,17] trivial ?_
   -- again 1
   rw [← hQl1]; change Exists _
   refine ⟨_, ?hm, k + 1, ?_, ?_, ?_, ?_, ?_, ?_, rfl, ?henv, ?hstore, ?hst⟩
   case henv =>
    repeat' (first | rfl | refine env_cons ?_ ?_ | refine st_cons ?_ ?_ ?_ ?_ | refine int_eq ?_ | refine bool_eq ?_ | refine rsl_eq ?_ | refine osl_eq ?_ | refine sl_eq ?_ ?_ ?_ | refine ptr_eq ?_ ?_ ?_ | refine agg_eq ?_ | refine es_cons ?_ ?_ | refine row_cons ?_ ?_)
    all_goals (first | (simp; done) | omega | (simp; omega))
   case hstore =>
    repeat' (first | rfl | refine env_cons ?_ ?_ | refine st_cons ?_ ?_ ?_ ?_ | refine int_eq ?_ | refine bool_eq ?_ | refine rsl_eq ?_ | refine osl_eq ?_ | refine sl_eq ?_ ?_ ?_ | refine ptr_eq ?_ ?_ ?_ | refine agg_eq ?_ | refine es_cons ?_ ?_ | refine row_cons ?_ ?_)
    all_goals (rw [← hzs])
   case hst =>
    first | trivial | omega | (simp; done) | (simp; omega)
   case hm => omega
  ·intro hb
   -- exit 0
   refine AW.exit ?_
   rw [← hQl1]
   refine hK2 _ _ _ ?_; clear hK2
   refine AW.sg [6,7] [6,8,17] trivial ?_
   -- ret 2
   rw [← hQr]
   refine AW.rt trivial ?_
   have hkl : k = W.length := by omega
   subst hkl
   have hz : (zipK g W V W.length).take W.length = List.zipWith g W V := by unfold zipK; rw [List.drop_of_length_le (Nat.le_refl _), List.append_nil, List.take_take, Nat.min_self, List.take_of_length_le (by simp [hlen])]
   rw [hz]
   exact Wk.refl _
end Go.Proofs.D

namespace Go.Proofs.D
open Go.AM Go
set_option maxRecDepth 100000
set_option maxHeartbeats 2000000
theorem setB_len {b : List Bool} (h : b.length ≤ 512) : (setW b b.length).length ≤ 1000 := by
 rw [setW_len']; have := wordsN_rng (n := (b.length : Int)) (by omega); omega
theorem minus_r (a b : List Bool) (ha : a.length ≤ 512) (hl : b.length = a.length) : Reads Tryd.prog 87 false [.agg (rowB a), .agg (rowB b)] (.tup [.agg (rowB (List.zipWith (fun x y => x && !y) a b)), .int .i64 ((0 : Nat) : Int)]) := by
 have hz := zipW_setW bitOp_andNot (a := a) (b := b) hl.symm
 have h := combined_r a.length b.length (setW a a.length) (setW b b.length) 95 (bAndNot .u64) (setB_len ha) (setB_len (by omega)) (by rw [setW_len', setW_len', hl]) (by rw [validS_setW ha, validS_setW (by omega), hl]; simp) (by kernel_rfl) minusf_r
 have e : (List.zipWith (fun x y => x && !y) a b).length = a.length := by simp [hl]
 rw [hz] at h
 unfold rowB
 rw [e]
 refine Reads.body (rs := [.cell 4 69, .tmp 5]) Tryd.func87 rfl Tryd.ntmps87 rfl (by simp) ?_
 generalize hQr : retQ _ _ _ = Qr
 -- block 1
 refine AW.sg [2,3,4] [2,3,4] trivial ?_
 refine AW.so 0 (fun ii => if ii = 2 then some (.reads false (.tup [.agg [.int .i64 a.length, .rsl 1 (words (setW (List.zipWith (fun x y => x && !y) a b) a.length))], .int .i64 ((0 : Nat) : Int)])) else none) [4,5] [4] trivial ?_
 repeat with_reducible refine cj ?_ ?_
 all_goals try first | (exact h) | omega | exact ent (by kernel_rfl)
 -- ret 1
 rw [← hQr]
 refine AW.rt trivial ?_
 exact Wk.refl _
end Go.Proofs.D

/- Strict orders as tables of truths. -/
namespace Go.AM
/-! ### Members of a row. -/
def memB (b : List Bool) : List Nat := (List.range b.length).filter fun i => b.getD i false
theorem memB_mem {b : List Bool} {i : Nat} : i ∈ memB b ↔ i < b.length ∧ b.getD i false = true := by
  unfold memB; simp [List.mem_filter]
theorem memB_le (b : List Bool) : (memB b).length ≤ b.length := by
  unfold memB; have := List.length_filter_le (fun i => b.getD i false) (List.range b.length); simpa using this
def subB (a b : List Bool) : Bool := (List.range a.length).all fun i => !a.getD i false || b.getD i false
theorem subB_iff {a b : List Bool} : subB a b = true ↔ ∀ i, i < a.length → a.getD i false = true → b.getD i false = true := by
  unfold subB
  rw [List.all_eq_true]
  constructor
  · intro h i hi ha
    have := h i (List.mem_range.2 hi)
    rw [ha] at this
    simpa using this
  · intro h i hi
    have := h i (List.mem_range.1 hi)
    cases ha : a.getD i false
    · rfl
    · rw [this ha]; rfl
/-! ### Orders. -/
def poB (n : Nat) (t : List (List Bool)) : Bool := (List.range n).all fun i => (memB (rowT t i)).all fun j => !decide (j = i) && subB (rowT t j) (rowT t i)
structure IsPo (n : Nat) (t : List (List Bool)) : Prop where
  irr : ∀ i, i < n → atT t i i = false
  trans : ∀ i j k, i < n → j < n → k < n → atT t i j = true → atT t j k = true → atT t i k = true
theorem poB_iff {n : Nat} {t : List (List Bool)} (h : Sq n t) : poB n t = true ↔ IsPo n t := by
  unfold poB
  simp only [List.all_eq_true, List.mem_range, memB_mem, Bool.and_eq_true, Bool.not_eq_true', decide_eq_false_iff_not]
  constructor
  · intro H
    refine ⟨fun i hi => ?_, fun i j k hi hj hk h1 h2 => ?_⟩
    · cases e : atT t i i
      · rfl
      · exact absurd rfl (H i hi i ⟨by rw [h.rowLen hi]; exact hi, e⟩).1
    · exact subB_iff.1 (H i hi j ⟨by rw [h.rowLen hi]; exact hj, h1⟩).2 k (by rw [h.rowLen hj]; exact hk) h2
  · intro H i hi j hj
    have hjn : j < n := by rw [h.rowLen hi] at hj; exact hj.1
    refine ⟨fun e => ?_, subB_iff.2 fun k hk ha => ?_⟩
    · subst e
      have := H.irr _ hi
      unfold atT at this
      rw [this] at hj
      exact absurd hj.2 (by simp)
    · rw [h.rowLen hjn] at hk
      exact H.trans i j k hi hjn hk hj.2 ha
theorem IsPo.warsh {n : Nat} {t : List (List Bool)} (hs : Sq n t) (h : IsPo n t) : warsh n t = t := by
  refine tab_ext hs.warsh hs fun i j hi hj => bool_ext ⟨fun hw => ?_, fun hw => warsh_sub hs hi hj hw⟩
  exact warsh_least hs (S := fun a b => atT t a b = true) (fun a b _ _ h => h) (fun a c b ha hc hb h1 h2 => h.trans a c b ha hc hb h1 h2) hi hj hw
theorem IsPo.acyc {n : Nat} {t : List (List Bool)} (hs : Sq n t) (h : IsPo n t) : acyc n t = true := by
  rw [acyc_iff]
  intro i hi
  rw [h.warsh hs]
  exact h.irr i hi
theorem warsh_po {n : Nat} {t : List (List Bool)} (hs : Sq n t) (h : AM.acyc n t = true) : IsPo n (warsh n t) :=
  ⟨fun i hi => acyc_iff.1 h i hi, fun i j k hi hj hk h1 h2 => warsh_trans hs hi hj hk h1 h2⟩
/-! ### Covers. -/
/-! ### Sets of elements. -/
def setR (n : Nat) (f : Nat → Bool) : List Bool := (List.range n).map f
theorem setR_len (n : Nat) (f : Nat → Bool) : (setR n f).length = n := by simp [setR]
theorem setR_get {n : Nat} {f : Nat → Bool} {i : Nat} (h : i < n) : (setR n f).getD i false = f i := by
  unfold setR; simp [List.getD_eq_getElem?_getD, h]
theorem setR_ext {n : Nat} {f g : Nat → Bool} (h : ∀ i, i < n → f i = g i) : setR n f = setR n g := List.map_congr_left fun i hi => h i (List.mem_range.1 hi)
end Go.AM

namespace Go.Proofs.D
open Go.AM Go
set_option maxRecDepth 100000
set_option maxHeartbeats 2000000
theorem memT_setW {b : List Bool} (hb : b.length ≤ 512) : memT (setW b b.length) (setW b b.length).length = memB b := by
 have hok := setW_ok b
 rw [memT_filter hok, setW_len']
 have hw := wordsN_rng (n := (b.length : Int)) (by omega)
 obtain ⟨c, hc⟩ : ∃ c, 64 * (wordsN b.length).toNat = b.length + c := ⟨64 * (wordsN b.length).toNat - b.length, by omega⟩
 rw [hc, range_add]
 have h2 : ((List.range c).filter fun j => hasW (setW b b.length) ((b.length + j : Nat) : Int)) = [] := by
  rw [List.filter_eq_nil_iff]
  intro j hj
  have hj := List.mem_range.1 hj
  rw [hasW_setW b (i := b.length + j) (by rw [setW_len']; omega)]
  simp [List.getD_eq_getElem?_getD]
 rw [h2, List.map_nil, List.append_nil]
 unfold memB
 refine List.filter_congr fun i hi => ?_
 exact hasW_row (List.mem_range.1 hi)
theorem members_b (b : List Bool) (hb : b.length ≤ 512) : Reads Tryd.prog 68 false [.agg (rowB b)] (.tup [.rsl 1 (ints (nats (memB b))), .int .i64 ((0 : Nat) : Int)]) := by
 have h := members_r b.length (setW b b.length) (validS_setW hb) (setW_ok b)
 rw [memT_setW hb] at h
 exact h
theorem count_b (b : List Bool) (hb : b.length ≤ 512) : Reads Tryd.prog 88 false [.agg (rowB b)] (.int .i64 ((memB b).length : Nat)) := by
 have h := count_r b.length (setW b b.length) (validS_setW hb) (setW_ok b)
 rw [memT_setW hb] at h
 exact h
theorem subB_count {a b : List Bool} (hl : b.length = a.length) : decide (((memB (List.zipWith (fun x y => x && !y) a b)).length : Int) = 0) = subB a b := by
 have e : (List.zipWith (fun x y => x && !y) a b).length = a.length := by simp [hl]
 refine bool_ext ?_
 rw [decide_eq_true_eq, show (((memB (List.zipWith (fun x y => x && !y) a b)).length : Int) = 0 ↔ memB (List.zipWith (fun x y => x && !y) a b) = []) from by rw [← List.length_eq_zero_iff]; omega]
 unfold memB subB
 rw [List.filter_eq_nil_iff, List.all_eq_true, e]
 constructor
 ·intro h i hi
  have := h i hi
  rw [zipB_get _ hl.symm (List.mem_range.1 hi)] at this
  cases h1 : a.getD i false <;> cases h2 : b.getD i false <;> simp_all
 ·intro h i hi
  have := h i hi
  rw [zipB_get _ hl.symm (List.mem_range.1 hi)]
  revert this
  cases a.getD i false <;> cases b.getD i false <;> decide
theorem subset_r (a b : List Bool) (ha : a.length ≤ 512) (hl : b.length = a.length) : Reads Tryd.prog 69 false [.agg (rowB a), .agg (rowB b)] (.bool (subB a b)) := by
 have hm := minus_r a b ha hl
 have e : (List.zipWith (fun x y => x && !y) a b).length = a.length := by simp [hl]
 have hc := count_b (List.zipWith (fun x y => x && !y) a b) (by omega)
 have hs := subB_count hl
 unfold rowB at *
 refine Reads.body (rs := [.tmp 4]) Tryd.func69 rfl Tryd.ntmps69 rfl (by simp) ?_
 generalize hQr : retQ _ _ _ = Qr
 -- block 1
 refine AW.sg [2,3] [2,3] trivial ?_
 refine AW.so 0 (fun ii => if ii = 2 then some (.reads false (.tup [.agg (rowB (List.zipWith (fun x y => x && !y) a b)), .int .i64 ((0 : Nat) : Int)])) else none) [5,6] [5] (@rowB.eq_1) ?_
 repeat with_reducible refine cj ?_ ?_
 all_goals try first | (exact hm) | omega | exact ent (by kernel_rfl)
 refine AW.so 0 (fun ii => if ii = 4 then some (.reads false (.int .i64 ((memB (List.zipWith (fun x y => x && !y) a b)).length : Nat))) else none) [4] [] trivial ?_
 repeat with_reducible refine cj ?_ ?_
 all_goals try first | (first | exact hc | (intro hh; exact ⟨hh, hc⟩)) | (intros; (repeat' apply And.intro) <;> first | assumption | (first | exact hc | (intro hh; exact ⟨hh, hc⟩))) | omega | exact ent (by kernel_rfl) | (intro hgd; exact absurd hgd (by decide)) | rfl | exact gD | (intro _hgd; simp_all [go_sem]; done)
 -- ret 1
 rw [← hQr]
 refine AW.rt trivial ?_
 exact Wk.of_eq (by rw [← hs]; simp)
end Go.Proofs.D

namespace Go.Proofs.D
open Go.AM Go
set_option maxRecDepth 100000
set_option maxHeartbeats 2000000
theorem inside_r (N : Int) (W : List (List AV)) (i : Int) : Reads Tryd.prog 75 false [.agg [.int .i64 N, .rsl 1 W], .int .i64 i] (.bool (decide (0 ≤ i) && decide (i < N))) := by
 refine Reads.body (rs := [.tmp 4]) Tryd.func75 rfl Tryd.ntmps75 rfl (by simp) ?_
 generalize hQr : retQ _ _ _ = Qr
 -- block 1
 refine AW.sg [1,2] [2] trivial ?_
 refine AW.sg [4] [] trivial ?_
 repeat with_reducible refine cj ?_ ?_
 all_goals try first | omega | (intros; (repeat' apply And.intro) <;> first | assumption | omega | decide) | (intro hgd; exact absurd hgd (by decide)) | rfl | exact gD | (intro _hgd; simp_all [go_sem]; done)
 -- ret 1
 rw [← hQr]
 refine AW.rt trivial ?_
 exact Wk.refl _
theorem bhas0_r (N : Int) (W : List Int) (i : Int) (hW : okW W) (h0 : 0 ≤ i) (h1 : i.tdiv 64 < W.length) (hl : W.length ≤ 9223372036854775807) : Reads Tryd.prog 76 false [.agg [.int .i64 N, .rsl 1 (words W)], .int .i64 i] (.bool (hasW W i)) := by
 have hd := div64_rng (i := i) (n := i + 1) h0 (by omega)
 have hgw := words_getD (l := W) (i := (i.tdiv 64).toNat) (by omega)
 have hb := bit_hasW hW h0
 refine Reads.body (rs := [.tmp 4]) Tryd.func76 rfl Tryd.ntmps76 rfl (by simp) ?_
 generalize hQr : retQ _ _ _ = Qr
 -- block 2
 refine AW.sg [1,2] [2] trivial ?_
 refine AW.sg [4] [] (@hgw) ?_
 -- ret 1
 rw [← hQr]
 refine AW.rt trivial ?_
 exact Wk.of_eq (by rw [hb])
theorem bhas_r (N : Int) (W : List Int) (i : Int) (hW : okW W) (hl : W.length ≤ 9223372036854775807) : Reads Tryd.prog 44 false [.agg [.int .i64 N, .rsl 1 (words W)], .int .i64 i] (.bool (memS N W i)) := by
 have hv := bvalid_r N W hl
 have hin := inside_r N (words W) i
 have hh0 := fun h0 h1 => bhas0_r N W i hW h0 h1 hl
 refine Reads.body (rs := [.tmp 4]) Tryd.func44 rfl Tryd.ntmps44 rfl (by simp) ?_
 generalize hQr : retQ _ _ _ = Qr
 -- block 3
 refine AW.sg [1,2] [2] trivial ?_
 refine AW.so 0 (fun ii => if ii = 1 then some (.reads false (.bool (validS N W))) else if ii = 5 then some (.reads false (.bool (decide (0 ≤ i) && decide (i < N)))) else if ii = 10 then some (.reads false (.bool (hasW W i))) else none) [4] [] trivial ?_
 repeat with_reducible refine cj ?_ ?_
 all_goals try first | (first | exact hv | (intro hh; exact ⟨hh, hin⟩) | (intro hh; refine ⟨hh, ?_⟩; simp at hh; have hs := validS_sz hh.1; have hd := div64_rng (i := i) (n := N) (by omega) (by omega); exact hh0 (by omega) (by omega))) | (intros; (repeat' apply And.intro) <;> first | assumption | (first | exact hv | (intro hh; exact ⟨hh, hin⟩) | (intro hh; refine ⟨hh, ?_⟩; simp at hh; have hs := validS_sz hh.1; have hd := div64_rng (i := i) (n := N) (by omega) (by omega); exact hh0 (by omega) (by omega)))) | omega | exact ent (by kernel_rfl) | (intro hgd; exact absurd hgd (by decide)) | rfl | exact gD | (intro _hgd; simp_all [go_sem]; done)
 -- ret 1
 rw [← hQr]
 refine AW.rt trivial ?_
 exact Wk.of_eq (by simp [memS, Bool.and_assoc])
end Go.Proofs.D

namespace Go.Proofs.D
open Go.AM Go
set_option maxRecDepth 100000
set_option maxHeartbeats 2000000
theorem of_r (n : Int) (l : List Int) (h0 : 0 ≤ n) (h1 : n ≤ 512) (hl : l.length ≤ 9223372036854775807) (hr : ∀ i ∈ l, 0 ≤ i ∧ i < n) :
  Reads Tryd.prog 57 true [.int .i64 n, .rsl 1 (ints l)] (.tup [.agg [.int .i64 n, .rsl 1 (words (ofW n l))], .int .i64 0]) := by
 have hwr := bwords_r n h0 (by omega)
 have hwn := wordsN_rng h0
 refine Reads.bodyF (rs := [.cell 4 69, .tmp 5]) Tryd.func57 rfl Tryd.ntmps57 rfl (by simp) ?_
 generalize hQr : retQ _ _ _ = Qr
 -- block 2
 refine AW.sg [0,1,4] [4] trivial ?_
 refine AW.seq fun K1 hK1 => ?_
 refine AW.sg [0,1,4,14] [4] trivial ?_
 repeat with_reducible refine cj ?_ ?_
 all_goals try first | omega | (intros; (repeat' apply And.intro) <;> first | assumption | omega | decide) | (intro hgd; exact absurd hgd (by decide)) | rfl | exact gD | (intro _hgd; simp_all [go_sem]; done)
 refine AW.cn ?_ ?_
 ·intro hb
  exfalso; omega
 ·intro hb
  refine AW.skip ?_
  refine hK1 _ _ _ ?_; clear hK1
  refine AW.so 0 (fun ii => if ii = 2 then some (.reads false (.int .i64 (wordsN n))) else none) [1,4,6] [4,6,19] trivial ?_
  refine AW.seq fun K2 hK2 => ?_
  refine AW.sg [4,6,21,22,23] [4,6,19] trivial ?_
  refine AW.block ?_
  refine AW.loopE (fun mm ee ss kk => ∃ (j g4 v4 g v gw vw : Nat) (c4 : List AV), l.length - j = mm ∧ ee = [(4, .ptr ⟨4, g4, none⟩ 0 0), (6, .ptr ⟨6, g, none⟩ 0 0), (21, .rsl 1 (ints l)), (22, .int .i64 l.length), (23, .int .i64 (j : Nat))] ∧ ss = [(4, some ⟨g4, v4, 2, [[.int .i64 0, .nilsl]]⟩), (6, some ⟨g, v, 2, [[.int .i64 n, .sl ⟨19, gw, none⟩ 0 (wordsN n).toNat none]]⟩), (19, some ⟨gw, vw, 1, words (ofW n (l.take j))⟩)] ∧ (j ≤ l.length)) ?_ ?_
  -- init 1
  ·refine ⟨_, 0, ?_, ?_, ?_, ?_, ?_, ?_, [], rfl, ?henv, ?hstore, ?hst⟩
   case henv =>
    repeat' (first | rfl | refine env_cons ?_ ?_ | refine st_cons ?_ ?_ ?_ ?_ | refine int_eq ?_ | refine bool_eq ?_ | refine rsl_eq ?_ | refine osl_eq ?_ | refine sl_eq ?_ ?_ ?_ | refine ptr_eq ?_ ?_ ?_ | refine agg_eq ?_ | refine es_cons ?_ ?_ | refine row_cons ?_ ?_)
    all_goals (first | (simp; done) | omega | (simp; omega))
   case hstore =>
    repeat' (first | rfl | refine env_cons ?_ ?_ | refine st_cons ?_ ?_ ?_ ?_ | refine int_eq ?_ | refine bool_eq ?_ | refine rsl_eq ?_ | refine osl_eq ?_ | refine sl_eq ?_ ?_ ?_ | refine ptr_eq ?_ ?_ ?_ | refine agg_eq ?_ | refine es_cons ?_ ?_ | refine row_cons ?_ ?_)
    all_goals simp [ofW, words]
   case hst =>
    first | trivial | omega | (simp; done) | (simp; omega)
  rintro mm ee ss kk ⟨j, g4, v4, g, v, gw, vw, c4, rfl, rfl, rfl, hI⟩
  generalize hQl1 : thenQ _ _ = Ql1
  refine AW.sg [4,6,21,22,23,24] [4,6,19] trivial ?_
  refine AW.seq fun K3 hK3 => ?_
  refine AW.cn ?_ ?_
  ·intro hb
   obtain ⟨x, hx⟩ := getI (l := l) (j := j) (by omega)
   have hgx := ints_get hx
   have hxr := hr x (List.mem_of_getElem? hx)
   have hwl := ofW_len n (l.take j)
   have hd := div64_rng hxr.1 hxr.2
   have hgw := words_getD (l := ofW n (l.take j)) (i := (x.tdiv 64).toNat) (by omega)
   have hsu := ofW_succ (n := n) hx
   have hin := inside_r n (words (ofW n (l.take j))) x
   have hwt : (words (ofW n (l.take j))).take (wordsN n).toNat = words (ofW n (l.take j)) := by rw [words_take, List.take_of_length_le (by omega)]
   refine AW.skip ?_
   refine hK3 _ _ _ ?_; clear hK3
   refine AW.seq fun K4 hK4 => ?_
   refine AW.block ?_
   refine AW.sg [4,6,8,21,22,23] [4,6,19] (@hgx) ?_
   refine AW.seq fun K5 hK5 => ?_
   refine AW.so 0 (fun ii => if ii = 2 then some (.reads true (.bool (decide (0 ≤ x) && decide (x < n)))) else none) [4,6,8,21,22,23,30] [4,6,19] (@hwt) ?_
   repeat with_reducible refine cj ?_ ?_
   all_goals try first | (exact Reads.flat hin rfl) | omega | exact ent (by kernel_rfl)
   refine AW.cn ?_ ?_
   ·intro hb
    exfalso; omega
   ·intro hb
    refine AW.skip ?_
    refine hK5 _ _ _ ?_; clear hK5
    refine AW.rd mixed 0 (fun _ => none) [4,6,21,22,23] [4,6,19] (e2 @hgw @hwl) ?_
    refine hK4 _ _ _ ?_; clear hK4
    refine AW.rg [4,6,21,22,23] [4,6,19] trivial ?_
    -- again 1
    rw [← hQl1]; change Exists _
    refine ⟨_, ?hm, j + 1, ?_, ?_, ?_, ?_, ?_, ?_, [], rfl, ?henv, ?hstore, ?hst⟩
    case henv =>
     repeat' (first | rfl | refine env_cons ?_ ?_ | refine st_cons ?_ ?_ ?_ ?_ | refine int_eq ?_ | refine bool_eq ?_ | refine rsl_eq ?_ | refine osl_eq ?_ | refine sl_eq ?_ ?_ ?_ | refine ptr_eq ?_ ?_ ?_ | refine agg_eq ?_ | refine es_cons ?_ ?_ | refine row_cons ?_ ?_)
     all_goals (first | (simp; done) | omega | (simp; omega))
    case hstore =>
     repeat' (first | rfl | refine env_cons ?_ ?_ | refine st_cons ?_ ?_ ?_ ?_ | refine int_eq ?_ | refine bool_eq ?_ | refine rsl_eq ?_ | refine osl_eq ?_ | refine sl_eq ?_ ?_ ?_ | refine ptr_eq ?_ ?_ ?_ | refine agg_eq ?_ | refine es_cons ?_ ?_ | refine row_cons ?_ ?_)
     all_goals (rw [hsu]; simp [setBit])
    case hst =>
     first | trivial | omega | (simp; done) | (simp; omega)
    case hm => omega
  ·intro hb
   -- exit 0
   refine AW.kx [4,6] [4,6,19] ?_
   rw [← hQl1]
   refine hK2 _ _ _ ?_; clear hK2
   refine AW.sg [4,5] [4,19] trivial ?_
   -- ret 3
   rw [← hQr]
   refine AW.rt trivial ?_
   rw [List.take_of_length_le (by rw [ofW_len]; exact Nat.le_refl _), List.take_of_length_le (l := l) (by omega)]
   exact Wk.refl _
end Go.Proofs.D

/- Levels of an order; tables filled pair by pair. -/
namespace Go.AM
structure IsLev (n : Nat) (t : List (List Bool)) (o : List Int) : Prop where
  len : o.length = n
  pos : ∀ j, j < n → 0 ≤ o.getD j 0
  up : ∀ i j, i < n → j < n → atT t i j = true → o.getD i 0 + 1 ≤ o.getD j 0
  att : ∀ j, j < n → o.getD j 0 = 0 ∨ ∃ i, i < n ∧ atT t i j = true ∧ o.getD j 0 = o.getD i 0 + 1
theorem lev_le {n : Nat} {t : List (List Bool)} {o o' : List Int} (h : IsLev n t o) (hp : ∀ j, j < n → 0 ≤ o'.getD j 0) (hu : ∀ i j, i < n → j < n → atT t i j = true → o'.getD i 0 + 1 ≤ o'.getD j 0) :
    ∀ (m : Nat) (j : Nat), j < n → o.getD j 0 ≤ m → o.getD j 0 ≤ o'.getD j 0
  | 0, j, hj, hm => by have := hp j hj; omega
  | m + 1, j, hj, hm => by
    rcases h.att j hj with h0 | ⟨i, hi, ha, he⟩
    · have := hp j hj; omega
    · have := lev_le h hp hu m i hi (by omega)
      have := hu i j hi hj ha
      omega
theorem lev_below {n : Nat} {t : List (List Bool)} {o : List Int} (h : IsLev n t o) : ∀ (m : Nat) (j : Nat), j < n → o.getD j 0 = m → ∀ v : Nat, v ≤ m → ∃ i, i < n ∧ o.getD i 0 = v
  | 0, j, hj, hm, v, hv => ⟨j, hj, by omega⟩
  | m + 1, j, hj, hm, v, hv => by
    by_cases e : v = m + 1
    · exact ⟨j, hj, by rw [hm, e]⟩
    · rcases h.att j hj with h0 | ⟨i, hi, ha, he⟩
      · omega
      · exact lev_below h m i hi (by omega) v (by omega)
theorem lev_lt {n : Nat} {t : List (List Bool)} {o : List Int} (h : IsLev n t o) {j : Nat} (hj : j < n) : o.getD j 0 < n := by
  have hp := h.pos j hj
  have hs := sub_len ((o.getD j 0).toNat + 1) ((List.range n).map fun i => (o.getD i 0).toNat) (fun v hv => by
    obtain ⟨i, hi, he⟩ := lev_below h (o.getD j 0).toNat j hj (by omega) v (by omega)
    exact List.mem_map.2 ⟨i, List.mem_range.2 hi, by rw [he]; rfl⟩)
  rw [List.length_map, List.length_range] at hs
  omega
/-! ### The program: along an order. -/
def levJ (i : Nat) (o : List Int) (j : Nat) : List Int := o.set j (max (o.getD j 0) (o.getD i 0 + 1))
def levS (t : List (List Bool)) (o : List Int) (i : Nat) : List Int := (memB (rowT t i)).foldl (levJ i) o
theorem levJ_len (i : Nat) (l : List Nat) : ∀ o : List Int, (l.foldl (levJ i) o).length = o.length := by
  induction l with
  | nil => intro o; rfl
  | cons a l ih => intro o; rw [List.foldl_cons, ih]; simp [levJ]
theorem levJ_get (i : Nat) : ∀ (l : List Nat) (o : List Int), l.Nodup → (∀ j ∈ l, j < o.length ∧ j ≠ i) → ∀ k, (l.foldl (levJ i) o).getD k 0 = if k ∈ l then max (o.getD k 0) (o.getD i 0 + 1) else o.getD k 0
  | [], o, _, _, k => by simp
  | a :: l, o, hn, hl, k => by
    have ha := hl a (List.mem_cons_self ..)
    have hn2 := List.nodup_cons.1 hn
    rw [List.foldl_cons, levJ_get i l _ hn2.2 (fun j hj => by have := hl j (List.mem_cons_of_mem _ hj); simpa [levJ] using this) k]
    have hi : (levJ i o a).getD i 0 = o.getD i 0 := Go.AM.getD_set_ne ha.2 ..
    rw [hi]
    by_cases e : a = k
    · subst e
      rw [if_neg hn2.1, if_pos (List.mem_cons_self ..)]
      exact Go.AM.getD_set_eq ha.1 _ _
    · have : (levJ i o a).getD k 0 = o.getD k 0 := Go.AM.getD_set_ne e ..
      rw [this]
      have e2 : (k ∈ a :: l) = (k ∈ l) := by
        apply propext; rw [List.mem_cons]; exact ⟨fun h => h.resolve_left (fun h => e h.symm), .inr⟩
      simp only [e2]
theorem memB_nodup (b : List Bool) : (memB b).Nodup := List.Pairwise.sublist List.filter_sublist List.nodup_range
theorem levS_len (t : List (List Bool)) (o : List Int) (i : Nat) : (levS t o i).length = o.length := levJ_len i _ o
theorem levS_get {n : Nat} {t : List (List Bool)} (hs : Sq n t) (hp : IsPo n t) {o : List Int} (ho : o.length = n) {i : Nat} (hi : i < n) {k : Nat} (hk : k < n) : (levS t o i).getD k 0 = if atT t i k = true then max (o.getD k 0) (o.getD i 0 + 1) else o.getD k 0 := by
  unfold levS
  rw [levJ_get i _ _ (memB_nodup _) (fun j hj => by
    have := memB_mem.1 hj
    rw [hs.rowLen hi] at this
    refine ⟨by omega, fun e => ?_⟩
    subst e
    have h2 := hp.irr _ hi
    unfold atT at h2
    rw [h2] at this
    exact absurd this.2 (by simp)) k]
  have e : (k ∈ memB (rowT t i)) = (atT t i k = true) := by
    apply propext; rw [memB_mem, hs.rowLen hi]; exact ⟨fun h => h.2, fun h => ⟨hk, h⟩⟩
  simp only [e]
structure LevI (n : Nat) (t : List (List Bool)) (pre : List Nat) (o : List Int) : Prop where
  len : o.length = n
  pos : ∀ j, j < n → 0 ≤ o.getD j 0
  up : ∀ i j, i ∈ pre → j < n → atT t i j = true → o.getD i 0 + 1 ≤ o.getD j 0
  att : ∀ j, j < n → o.getD j 0 = 0 ∨ ∃ i, i ∈ pre ∧ atT t i j = true ∧ o.getD j 0 = o.getD i 0 + 1
  bnd : ∀ j, j < n → o.getD j 0 ≤ pre.length
theorem LevI.nil (n : Nat) (t : List (List Bool)) : LevI n t [] (List.replicate n 0) := by
  have e : ∀ j, (List.replicate n (0 : Int)).getD j 0 = 0 := fun j => by rw [List.getD_eq_getElem?_getD, List.getElem?_replicate]; split <;> rfl
  exact ⟨by simp, fun j _ => by rw [e]; exact Int.le_refl _, (fun i j h => absurd h List.not_mem_nil), fun j _ => Or.inl (e j), fun j _ => by rw [e]; simp⟩
theorem nodup_ix {l : List Nat} (h : l.Nodup) {p q : Nat} (hp : p < l.length) (hq : q < l.length) (e : l[p] = l[q]) : p = q := (List.getElem_inj h).1 e
/-- What stands before: the elements of a list that is closed downwards. -/
theorem LevI.snoc {n : Nat} {t : List (List Bool)} (hs : Sq n t) (hp : IsPo n t) {pre : List Nat} {o : List Int} (h : LevI n t pre o) {i : Nat} (hi : i < n) (hin : i ∉ pre) (hpr : ∀ k ∈ pre, k < n) (hcl : ∀ k, k ∈ pre → atT t i k = false) : LevI n t (pre ++ [i]) (levS t o i) := by
  have hg := fun k hk => levS_get (k := k) hs hp h.len hi hk
  have hgi : (levS t o i).getD i 0 = o.getD i 0 := by rw [hg i hi, hp.irr i hi]; simp
  have hgp : ∀ k, k ∈ pre → (levS t o i).getD k 0 = o.getD k 0 := fun k hk => by rw [hg k (hpr k hk), hcl k hk]; simp
  have hge : ∀ k, k < n → o.getD k 0 ≤ (levS t o i).getD k 0 := fun k hk => by rw [hg k hk]; split <;> omega
  refine ⟨by rw [levS_len, h.len], fun j hj => Int.le_trans (h.pos j hj) (hge j hj), fun k j hk hj ha => ?_, fun j hj => ?_, fun j hj => ?_⟩
  · rcases List.mem_append.1 hk with hk | hk
    · rw [hgp k hk]
      exact Int.le_trans (h.up k j hk hj ha) (hge j hj)
    · obtain rfl := List.mem_singleton.1 hk
      rw [hgi, hg j hj, if_pos ha]
      omega
  · rw [hg j hj]
    have hold : o.getD j 0 = 0 ∨ ∃ k, k ∈ pre ++ [i] ∧ atT t k j = true ∧ o.getD j 0 = (levS t o i).getD k 0 + 1 := by
      rcases h.att j hj with h0 | ⟨k, hk, ha, he⟩
      · exact .inl h0
      · exact .inr ⟨k, List.mem_append_left _ hk, ha, by rw [hgp k hk]; exact he⟩
    split
    · rename_i ha
      by_cases hm : o.getD i 0 + 1 ≤ o.getD j 0
      · rw [Int.max_eq_left hm]; exact hold
      · rw [Int.max_eq_right (by omega)]
        exact .inr ⟨i, List.mem_append_right _ (List.mem_singleton.2 rfl), ha, by rw [hgi]⟩
    · exact hold
  · rw [hg j hj, List.length_append]
    have h1 := h.bnd j hj
    have h2 := h.bnd i hi
    simp only [List.length_singleton, Int.natCast_add, Int.natCast_one]
    split <;> omega
theorem LevI.all {n : Nat} {t : List (List Bool)} (hs : Sq n t) (hp : IsPo n t) {l : List Nat} (ho : OrdI n t l) : ∀ k, k ≤ l.length → LevI n t (l.take k) ((l.take k).foldl (levS t) (List.replicate n 0))
  | 0, _ => by simpa using LevI.nil n t
  | k + 1, hk => by
    have ih := LevI.all hs hp ho k (by omega)
    have e : l.take (k + 1) = l.take k ++ [l[k]] := by rw [List.take_succ_eq_append_getElem (by omega)]
    rw [e, List.foldl_append]
    have hm : l[k] ∈ l := List.getElem_mem ..
    have hin : ∀ x ∈ l, x < n := ho.rng
    refine LevI.snoc hs hp ih (hin _ hm) ?_ (fun x hx => hin x (List.mem_of_mem_take hx)) fun x hx => ?_
    · intro hx
      obtain ⟨q, hq, hqe⟩ := List.mem_iff_getElem.1 hx
      have hql : q < k := by simp at hq; omega
      rw [List.getElem_take] at hqe
      exact absurd (nodup_ix ho.nd (by omega) (by omega) hqe) (by omega)
    · cases ea : atT t l[k] x
      · rfl
      · exfalso
        obtain ⟨q, hq, hqe⟩ := List.mem_iff_getElem.1 hx
        have hql : q < k := by simp at hq; omega
        rw [List.getElem_take] at hqe
        obtain ⟨p, hp1, hp2⟩ := ho.top q x l[k] (by rw [List.getElem?_eq_getElem (by omega), hqe]) (hin _ hm) ea
        rw [List.getElem?_eq_getElem (by omega)] at hp2
        exact absurd (nodup_ix ho.nd (by omega) (by omega) (Option.some.inj hp2)) (by omega)
/-! ### The reference: rounds. -/
def relJ (t : List (List Bool)) (i j : Nat) (o : List Int) : List Int := if atT t i j = true ∧ o.getD j 0 ≤ o.getD i 0 then o.set j (o.getD i 0 + 1) else o
structure RndI (n : Nat) (t : List (List Bool)) (L : List Int) (r : Nat) (vis : Nat → Nat → Prop) (c : Bool) (o : List Int) : Prop where
  len : o.length = n
  pos : ∀ j, j < n → 0 ≤ o.getD j 0
  le : ∀ j, j < n → o.getD j 0 ≤ L.getD j 0
  low : ∀ j, j < n → min (L.getD j 0) r ≤ o.getD j 0
  nxt : ∀ i j, i < n → j < n → vis i j → atT t i j = true → min (L.getD i 0) r + 1 ≤ o.getD j 0
  same : c = false → ∀ i j, i < n → j < n → vis i j → atT t i j = true → o.getD i 0 < o.getD j 0
theorem RndI.start {n : Nat} {t : List (List Bool)} {L : List Int} (hL : IsLev n t L) : RndI n t L 0 (fun _ _ => False) false (List.replicate n 0) := by
  have e : ∀ j, (List.replicate n (0 : Int)).getD j 0 = 0 := fun j => by rw [List.getD_eq_getElem?_getD, List.getElem?_replicate]; split <;> rfl
  refine ⟨by simp, fun j _ => by rw [e]; exact Int.le_refl _, fun j hj => by rw [e]; exact hL.pos j hj, fun j hj => ?_, fun _ _ _ _ h => h.elim, fun _ _ _ _ _ h => h.elim⟩
  rw [e]; have := hL.pos j hj; omega
theorem RndI.step {n : Nat} {t : List (List Bool)} {L : List Int} (hL : IsLev n t L) (hp : IsPo n t) {r : Nat} {vis vis' : Nat → Nat → Prop} {c : Bool} {o : List Int} (h : RndI n t L r vis c o) {i j : Nat} (hi : i < n) (hj : j < n)
    (hv : ∀ a b, vis' a b → vis a b ∨ (a = i ∧ b = j)) :
    RndI n t L r vis' (c || (atT t i j && decide (o.getD j 0 ≤ o.getD i 0))) (relJ t i j o) := by
  unfold relJ
  by_cases hc : atT t i j = true ∧ o.getD j 0 ≤ o.getD i 0
  · have hne : i ≠ j := fun e => by subst e; have := hp.irr _ hi; rw [this] at hc; exact absurd hc.1 (by simp)
    rw [if_pos hc]
    have hg : ∀ k, (o.set j (o.getD i 0 + 1)).getD k 0 = if k = j then o.getD i 0 + 1 else o.getD k 0 := fun k => by
      by_cases e : k = j
      · subst e; rw [if_pos rfl]; exact Go.AM.getD_set_eq (by rw [h.len]; exact hj) _ _
      · rw [if_neg e]; exact Go.AM.getD_set_ne (fun q => e q.symm) ..
    have hge : ∀ k, k < n → o.getD k 0 ≤ (o.set j (o.getD i 0 + 1)).getD k 0 := fun k _ => by rw [hg]; split; (rename_i e; subst e; omega); exact Int.le_refl _
    refine ⟨by simp [h.len], fun k hk => Int.le_trans (h.pos k hk) (hge k hk), fun k hk => ?_, fun k hk => Int.le_trans (h.low k hk) (hge k hk), fun a b ha hb hab hat => ?_, fun hf => ?_⟩
    · rw [hg]
      split
      · rename_i e; subst e
        have := h.le i hi
        have := hL.up i _ hi hj hc.1
        omega
      · exact h.le k hk
    · rcases hv a b hab with h1 | ⟨rfl, rfl⟩
      · exact Int.le_trans (h.nxt a b ha hb h1 hat) (hge b hb)
      · rw [hg, if_pos rfl]
        have := h.low a ha
        omega
    · exfalso; rw [hc.1, decide_eq_true hc.2] at hf; simp at hf
  · rw [if_neg hc]
    refine ⟨h.len, h.pos, h.le, h.low, fun a b ha hb hab hat => ?_, fun hf a b ha hb hab hat => ?_⟩
    · rcases hv a b hab with h1 | ⟨rfl, rfl⟩
      · exact h.nxt a b ha hb h1 hat
      · have := h.low a ha
        have : ¬ o.getD b 0 ≤ o.getD a 0 := fun q => hc ⟨hat, q⟩
        omega
    · rcases hv a b hab with h1 | ⟨rfl, rfl⟩
      · exact h.same (by rw [Bool.or_eq_false_iff] at hf; exact hf.1) a b ha hb h1 hat
      · have : ¬ o.getD b 0 ≤ o.getD a 0 := fun q => hc ⟨hat, q⟩
        omega
theorem RndI.next {n : Nat} {t : List (List Bool)} {L : List Int} (hL : IsLev n t L) {r : Nat} {vis vis' : Nat → Nat → Prop} {c : Bool} {o : List Int} (h : RndI n t L r vis c o) (hv : ∀ i j, i < n → j < n → vis i j) (hv' : ∀ i j, ¬ vis' i j) : RndI n t L (r + 1) vis' false o := by
  refine ⟨h.len, h.pos, h.le, fun j hj => ?_, fun i j _ _ hh => (hv' i j hh).elim, fun _ i j _ _ hh => (hv' i j hh).elim⟩
  rcases hL.att j hj with h0 | ⟨i, hi, ha, he⟩
  · have := h.pos j hj; omega
  · have := h.nxt i j hi hj (hv i j hi hj) ha; omega
theorem RndI.stop {n : Nat} {t : List (List Bool)} {L : List Int} (hL : IsLev n t L) {r : Nat} {vis : Nat → Nat → Prop} {o : List Int} (h : RndI n t L r vis false o) (hv : ∀ i j, i < n → j < n → vis i j) : o = L := by
  refine getD_ext (by rw [h.len, hL.len]) fun k hk => ?_
  rw [h.len] at hk
  have h1 := lev_le hL h.pos (fun i j hi hj ha => by have := h.same rfl i j hi hj (hv i j hi hj) ha; omega) (L.getD k 0).toNat k hk (by have := hL.pos k hk; omega)
  have h2 := h.le k hk
  omega
theorem RndI.last {n : Nat} {t : List (List Bool)} {L : List Int} (hL : IsLev n t L) {vis : Nat → Nat → Prop} {c : Bool} {o : List Int} (h : RndI n t L n vis c o) : o = L := by
  refine getD_ext (by rw [h.len, hL.len]) fun k hk => ?_
  rw [h.len] at hk
  have h1 := h.low k hk
  have h2 := h.le k hk
  have h3 := lev_lt hL hk
  omega
/-! ### Tables filled pair by pair. -/
def tabF (n : Nat) (f : Nat → Nat → Bool) : List (List Bool) := (List.range n).map fun i => setR n (f i)
theorem tabF_sq (n : Nat) (f : Nat → Nat → Bool) : Sq n (tabF n f) := ⟨by simp [tabF], fun b hb => by obtain ⟨i, _, rfl⟩ := List.mem_map.1 hb; exact setR_len _ _⟩
theorem rowT_tabF {n : Nat} {f : Nat → Nat → Bool} {i : Nat} (hi : i < n) : rowT (tabF n f) i = setR n (f i) := rowT_of (by simp [tabF, hi])
theorem atT_tabF {n : Nat} {f : Nat → Nat → Bool} {i j : Nat} (hi : i < n) (hj : j < n) : atT (tabF n f) i j = f i j := by unfold atT; rw [rowT_tabF hi, setR_get hj]
end Go.AM

namespace Go.Proofs.D
open Go.AM Go
set_option maxRecDepth 100000
set_option maxHeartbeats 2000000
def pvJ (t : List (List Bool)) (i j : Nat) : Bool := !decide (j = i) && subB (rowT t j) (rowT t i)
theorem pvalid_g (n : Nat) (t : List (List Bool)) (hs : Sq n t) (hn : n ≤ 512) : Reads Tryd.prog 40 false [relB t] (.bool (poB n t)) := by
 have h := valid_g n t hs hn
 have hlt : (tabR t).length = n := by rw [tabR_len, hs.len]
 have hgr := fun i hi => tabR_get (t := t) (i := i) hi
 have hmb := fun b hb => members_b b hb
 have hsb := fun a b ha hl => subset_r a b ha hl
 have hpo : poB n t = (List.range n).all fun i => (memB (rowT t i)).all (pvJ t i) := rfl
 have hlen := hs.len
 unfold relB rowB at *
 refine Reads.body (rs := [.tmp 2]) Tryd.func40 rfl Tryd.ntmps40 rfl (by simp) ?_
 generalize hQr : retQ _ _ _ = Qr
 -- block 1
 refine AW.sg [1] [1] (@hlt) ?_
 refine AW.seq fun K1 hK1 => ?_
 refine AW.so 0 (fun ii => if ii = 1 then some (.reads false (.bool true)) else none) [1,11] [1] (@hlt) ?_
 repeat with_reducible refine cj ?_ ?_
 all_goals try first | (exact h) | omega | exact ent (by kernel_rfl)
 refine AW.cn ?_ ?_
 ·intro hb
  simp at hb
 ·intro hb
  refine AW.skip ?_
  refine hK1 _ _ _ ?_; clear hK1
  refine AW.seq fun K2 hK2 => ?_
  refine AW.sg [1,13,14,15] [1] (@hlt) ?_
  refine AW.block ?_
  refine AW.loopE (fun mm ee ss kk => ∃ (i g1 v1 : Nat), n - i = mm ∧ ee = [(1, .ptr ⟨1, g1, none⟩ 0 0), (13, .rsl 2 (tabR t)), (14, .int .i64 n), (15, .int .i64 (i : Nat))] ∧ ss = [(1, some ⟨g1, v1, 1, [[.rsl 2 (tabR t)]]⟩)] ∧ (i ≤ n ∧ ((List.range i).all fun i => (memB (rowT t i)).all (pvJ t i)) = true)) ?_ ?_
  -- init 1
  ·exact ⟨_, 0, _, _, rfl, eD, eD, (⟨Nat.zero_le _, rfl⟩)⟩
  rintro mm ee ss kk ⟨i, g1, v1, rfl, rfl, rfl, hI⟩
  generalize hQl1 : thenQ _ _ = Ql1
  obtain ⟨hi, hall⟩ := hI
  refine AW.sg [1,13,14,15,16] [1] (@hlt) ?_
  refine AW.seq fun K3 hK3 => ?_
  refine AW.cn ?_ ?_
  ·intro hb
   have hgi := hgr i (by omega)
   have hri := hs.rowLen (i := i) (by omega)
   have hmi := hmb (rowT t i) (by omega)
   have hsi := fun j (hj : j < n) => hsb (rowT t j) (rowT t i) (by rw [hs.rowLen hj]; exact hn) (by rw [hs.rowLen hj, hri])
   have hmm : ∀ j, j ∈ memB (rowT t i) → j < n := fun j hj => by have := (memB_mem.1 hj).1; omega
   have hml := memB_le (rowT t i)
   have hrs := range_all_succ (p := fun i => (memB (rowT t i)).all (pvJ t i)) i
   rw [hall, Bool.true_and] at hrs
   have hrf := range_all_false (p := fun i => (memB (rowT t i)).all (pvJ t i)) (j := i) (m := n) (by omega)
   generalize hM : memB (rowT t i) = M at *
   refine AW.skip ?_
   refine hK3 _ _ _ ?_; clear hK3
   refine AW.seq fun K4 hK4 => ?_
   refine AW.block ?_
   refine AW.sg [1,3,4,13,14,15] [1,4] (e2 @hlt @hgi) ?_
   refine AW.so 0 (fun ii => if ii = 1 then some (.reads false (.tup [.rsl 1 (ints (nats M)), .int .i64 ((0 : Nat) : Int)])) else none) [1,3,4,5,13,14,15] [1,4] (@hlt) ?_
   repeat with_reducible refine cj ?_ ?_
   all_goals try first | (exact hmi) | omega | exact ent (by kernel_rfl)
   refine AW.sg [1,3,4,13,14,15,25,26,27] [1,4] (e3 @hlt @ints_len @nats_len) ?_
   refine AW.block ?_
   refine AW.loopE (fun mm ee ss kk => ∃ (j g1 v1 g4 v4 : Nat), M.length - j = mm ∧ ee = [(1, .ptr ⟨1, g1, none⟩ 0 0), (3, .int .i64 (i : Nat)), (4, .ptr ⟨4, g4, none⟩ 0 0), (13, .rsl 2 (tabR t)), (14, .int .i64 n), (15, .int .i64 (i : Nat)), (25, .rsl 1 (ints (nats M))), (26, .int .i64 M.length), (27, .int .i64 (j : Nat))] ∧ ss = [(1, some ⟨g1, v1, 1, [[.rsl 2 (tabR t)]]⟩), (4, some ⟨g4, v4, 2, [[.int .i64 (rowT t i).length, .rsl 1 (words (setW (rowT t i) (rowT t i).length))]]⟩)] ∧ (j ≤ M.length ∧ (M.take j).all (pvJ t i) = true)) ?_ ?_
   -- init 2
   ·exact ⟨_, 0, _, _, _, _, rfl, eD, eD, (⟨Nat.zero_le _, rfl⟩)⟩
   rintro mm ee ss kk ⟨j, g1, v1, g4, v4, rfl, rfl, rfl, hI⟩
   generalize hQl2 : thenQ _ _ = Ql2
   obtain ⟨hj, hallj⟩ := hI
   refine AW.sg [1,3,4,13,14,15,25,26,27,28] [1,4] (@hlt) ?_
   refine AW.seq fun K5 hK5 => ?_
   refine AW.cn ?_ ?_
   ·intro hb
    obtain ⟨q, hq⟩ := getI (l := M) (j := j) (by omega)
    have hgq : (ints (nats M)).getD j [] = [.int .i64 (q : Nat)] := ints_get (by simp [nats, hq])
    have hqn := hmm q (List.mem_of_getElem? hq)
    have hgt := hgr q (by omega)
    have hsq := hsi q hqn
    have hats := all_take_succ (p := pvJ t i) hq
    have haf := all_false_of (p := pvJ t i) hq
    have hqi : decide ((q : Int) = (i : Int)) = decide (q = i) := decide_eq_decide.2 (by omega)
    have hpv : pvJ t i q = (!decide (q = i) && subB (rowT t q) (rowT t i)) := rfl
    refine AW.skip ?_
    refine hK5 _ _ _ ?_; clear hK5
    refine AW.seq fun K6 hK6 => ?_
    refine AW.block ?_
    refine AW.sg [1,3,4,8,13,14,15,25,26,27] [1,4] (e4 @hlt @hgq @ints_len @nats_len) ?_
    refine AW.sd mixed 0 (fun ii => if ii = 10 then some (.reads false (.bool (subB (rowT t q) (rowT t i)))) else none) [1,3,4,13,14,15,25,26,27,43] [1,4] (e3 @hlt @hgt @hqi) ?_
    repeat with_reducible refine cj ?_ ?_
    all_goals try first | (first | exact hsq | (intro hh; exact hsq)) | (intros; (repeat' apply And.intro) <;> first | assumption | (first | exact hsq | (intro hh; exact hsq))) | omega | exact chk (by kernel_rfl) | exact ent (by kernel_rfl) | (intro hgd; exact absurd hgd (by decide)) | rfl | (simp only [go_sem, reduceIte, reduceCtorEq, zA, zM, zE, zL, zD, zS, zP, zB, zI, zR, hlt, hgt, hqi]; done) | (intro _hgd; simp_all [go_sem]; done)
    refine AW.cn ?_ ?_
    ·intro hb
     refine AW.sg [2] [] (@hlt) ?_
     -- ret 2
     rw [← hQl2, ← hQl1, ← hQr]
     refine AW.rt (@hlt) ?_
     refine Wk.of_eq ?_
     rw [hpo, hrf (haf (by rw [hpv]; revert hb; by_cases e : q = i <;> cases subB (rowT t q) (rowT t i) <;> simp [e]))]
    ·intro hb
     refine AW.skip ?_
     refine hK6 _ _ _ ?_; clear hK6
     refine AW.rg [1,3,4,13,14,15,25,26,27] [1,4] (@hlt) ?_
     -- again 2
     rw [← hQl2]; change Exists _
     refine ⟨_, eO, j + 1, _, _, _, _, rfl, eD, eD, ?_⟩
     refine ⟨by omega, ?_⟩
     rw [hats, hallj, hpv]; revert hb; by_cases e : q = i <;> cases subB (rowT t q) (rowT t i) <;> simp [e]
   ·intro hb
    have hj2 : j = M.length := by omega
    subst hj2
    rw [List.take_of_length_le (Nat.le_refl _)] at hallj
    -- exit 2
    refine AW.kx [1,13,14,15] [1] ?_
    rw [← hQl2]
    refine hK4 _ _ _ ?_; clear hK4
    refine AW.rg [1,13,14,15] [1] (@hlt) ?_
    -- again 1
    rw [← hQl1]; change Exists _
    refine ⟨_, eO, i + 1, _, _, rfl, eD, eD, ?_⟩
    refine ⟨by omega, ?_⟩
    rw [hrs, hallj]
  ·intro hb
   -- exit 0
   refine AW.kx [] [] ?_
   rw [← hQl1]
   refine hK2 _ _ _ ?_; clear hK2
   refine AW.sg [2] [] (@hlt) ?_
   -- ret 3
   rw [← hQr]
   refine AW.rt (@hlt) ?_
   have hi2 : i = n := by omega
   subst hi2
   exact Wk.of_eq (by rw [hpo, hall])
end Go.Proofs.D

namespace Go.Proofs.D
open Go.AM Go
set_option maxRecDepth 100000
set_option maxHeartbeats 2000000
theorem pvalid_e (rs : List USet) (hl : longR rs) (hv : validR rs = false) : Reads Tryd.prog 40 false [relV rs] (.bool false) := by
 have h := rvalid_r rs hl.1 hl.2
 rw [hv] at h
 unfold relV at *
 refine Reads.body (rs := [.tmp 2]) Tryd.func40 rfl Tryd.ntmps40 rfl (by simp) ?_
 generalize hQr : retQ _ _ _ = Qr
 -- block 1
 refine AW.sg [1] [1] trivial ?_
 refine AW.seq fun K1 hK1 => ?_
 refine AW.so 0 (fun ii => if ii = 1 then some (.reads false (.bool false)) else none) [1,11] [1] trivial ?_
 repeat with_reducible refine cj ?_ ?_
 all_goals try first | (exact h) | omega | exact ent (by kernel_rfl)
 refine AW.cn ?_ ?_
 ·intro hb
  refine AW.sg [2] [] trivial ?_
  -- ret 1
  rw [← hQr]
  refine AW.rt trivial ?_
  exact Wk.refl _
 ·intro hb
  simp at hb
theorem memS_row {b : List Bool} (hb : b.length ≤ 512) (i : Int) : memS b.length (setW b b.length) i = (decide (0 ≤ i) && decide (i < b.length) && b.getD i.toNat false) := by
 unfold memS
 rw [validS_setW hb, Bool.true_and]
 by_cases h0 : 0 ≤ i
 ·by_cases h1 : i < b.length
  ·rw [decide_eq_true h0, decide_eq_true h1, Bool.true_and, Bool.true_and, Bool.true_and, setW_mem h0 h1]
  ·rw [decide_eq_false h1]; simp
 ·rw [decide_eq_false h0]; simp
theorem rowH_r (b : List Bool) (hb : b.length ≤ 512) (i : Int) : Reads Tryd.prog 44 false [.agg (rowB b), .int .i64 i] (.bool (decide (0 ≤ i) && decide (i < b.length) && b.getD i.toNat false)) := by
 have h := bhas_r b.length (setW b b.length) i (setW_ok b) (by have := setW_len' b; have := wordsN_rng (n := (b.length : Int)) (by omega); omega)
 rw [memS_row hb] at h
 exact h
end Go.Proofs.D

/- Rows made of lists of members. -/
namespace Go.AM
def rowL (n : Nat) (l : List Int) : List Bool := setR n fun i => decide ((i : Int) ∈ l)
theorem rowL_len (n : Nat) (l : List Int) : (rowL n l).length = n := setR_len _ _
theorem rowL_get {n : Nat} {l : List Int} {i : Nat} (h : i < n) : (rowL n l).getD i false = decide ((i : Int) ∈ l) := setR_get h
theorem fold_setBit {n : Nat} : ∀ (l : List Int) (b : List Bool), b.length = n → (∀ x ∈ l, 0 ≤ x ∧ x < n) → l.foldl setBit (setW b n) = setW (l.foldl (fun b x => b.set x.toNat true) b) n
  | [], _, _, _ => rfl
  | x :: l, b, hb, hl => by
    have hx := hl x (List.mem_cons_self ..)
    have h1 := setBit_setW b (i := x.toNat) (by omega)
    rw [hb, Int.toNat_of_nonneg hx.1] at h1
    rw [List.foldl_cons, List.foldl_cons, h1]
    exact fold_setBit l _ (by simp [hb]) fun y hy => hl y (List.mem_cons_of_mem _ hy)
theorem fold_set_get {n : Nat} : ∀ (l : List Int) (b : List Bool), b.length = n → (∀ x ∈ l, 0 ≤ x ∧ x < n) → (l.foldl (fun b x => b.set x.toNat true) b).length = n ∧ ∀ i, i < n → (l.foldl (fun b x => b.set x.toNat true) b).getD i false = (b.getD i false || decide ((i : Int) ∈ l))
  | [], b, hb, _ => ⟨hb, fun i _ => by simp⟩
  | x :: l, b, hb, hl => by
    have hx := hl x (List.mem_cons_self ..)
    obtain ⟨h1, h2⟩ := fold_set_get l (b.set x.toNat true) (by simp [hb]) fun y hy => hl y (List.mem_cons_of_mem _ hy)
    refine ⟨h1, fun i hi => ?_⟩
    rw [List.foldl_cons, h2 i hi, getD_setB]
    by_cases e : x = (i : Int)
    · rw [if_pos ⟨by omega, by omega⟩, decide_eq_true (show (i : Int) ∈ x :: l by rw [e]; exact List.mem_cons_self ..)]; simp
    · rw [if_neg (by omega)]
      congr 1
      refine decide_eq_decide.2 ?_
      rw [List.mem_cons]
      exact ⟨.inr, fun h => h.resolve_left fun h => e h.symm⟩
theorem ofW_row {n : Nat} {l : List Int} (hl : ∀ x ∈ l, 0 ≤ x ∧ x < n) : ofW n l = setW (rowL n l) n := by
  have hz := setW_zero n
  have h1 := fold_setBit l (List.replicate n false) (by simp) hl
  rw [hz] at h1
  have h2 := fold_set_get l (List.replicate n false) (by simp) hl
  unfold ofW
  rw [h1]
  congr 1
  refine getD_extB (by rw [h2.1, rowL_len]) fun i hi => ?_
  rw [h2.1] at hi
  rw [h2.2 i hi, rowL_get hi]
  have e : (List.replicate n false).getD i false = false := by rw [List.getD_eq_getElem?_getD, List.getElem?_replicate]; split <;> rfl
  rw [e, Bool.false_or]
theorem rowL_nats {n : Nat} {l : List Nat} : rowL n (l.map fun (i : Nat) => (i : Int)) = setR n fun i => decide (i ∈ l) := by
  refine setR_ext fun i hi => decide_eq_decide.2 ?_
  rw [List.mem_map]
  exact ⟨fun ⟨a, h1, h2⟩ => by rw [← (by omega : a = i)]; exact h1, fun h => ⟨i, h, rfl⟩⟩
end Go.AM

namespace Go.Proofs.D
open Go.AM Go
set_option maxRecDepth 100000
set_option maxHeartbeats 2000000
end Go.Proofs.D

/- The restriction of an order. -/
namespace Go.AM
def resT (t : List (List Bool)) (M : List Nat) : List (List Bool) := tabF M.length fun a c => atT t (M.getD a 0) (M.getD c 0)
theorem resT_at {t : List (List Bool)} {M : List Nat} {a c : Nat} (ha : a < M.length) (hc : c < M.length) : atT (resT t M) a c = atT t (M.getD a 0) (M.getD c 0) := atT_tabF ha hc
theorem IsPo.res {n : Nat} {t : List (List Bool)} (h : IsPo n t) {M : List Nat} (hM : ∀ i ∈ M, i < n) : IsPo M.length (resT t M) := by
  have hl : ∀ a, a < M.length → M.getD a 0 < n := fun a ha => hM _ (mem_getD ha 0)
  refine ⟨fun i hi => by rw [resT_at hi hi]; exact h.irr _ (hl i hi), fun i j k hi hj hk h1 h2 => ?_⟩
  rw [resT_at hi hj] at h1
  rw [resT_at hj hk] at h2
  rw [resT_at hi hk]
  exact h.trans _ _ _ (hl i hi) (hl j hj) (hl k hk) h1 h2
end Go.AM

/- A set is valid exactly if no bit behind its numbers is set. -/
namespace Go.AM
theorem validS_bits {N : Int} {W : List Int} (hW : okW W) (h0 : 0 ≤ N) (h1 : N ≤ 512) (hl : (W.length : Int) = wordsN N) (hb : ∀ i : Nat, N ≤ i → i < 64 * W.length → hasW W i = false) : validS N W = true := by
  have e : W = setW (setR N.toNat fun i => hasW W (i : Int)) (setR N.toNat fun i => hasW W (i : Int)).length := by
    have hn : ((setR N.toNat fun i => hasW W (i : Int)).length : Int) = N := by rw [setR_len]; omega
    have hlen : (setW (setR N.toNat fun i => hasW W (i : Int)) (setR N.toNat fun i => hasW W (i : Int)).length).length = W.length := by rw [setW_len', hn]; omega
    refine words_ext hW (setW_ok _) hlen.symm fun i hi => ?_
    rw [hasW_setW _ (by rw [hlen]; omega)]
    by_cases h : (i : Int) < N
    · rw [setR_get (by omega)]
    · rw [hb i (by omega) hi, Go.AM.getD_out (by rw [setR_len]; omega)]
  have hv := validS_setW (b := setR N.toNat fun i => hasW W (i : Int)) (by rw [setR_len]; omega)
  rw [← e] at hv
  rw [show N = ((setR N.toNat fun i => hasW W (i : Int)).length : Int) by rw [setR_len]; omega]
  exact hv
theorem validS_bit {N : Int} {W : List Int} (hW : okW W) (hv : validS N W = true) {i : Nat} (hi : N ≤ i) (hlt : i < 64 * W.length) : hasW W i = false := by
  obtain ⟨b, h1, h2⟩ := setW_of hW hv
  rw [h2, hasW_setW b (by rw [← h2]; omega)]
  rw [Go.AM.getD_out (by omega)]
end Go.AM

namespace Go.Proofs.D
open Go.AM Go
set_option maxRecDepth 100000
set_option maxHeartbeats 2000000
theorem wrap64 {i : Int} (h0 : 0 ≤ i) : IntKind.u64.wrap (i.tmod 64) = i.tmod 64 := by
 have : 0 ≤ i.tmod 64 ∧ i.tmod 64 < 64 := by rw [Int.tmod_eq_emod_of_nonneg h0]; omega
 simp [IntKind.wrap, IntKind.signed, IntKind.bits]; omega
end Go.Proofs.D

/- A contract that makes memory answers as one that reads. -/
namespace Go.AM
theorem Upd.reads {P : Program} {f : FuncId} {args : List AV} {res : Nat → AV} {s1 : Nat → Store} {r : AV} (h : Upd P f [] args res s1) (hr : Wk (vwF (s1 0) 5 (res 0)) r) : Reads P f true args r := by
  intro w F us hF hgl hl hrel
  have hr' : ∀ i, i < args.length → Rel ⟨fun _ => none, [], clk 0, w, fun _ => False⟩ (args.getD i .any) (us.getD i undef) := fun i hi => .pure _ _ ((hrel i hi).mono fun b hb => ⟨⟨hb.1, fun ⟨π, y, base, h1, _⟩ => by simp [pcontent, sget] at h1, fun h => h⟩, rfl⟩)
  have hst : StOk ⟨fun _ => none, [], clk 0, w, fun _ => False⟩ := start_ok (fun _ h => h.elim) (hgl.mono fun b hb => ⟨⟨hb.1, fun h => h⟩, rfl⟩)
  refine (h (clk 0) 0 0 (fun _ => none) w (fun _ => False) us (fun g hg => hg) (fun hg => Nat.lt_irrefl _ hg) (fun hg => absurd hg (Nat.not_lt_zero _)) hst hl hr').mono fun e w' ⟨u, ρ', h1, h2, h3⟩ => ⟨u, h1, ?_, ?_⟩
  · exact ⟨h2.ext.os, h2.ext.tape, h2.ext.output, h2.ext.size, fun b hb _ => h2.ext.block b hb fun ⟨π, y, base, e1, _⟩ => by simp [pcontent, sget] at e1⟩
  · refine hr _ _ _ (vwF_sound h2.ok (fun b hb => ⟨?_, fun hlt => ?_⟩) 5 (res 0) u h3)
    · obtain ⟨π, y, base, k1, k2⟩ := hb
      exact h2.ok.live_lt k1 k2
    · simp only [if_true] at hlt
      exact (h2.le.imm b ⟨hlt, fun ⟨π, y, base, e1, _⟩ => by simp [pcontent, sget] at e1, fun h => h⟩).1.2.1 hb
/-- A contract that reads, at roots that are given away. -/
theorem Reads.upd {P : Program} {f : FuncId} {s0 : Store} {args args' : List AV} {r : AV} (h : Reads P f true args' r) (ha : args.map (vw s0 5) = args') : Upd P f s0 args (fun _ => r) (fun _ => []) := by
  subst ha
  intro c B k ρ w F us _ _ _ hst hl hrel
  have hargs : ∀ i, i < (args.map (vw s0 5)).length → RelP (immF w fun _ => False) w ((args.map (vw s0 5)).getD i .any) (us.getD i undef) := fun i hi => by
    rw [List.length_map] at hi
    rw [getD_map_vw (vw s0 5) _ _ .any _ hi]
    exact vw_sound hst (fun b hb _ => ⟨hb, fun e => e⟩) 5 _ _ (hrel i hi)
  refine (h w (fun _ => False) us (fun _ h => h.elim) (hst.gl.mono fun b hb => ⟨⟨hb.1, fun e => e⟩, rfl⟩) (by simpa using hl) hargs).mono fun e w' ⟨u, h1, h2, h3⟩ => ⟨u, ρ, h1, ?_, ?_⟩
  · exact hst.goes_grow (s' := []) (fun id R e => by simp [sget] at e) (fun g hg => .inl hg) h2
  · refine .pure _ _ (h3.mono fun b hb => ⟨⟨hb.1, fun ⟨π, y, base, e1, _⟩ => by simp [pcontent, sget] at e1, fun hf => ?_⟩, rfl⟩)
    simp only [if_true] at hb
    exact hb.2 (hst.apart b hf).1
end Go.AM

namespace Go.Proofs.D
open Go.AM Go
set_option maxRecDepth 100000
set_option maxHeartbeats 2000000
end Go.Proofs.D

namespace Go.Proofs.D
open Go.AM Go
set_option maxRecDepth 100000
set_option maxHeartbeats 1000000
theorem wrap_small {z : Int} (h0 : 0 ≤ z) (h1 : z < 18446744073709551616) : IntKind.u64.wrap z = z := by simp [IntKind.wrap, IntKind.signed, IntKind.bits]; omega
end Go.Proofs.D

namespace Go.Proofs.D
open Go.AM Go
set_option maxRecDepth 100000
set_option maxHeartbeats 2000000
theorem longR_SB {n : Nat} {t : List (List Bool)} (hs : Sq n t) (hn : n ≤ 512) : longR (t.map SB) := ⟨by simp [hs.len]; omega, fun x hx => by
 obtain ⟨b, hb, rfl⟩ := List.mem_map.1 hx
 have := setB_len (b := b) (by rw [hs.row b hb]; exact hn)
 show (setW b b.length).length ≤ _; omega⟩
end Go.Proofs.D

/- Plain facts on the reference's functions over orders. -/
namespace Go.AM
end Go.AM

/- Laws of orders. -/
namespace Go.AM
/-! ### Levels. -/
/-! ### Closed sets. -/
end Go.AM

namespace Go.Proofs.D
open Go.AM Go
set_option maxRecDepth 100000
set_option maxHeartbeats 2000000
/-- No order. -/
def BadP (rs : List USet) : Prop := validR rs = false ∨ ∃ t, rs = t.map SB ∧ Sq rs.length t ∧ rs.length ≤ 512 ∧ poB rs.length t = false
/-- A relation is an order, or it is none. -/
theorem rel_cases (rs : List USet) (hok : ∀ x ∈ rs, okW x.W) : (∃ t, rs = t.map SB ∧ Sq rs.length t ∧ rs.length ≤ 512 ∧ poB rs.length t = true) ∨ BadP rs := by
 cases hv : validR rs
 ·exact .inr (.inl hv)
 ·obtain ⟨t, h1, hs, hn⟩ := rel_of hok hv
  cases hp : poB rs.length t
  ·exact .inr (.inr ⟨t, h1, hs, hn, hp⟩)
  ·exact .inl ⟨t, h1, hs, hn, hp⟩
end Go.Proofs.D

namespace Go.Proofs.D
open Go.AM Go
set_option maxRecDepth 100000
set_option maxHeartbeats 2000000
end Go.Proofs.D

