/- Lemmas and contracts, part 6: an abstract machine over the model, and the functions that the statement reaches. -/
import Derived.Test.YtppocnbagombeaaGreatDoorBirkhoffLatticesP5
import Derived.Shelf.SlIter.Collect
set_option linter.unusedVariables false
set_option linter.unusedSimpArgs false
open Nat renaming reduceAdd → zA, reduceMul → zM, reduceEqDiff → zE, reduceLT → zL, reduceLeDiff → zD, reduceSub → zS, reducePow → zP, reduceBEq → zB
open Int renaming reduceToNat → zI
open List renaming reduceReplicate → zR
/- maps.Values at this seat's program: the iterator gives each value once. -/
namespace Go.Proofs
open Go.RowKit Go.Maps Go.Sort Go.Shelf
set_option maxRecDepth 100000
set_option maxHeartbeats 2000000
/-- What a step of the iterator leaves as it is, and what it draws. -/
def Bk.AbidesD {β : Type} (B : Nat) (J : β → World → Prop) : Prop :=
  ∀ s W W' row, J s W → W.grownBy W' row → W.drawn ≤ W'.drawn → (∀ r, row = some r → B ≤ r ∧ ∃ o : Obj, W.heap[r]? = some o ∧ o.isWalk = true) → J s W'
/-- A set: its size, its words' slice. -/
abbrev Bk.SetV : Type := Int × Option Addr × Nat × Nat
abbrev Bk.enc (p : Bk.SetV) : Value := .agg #[.int .i64 p.1, .slice p.2.1 p.2.2.1 p.2.2.2]
abbrev Bk.encC (p : Bk.SetV) : List Value := [.int .i64 p.1, .slice p.2.1 p.2.2.1 p.2.2.2]
structure Bk.Rg (W : World) (b r : Nat) (es : Array MapEntry) (clock : Nat) (seen : Array Nat) : Prop where
  map : W.heap[b]? = some (.map es clock)
  it : W.heap[r]? = some (.mapIter (some b) clock seen clock)
theorem Bk.Rg.of_walks {W W' : World} {b r : Nat} {es : Array MapEntry} {clock : Nat} {seen : Array Nat} (h : Bk.Rg W b r es clock seen) (hk : KeepsWalks W W') : Bk.Rg W' b r es clock seen :=
  ⟨hk.same b _ h.map rfl, hk.same r _ h.it rfl⟩
theorem Bk.Rg.left {W : World} {b r : Nat} {es : Array MapEntry} {clock : Nat} {seen : Array Nat} (h : Bk.Rg W b r es clock seen) : W.rangeLeft b r = (leftOf es seen).size := by
  simp only [World.rangeLeft, h.map, h.it]
section
variable {F : Fence} {n : Nat} {P : Program} (w : World) {ops : Array Oper} {rest : List Oper} {o : Oper} {a : Act} {Q : Exit → Act → World → Prop}
theorem Bk.wp_range (hg : o.guard = none) (m : Operand) (t : TypeId) (hop : o.op = Op.range t m) (k e : TypeId) (ht : P.underlying t = some (.map k e)) (b : Nat) (es : Array MapEntry) (clock : Nat)
    (hm : a.eval m = .map (some b)) (hmap : w.heap[b]? = some (.map es clock))
    (hK : ∀ w', Bk.Rg w' b w.heap.size es clock #[] → w.grownBy w' none → w.drawn ≤ w'.drawn → w'.heap.size = w.heap.size + 1 → wpListIn F n P ops Q rest (a.put o.dst (.pointer (some ⟨w.heap.size, 0, none⟩))) w') :
    wpListIn F n P ops Q (o :: rest) a w := by
  refine wpListIn_plain hg fun K' hK' => ?_
  have hrun := run_range_map (P := P) w t k e b es clock ht hmap
  have hlt : b < w.heap.size := (Array.getElem?_eq_some_iff.1 hmap).1
  unfold Oper.wpIn
  refine ⟨?_, ?_⟩
  · simp [Oper.about, hop]
  · rw [Oper.semAt_plain F _ _ (by rw [hop]; intro c hc'; cases hc')]
    simp [execOp, hop, hm, hrun, Result.andThen]
    exact hK' _ _ (hK _ ⟨(Below.heap_alloc w _ b hlt).trans hmap, heap_alloc_new w _⟩ (World.grownBy_alloc w _ none) (Nat.le_refl _) (by simp))
theorem Bk.wp_next (hg : o.guard = none) (it : Operand) (hop : o.op = Op.next it false) (b r : Nat) (es : Array MapEntry) (clock : Nat) (seen : Array Nat) (hst : AM.StampOk es.toList clock)
    (hit : a.eval it = .pointer (some ⟨r, 0, none⟩)) (h : Bk.Rg w b r es clock seen)
    (hDone : (leftOf es seen).size = 0 → wpListIn F n P ops Q rest (a.put o.dst (.tuple #[.bool false])) w)
    (hMore : ∀ e ∈ (leftOf es seen).toList, ∀ w', Bk.Rg w' b r es clock (seen.push e.born) → w.grownBy w' (some r) → w.drawn ≤ w'.drawn → w'.heap.size = w.heap.size → (Instr.entry (.pointer (some ⟨r, 0, none⟩))).run P w' = .ok (.tuple #[e.key, e.val]) w' →
      wpListIn F n P ops Q rest (a.put o.dst (.tuple #[.bool true, e.key, e.val])) w') :
    wpListIn F n P ops Q (o :: rest) a w := by
  refine wpListIn_plain hg fun K' hK' => ?_
  unfold Oper.wpIn
  refine ⟨by simp [Oper.about, hop], ?_⟩
  rw [Oper.semAt_plain F _ _ (by rw [hop]; intro c hc'; cases hc')]
  rcases run_next_at (P := P) w o.type r b clock clock seen es clock h.it h.map hst.2 (Nat.le_refl _) with ⟨h0, hrun⟩ | ⟨e, he, w1, hw1, hrun⟩
  · simp [execOp, hop, hit, hrun, Result.andThen]
    exact hK' _ _ (hDone h0)
  · simp [execOp, hop, hit, hrun, Result.andThen]
    have hne : r ≠ b := fun e => by have := h.it; rw [e, h.map] at this; cases this
    have hr1 : w1.heap[r]? = some (.mapIter (some b) clock seen clock) := by rcases hw1 with rfl | rfl <;> exact h.it
    have hb1 : w1.heap[b]? = some (.map es clock) := by rcases hw1 with rfl | rfl <;> exact h.map
    have hset := MapKept.heap_set (o' := .mapIter (some b) clock (seen.push e.born) clock) hr1
    have hRg : Bk.Rg (ChangeMaps.setBlock w1 r (.mapIter (some b) clock (seen.push e.born) clock)) b r es clock (seen.push e.born) := ⟨(hset.2 b (fun e1 => hne e1.symm)).trans hb1, hset.1⟩
    refine hK' _ _ (hMore e he _ hRg ?_ ?_ ?_ (run_entry_at _ r b clock seen es clock e hRg.it hRg.map (mem_left he).1 ?_))
    · rcases hw1 with rfl | rfl <;> exact ⟨rfl, rfl, rfl, by simp [ChangeMaps.setBlock], fun i _ hi => hset.2 i (fun e1 => hi (by rw [e1]))⟩
    · rcases hw1 with rfl | rfl
      · exact Nat.le_refl _
      · exact Nat.le_succ _
    · rcases hw1 with rfl | rfl <;> simp [ChangeMaps.setBlock]
    · exact hst.1.imp (fun h => Nat.ne_of_lt h)
end
theorem Bk.left_perm {es : Array MapEntry} {clock : Nat} {seen : Array Nat} {e : MapEntry} (hst : AM.StampOk es.toList clock) (he : e ∈ (leftOf es seen).toList) : (leftOf es seen).toList.Perm (e :: (leftOf es (seen.push e.born)).toList) := by
  have hnd : (es.toList.map (·.born)).Nodup := hst.1.imp (fun h => Nat.ne_of_lt h)
  have h1 : ∀ s : Array Nat, (leftOf es s).toList = es.toList.filter fun e => !s.contains e.born := fun s => by simp [leftOf]
  rw [h1, h1]
  have he' := mem_left he
  clear h1 he hst
  revert hnd
  have hm := he'.1
  have hs := he'.2
  clear he'
  generalize es.toList = l at hm
  intro hnd
  induction l with
  | nil => cases hm
  | cons x l ih =>
    simp only [List.map_cons, List.nodup_cons] at hnd
    have hc : ∀ y : MapEntry, (seen.push e.born).contains y.born = (seen.contains y.born || y.born == e.born) := fun y => contains_push seen e.born y.born
    rcases List.mem_cons.1 hm with rfl | hm
    · rw [List.filter_cons, if_pos (by rw [hs]; rfl), List.filter_cons, if_neg (by simp [hc])]
      refine List.Perm.cons _ (List.Perm.of_eq (List.filter_congr fun y hy => ?_))
      have : y.born ≠ e.born := fun h => hnd.1 (List.mem_map.2 ⟨y, hy, h⟩)
      simp [hc, this]
    · have hxe : x.born ≠ e.born := fun h => hnd.1 (List.mem_map.2 ⟨e, hm, h.symm⟩)
      have := ih hm hnd.2
      simp only [hc] at this
      simp only [List.filter_cons, hc]
      rw [show (x.born == e.born) = false by simp [hxe], Bool.or_false]
      split
      · exact (List.Perm.cons x this).trans (List.Perm.swap ..)
      · exact this
end Go.Proofs

/- maps.Values' iterator and slices.AppendSeq over it. -/
namespace Go.Proofs
open Go.RowKit Go.Maps Go.Sort Go.Shelf
set_option maxRecDepth 100000
set_option maxHeartbeats 2000000
theorem Bk.values_in (F : Fence) (n : Nat) (h107 : F.fn 130) (hro : F.round = none) (hn : 1 ≤ n) (l Bm om b : Nat) (es : Array MapEntry) (clock : Nat) (hst : AM.StampOk es.toList clock)
    (hval : ∀ e ∈ es.toList, ∃ p, e.val = Bk.enc p) (J : List (Bk.SetV) → World → Prop)
    (hY : ∀ pre x W, J pre W → pre.length < es.size → YieldAt F (n - 1) Tryz.prog l #[Bk.enc x] W fun e W' => e = .returned (.bool true) ∧ J (pre ++ [x]) W' ∧ KeepsWalks W W')
    (W : World) (hJ : Bk.AbidesD W.heap.size J) (hm : W.cell? ⟨Bm, om, none⟩ = some (.map (some b))) (hmap : W.heap[b]? = some (.map es clock)) (h0 : J [] W) :
    CallsIn F n Tryz.prog 130 #[.func (.yield l) #[] #[], .pointer (some ⟨Bm, om, none⟩)] W fun e W' => (∃ v, e = .returned v) ∧ ∃ ps, (ps.map Bk.enc).Perm (es.toList.map (·.val)) ∧ J ps W' := by
  refine callsIn_of_wp Tryz.func130 rfl h107 ?_ hro
  simp only [Tryz.ntmps130, List.size_toArray, List.length_cons, List.length_nil, zA, zS, Array.replicate_succ, Array.replicate_zero, List.push_toArray, List.append_toArray, List.nil_append, List.cons_append]
  have hu : Tryz.prog.underlying 123 = some (.map 9 41) := by kernel_rfl
  gi_wp2_with (first
    | (gi_at_range; refine Bk.wp_range _ rfl _ 123 rfl 9 41 hu b es clock rfl hmap ?_; intro w0 hrg0 hg0 hd0 hs0)
    | gi_in)
  go_frame
  gi_loopw [4] (fun _ wr => ∃ (seen : Array Nat) (ps : List (Bk.SetV)), Bk.Rg wr b W.heap.size es clock seen ∧ (ps.map Bk.enc ++ (leftOf es seen).toList.map (·.val)).Perm (es.toList.map (·.val)) ∧ J ps wr)
    (fun _ wr => wr.rangeLeft b W.heap.size)
  case atStart =>
    exact ⟨#[], [], hrg0, by rw [show leftOf es #[] = es from Array.filter_eq_self.2 (fun x _ => by simp)]; exact List.Perm.refl _, hJ [] W w0 none h0 hg0 hd0 (fun r e => by cases e)⟩
  case round =>
    obtain ⟨seen, ps, hrg, hperm, hJs⟩ := hrel
    gi_wp2_with (first
      | (gi_at_next; refine Bk.wp_next _ rfl _ rfl b W.heap.size es clock seen hst rfl hrg ?_ ?_)
      | gi_in)
    · intro hl0
      gi_wp2
      go_end0
      refine ⟨⟨_, rfl⟩, ps, ?_, hJs⟩
      rw [show (leftOf es seen).toList = [] from List.eq_nil_of_length_eq_zero (by simpa using hl0)] at hperm
      simpa using hperm
    · intro e he0 w2 hrg2 hg2 hd2 hs2 hen
      have he : e ∈ (leftOf es seen).toList := by first | exact he0 | exact Array.mem_toList_iff.2 he0
      clear he0
      obtain ⟨p, hp⟩ := hval e (mem_left he).1
      rw [hp] at hen ⊢
      have hJ2 : J ps w2 := hJ ps wr w2 (some W.heap.size) hJs hg2 hd2 (fun r e => by cases e; exact ⟨Nat.le_refl _, _, hrg.it, rfl⟩)
      have hlp := Bk.left_perm hst he
      have hlen : ps.length < es.size := by
        have := hperm.length_eq
        have h2 := hlp.length_eq
        simp only [List.length_append, List.length_map, List.length_cons, Array.length_toList] at this h2
        omega
      have hJ3 : J ps (w2.alloc (.cells #[.int .i64 p.1, .slice p.2.1 p.2.2.1 p.2.2.2] 41)) := hJ ps w2 _ none hJ2 (World.grownBy_alloc w2 _ none) (Nat.le_refl _) (fun r e => by cases e)
      have hrg3 := hrg2.of_walks (KeepsWalks.alloc w2 (.cells #[.int .i64 p.1, .slice p.2.1 p.2.2.1 p.2.2.2] 41))
      obtain ⟨fn, tmps, assign, body, hy, hR⟩ := hY ps p _ hJ3 hlen
      dsimp only [Bk.enc] at hy hen
      clear hs2
      gi_wp2
      refine hR.mono ?_
      rintro e' W3 ⟨rfl, hJ4, hk4⟩
      gi_wp2
      have hrg4 := hrg3.of_walks hk4
      go_roundw
      case rel =>
        refine ⟨seen.push e.born, ps ++ [p], hrg4, ?_, hJ4⟩
        refine List.Perm.trans ?_ hperm
        have h1 := hlp.map (·.val)
        rw [List.map_cons, hp] at h1
        rw [List.map_append, List.append_assoc]
        exact List.Perm.append_left _ h1.symm
      case measure =>
        rw [hrg4.left, hrg.left]
        have := hlp.length_eq
        simp only [List.length_cons, Array.length_toList] at this
        omega
end Go.Proofs

/- slices.AppendSeq over an iterator of sets. -/
namespace Go.Proofs
open Go.RowKit Go.Maps Go.Sort Go.Shelf
set_option maxRecDepth 100000
set_option maxHeartbeats 4000000
theorem Bk.wp_append_own {F : Fence} {n : Nat} {P : Program} (w : World) {ops : Array Oper} {rest : List Oper} {o : Oper} {a : Act} {Q : Exit → Act → World → Prop}
    (hg : o.guard = none) (s x : Operand) (t : TypeId) (hop : o.op = Op.call { callee := Callee.builtin Builtin.append, args := #[s, x], argTypes := #[t, t] })
    (base : Nat) (e : TypeId) (i : TypeInfo) (z : Value) (size bytes : Nat) (h1 : P.underlying t = some (.slice e)) (h2 : P.info? e = some i) (h3 : i.zero = some z) (h4 : i.size = size) (h5 : i.bytes = bytes) (h6 : z.cells.size = size) (h7 : 0 < size)
    (v : Value) (k : Nat) (xs : List Value) (hs : a.eval s = v) (hown : w.ownsRow base e size v k xs) (ad : Addr) (m c : Nat) (news : List Value) (hx : a.eval x = .slice (some ad) m c) (hn : news.length = m * size)
    (hc : ∀ j u, news[j]? = some u → w.cell? (ad.add j) = some u) (h1c : ∀ u ∈ news, u.oneCell' = true) (b1 : k + m ≤ maxLen) (b2 : (k + m) * bytes ≤ 140737488355328) (b3 : base ≤ w.heap.size)
    (hK : ∀ v' w', w'.ownsRow base e size v' (k + m) (xs ++ news) → w.grownBy w' v.ownBlock → (v' = .slice none 0 0 ↔ v = .slice none 0 0 ∧ m = 0) → w.drawn ≤ w'.drawn → wpListIn F n P ops Q rest (a.put o.dst v') w') :
    wpListIn F n P ops Q (o :: rest) a w := by
  refine wpListIn_plain hg fun K hK' => ?_
  obtain ⟨v', w', hrun, r1, r2, r3⟩ := run_append_own (P := P) w base t o.type e i z size bytes h1 h2 h3 h4 h5 h6 h7 v k xs hown ad m c news hn hc h1c b1 b2 b3
  unfold Oper.wpIn
  refine ⟨?_, ?_⟩
  · simp [Oper.about, hop, resolve, Target.leads, Sem.run_pure]
  · rw [Oper.semAt_plain F _ _ (by rw [hop]; intro c hc'; cases hc')]
    simp [execOp, hop, resolve, invoke, builtin, hs, hx, hrun, Result.andThen]
    exact hK' _ _ (hK v' w' r1 r2 r3 (AM.run_drawn _ hrun))
def Bk.apAssign : Code := (Go.Code.region 2 #[(Go.Oper.mk (Option.some 5) (Go.Op.alloc 41) 0 "iter.go:51" #[] Option.none), (Go.Oper.mk Option.none (Go.Op.store 41 (Go.Operand.tmp 5) (Go.Operand.tmp 7)) 0 "iter.go:51" #[(Go.Edge.mk 0 Go.Ground.data), (Go.Edge.mk 0 Go.Ground.phase)] Option.none)] Bool.false)
def Bk.apBody : Code := (Go.Code.block 1 (Go.Code.region 3 #[(Go.Oper.mk (Option.some 8) (Go.Op.load 22 (Go.Operand.tmp 2)) 22 "iter.go:52" #[] Option.none), (Go.Oper.mk (Option.some 9) (Go.Op.load 41 (Go.Operand.tmp 5)) 41 "iter.go:52" #[] Option.none), (Go.Oper.mk (Option.some 10) (Go.Op.buildSlice 22 1 #[(Prod.mk 0 (Go.Operand.tmp 9))]) 22 "iter.go:52" #[(Go.Edge.mk 1 Go.Ground.data)] Option.none), (Go.Oper.mk (Option.some 11) (Go.Op.call (Go.Call.mk (Go.Callee.builtin Go.Builtin.append) #[(Go.Operand.tmp 8), (Go.Operand.tmp 10)] #[22, 22])) 22 "iter.go:52" #[(Go.Edge.mk 0 Go.Ground.data), (Go.Edge.mk 2 Go.Ground.data)] Option.none), (Go.Oper.mk Option.none (Go.Op.store 22 (Go.Operand.tmp 2) (Go.Operand.tmp 11)) 0 "iter.go:52" #[(Go.Edge.mk 3 Go.Ground.data), (Go.Edge.mk 3 Go.Ground.chain), (Go.Edge.mk 0 Go.Ground.phase), (Go.Edge.mk 1 Go.Ground.phase), (Go.Edge.mk 2 Go.Ground.phase), (Go.Edge.mk 3 Go.Ground.phase)] Option.none)] Bool.false))

def Bk.apRec (fn : FuncId) (sv : Value) (Bs D : Nat) (st : LoopState) (pend : Option Code) : Loop :=
  { state := st, pending := pend, fn, tmps := #[.slice none 0 0, sv, .pointer (some ⟨Bs, 0, none⟩), undef, .slice none 0 0, undef, sv, undef, undef, undef, undef, undef, undef], params := #[7], assign := Bk.apAssign, body := Bk.apBody, defers := D }
abbrev Bk.cells (ss : List Bk.SetV) : List Value := (ss.map Bk.encC).flatten
theorem Bk.cells_len : ∀ ss : List Bk.SetV, (Bk.cells ss).length = ss.length * 2
  | [] => rfl
  | x :: ss => by
    have := Bk.cells_len ss
    simp only [Bk.cells, List.map_cons, List.flatten_cons, List.length_append, List.length_cons, List.length_nil] at *
    omega
structure Bk.ApAt (w0 : World) (fn : FuncId) (sv : Value) (Bs l D : Nat) (ss : List Bk.SetV) (W : World) : Prop where
  box : ∃ v, W.heap[Bs]? = some (.cells #[v] 22 (0, 0)) ∧ W.ownsRow w0.heap.size 41 2 v ss.length (Bk.cells ss) ∧ (v = .slice none 0 0 ↔ ss = [])
  L : W.heap[l]? = some (.loop (Bk.apRec fn sv Bs D .ready none))
  K : W.heap[D]? = some (.deferred (some []))
  below : Below w0.heap.size w0 W
  drawn : w0.drawn ≤ W.drawn
theorem Bk.ap_abides (w0 : World) (fn : FuncId) (sv : Value) (Bs l D B : Nat) (hB : w0.heap.size ≤ B) : Bk.AbidesD B (Bk.ApAt w0 fn sv Bs l D) := fun s W W' row h hg hd hrow => by
  have hrow' : ∀ r, row = some r → ∃ o : Obj, W.heap[r]? = some o ∧ o.isWalk = true := fun r e => (hrow r e).2
  obtain ⟨v, hv, hr, hn⟩ := h.box
  exact ⟨⟨v, (grownBy_keeps hg hrow' hv rfl).trans hv, ownsRow_abides_a hr hg hrow', hn⟩, (grownBy_keeps hg hrow' h.L rfl).trans h.L, (grownBy_keeps hg hrow' h.K rfl).trans h.K,
    h.below.grown hg h.below.size (fun k e => Nat.le_trans hB (hrow k e).1), Nat.le_trans h.drawn hd⟩
theorem Bk.cell_two_new (W : World) (x y : Value) (T : TypeId) : ∀ j u, [x, y][j]? = some u → (W.alloc (.cells #[x, y] T)).cell? ((⟨W.heap.size, 0, none⟩ : Addr).add j) = some u := fun j u hu => by
  match j, hu with
  | 0, hu => simpa [Addr.add] using hu
  | 1, hu => simpa [Addr.add] using hu
theorem Bk.apYield (F : Fence) (m : Nat) (w0 : World) (fn : FuncId) (hfn : F.fn fn) (sv : Value) (Bs l D : Nat) (hBl : Bs ≠ l) (hDl : D ≠ l) (hDB : D ≠ Bs) (h0B : w0.heap.size ≤ Bs) (h0l : w0.heap.size ≤ l)
    (N : Nat) (hN : N ≤ 1000000) (ss : List Bk.SetV) (x : Bk.SetV) (W : World) (h : Bk.ApAt w0 fn sv Bs l D ss W) (hlen : ss.length < N) :
    YieldAt F m Tryz.prog l #[Bk.enc x] W fun e W' => e = .returned (.bool true) ∧ Bk.ApAt w0 fn sv Bs l D (ss ++ [x]) W' ∧ KeepsWalks W W' := by
  have hne : (22 : TypeId) ≠ 41 := by decide
  have hu22 : Tryz.prog.underlying 22 = some (.slice 41) := by kernel_rfl
  have hib : (Tryz.prog.info? 41).map (fun i => (i.zero, i.size, i.bytes)) = some (some (.agg #[.int .i64 0, .slice none 0 0]), 2, 32) := by kernel_rfl
  obtain ⟨i0, hi, hz0, hz1, hz2⟩ := info_parts hib
  obtain ⟨v, hv, hrow, _⟩ := h.box
  refine ⟨fn, #[.slice none 0 0, sv, .pointer (some ⟨Bs, 0, none⟩), undef, .slice none 0 0, undef, sv, Bk.enc x, undef, undef, undef, undef, undef], Bk.apAssign, Bk.apBody, by simpa [Bk.apRec] using run_yield (P := Tryz.prog) (args := #[Bk.enc x]) h.L rfl, roundIn_of_wpIn hfn ?_⟩
  have hl0 : l < W.heap.size := (Array.getElem?_eq_some_iff.1 h.L).1
  have hBs0 : Bs < W.heap.size := (Array.getElem?_eq_some_iff.1 hv).1
  have hD0 : D < W.heap.size := (Array.getElem?_eq_some_iff.1 h.K).1
  obtain ⟨va, hva⟩ : ∃ va, W.heap.size = va := ⟨_, rfl⟩
  obtain ⟨Wa, hWa⟩ : ∃ Wa, W.alloc (.cells #[.int .i64 x.1, .slice x.2.1 x.2.2.1 x.2.2.2] 41) = Wa := ⟨_, rfl⟩
  have hga : W.grownBy Wa none := by rw [← hWa]; exact World.grownBy_alloc W _ none
  have hda : W.drawn ≤ Wa.drawn := by rw [← hWa]; exact Nat.le_refl _
  have hka : KeepsWalks W Wa := by rw [← hWa]; exact KeepsWalks.alloc _ _
  have hsa : Wa.heap.size = va + 1 := by rw [← hWa, ← hva]; simp
  have hxa : Wa.heap[va]? = some (.cells #[.int .i64 x.1, .slice x.2.1 x.2.2.1 x.2.2.2] 41 (0, 0)) := by rw [← hWa, ← hva]; exact heap_alloc_new W _
  have holda : ∀ k, k < W.heap.size → Wa.heap[k]? = W.heap[k]? := fun k hk => hga.block k hk (by simp)
  have hLa : Wa.heap[l]? = some (.loop (Bk.apRec fn sv Bs D .ready none)) := (holda l hl0).trans h.L
  have hrowa : Wa.ownsRow w0.heap.size 41 2 v ss.length (Bk.cells ss) := by rw [← hWa]; exact hrow.alloc _
  have hba : Below w0.heap.size w0 Wa := by rw [← hWa]; exact h.below.alloc h.below.size _
  have hvne : v.ownBlock ≠ some va := fun e => by
    have := hrow.lt va e
    omega
  have hl : l < Wa.heap.size := by omega
  have hbr := run_beginRound (P := Tryz.prog) hLa rfl
  obtain ⟨W2, hW2⟩ : ∃ W2, Wa.putObj l (.loop { Bk.apRec fn sv Bs D .ready none with state := .busy }) = W2 := ⟨_, rfl⟩
  rw [hW2] at hbr
  have hg2 : Wa.grownBy W2 (some l) := by rw [← hW2]; exact grownBy_putObj_a _ _ _
  have hd2 : Wa.drawn ≤ W2.drawn := by rw [← hW2]; exact Nat.le_refl _
  have hk2 : KeepsWalks Wa W2 := by rw [← hW2]; exact KeepsWalks.putObj _ hLa rfl
  have hv2 : W2.heap[Bs]? = some (.cells #[v] 22 (0, 0)) := by rw [← hW2]; exact (World.putObj_heap_other hBl).trans ((holda _ hBs0).trans hv)
  have hK2 : W2.heap[D]? = some (.deferred (some [])) := by rw [← hW2]; exact (World.putObj_heap_other hDl).trans ((holda _ hD0).trans h.K)
  have hL2 : W2.heap[l]? = some (.loop { Bk.apRec fn sv Bs D .ready none with state := .busy }) := by rw [← hW2]; exact World.putObj_heap_same hl
  have hx2 : W2.heap[va]? = some (.cells #[.int .i64 x.1, .slice x.2.1 x.2.2.1 x.2.2.2] 41 (0, 0)) := by rw [← hW2]; exact (World.putObj_heap_other (by omega)).trans hxa
  have hrow2 : W2.ownsRow w0.heap.size 41 2 v ss.length (Bk.cells ss) := hrowa.kept hg2 (ownsRow_ne_a hrowa hLa (fun cur e => by first | cases e | exact hne (Obj.cells.inj e).2.1))
  have hb2 : Below w0.heap.size w0 W2 := hba.grown hg2 hba.size (fun k e => by cases e; exact h0l)
  obtain ⟨hc2, hf2⟩ := cell_of_box_a hv2
  have hcx0 : W2.cell? ⟨va, 0, none⟩ = some (.int .i64 x.1) := by simp [World.cell?, hx2]
  have hcx1 : W2.cell? ⟨va, 1, none⟩ = some (.slice x.2.1 x.2.2.1 x.2.2.2) := by simp [World.cell?, hx2]
  have hBlt : Bs < W2.heap.size := (Array.getElem?_eq_some_iff.1 hv2).1
  have hl2 : l < W2.heap.size := (Array.getElem?_eq_some_iff.1 hL2).1
  have hDlt : D < W2.heap.size := (Array.getElem?_eq_some_iff.1 hK2).1
  have ne_of : ∀ {j : Nat} {o : Obj}, W2.heap[j]? = some o → (∀ cur, o ≠ .cells cur 41 (0, 0)) → some j ≠ v.ownBlock := fun hj hno => by
    rcases ownsRow_ne_a hrow2 hj hno with e | e
    · rw [e]; simp
    · exact fun e' => e e'.symm
  clear hW2
  unfold Bk.apAssign
  gi_wp2_with gi_round_op_a
  unfold Bk.apBody
  gi_wp2_with (first
    | (gi_at_builtin; refine Bk.wp_append_own _ rfl _ _ 22 rfl w0.heap.size 41 i0 (.agg #[.int .i64 0, .slice none 0 0]) 2 32 hu22 hi hz0 hz1 hz2 rfl (by decide) _ _ _ rfl (hrow2.alloc _) ⟨W2.heap.size, 0, none⟩ 1 1 (Bk.encC x) rfl rfl (Bk.cell_two_new _ _ _ _) (by simp [Value.oneCell']) (by unfold maxLen; omega) (by omega) (by have := hb2.size; simp; omega) ?_; intro v' w3 hown' hg3 hnil3 hd3
       have hv3 : w3.heap[Bs]? = some (.cells #[v] 22 (0, 0)) := (hg3.block Bs (by simp; omega) (ne_of hv2 (fun cur e => by first | cases e | exact hne (Obj.cells.inj e).2.1))).trans ((Below.heap_alloc _ _ Bs hBlt).trans hv2)
       obtain ⟨hc3, hf3⟩ := cell_of_box_a hv3
       obtain ⟨g', cap', cur', rfl, hbase', hgb', hr1, hr2, hr3, hr4⟩ : ∃ g' cap' cur', v' = .slice (some ⟨g', 0, none⟩) (ss.length + 1) cap' ∧ w0.heap.size ≤ g' ∧ w3.heap[g']? = some (.cells cur' 41 (0, 0)) ∧ ss.length + 1 ≤ cap' ∧ cap' ≤ maxLen ∧ cur'.size = cap' * 2 ∧ cur'.toList.take ((ss.length + 1) * 2) = Bk.cells ss ++ Bk.encC x := by
         rcases hown'.2 with ⟨_, h0⟩ | h'
         · exact absurd h0 (by omega)
         · exact h'
       go_frame)
    | gi_round_op_a)
  have hg3' : (W2.alloc (.cells #[.int .i64 x.1, .slice x.2.1 x.2.2.1 x.2.2.2] 41)).grownBy w3 v.ownBlock := hg3
  have hd3' : W2.drawn ≤ w3.drawn := hd3
  have hL3 : w3.heap[l]? = some (.loop { Bk.apRec fn sv Bs D .ready none with state := .busy }) := (hg3'.block l (by simp; omega) (ne_of hL2 (fun cur e => by first | cases e | exact hne (Obj.cells.inj e).2.1))).trans ((Below.heap_alloc _ _ l hl2).trans hL2)
  have hK3 : w3.heap[D]? = some (.deferred (some [])) := (hg3'.block D (by simp; omega) (ne_of hK2 (fun cur e => by first | cases e | exact hne (Obj.cells.inj e).2.1))).trans ((Below.heap_alloc _ _ D hDlt).trans hK2)
  have hd4 : w3.drawn ≤ (w3.setCell ⟨Bs, 0, none⟩ (.slice (some ⟨g', 0, none⟩) (ss.length + 1) cap')).drawn := Nat.le_refl _
  obtain ⟨w4, hw4⟩ : ∃ w4, w3.setCell ⟨Bs, 0, none⟩ (.slice (some ⟨g', 0, none⟩) (ss.length + 1) cap') = w4 := ⟨_, rfl⟩
  rw [hw4] at hd4 ⊢
  have hg4 : w3.grownBy w4 (some Bs) := by rw [← hw4]; exact grownBy_setCell0_a _ _ _
  have hv4 : w4.heap[Bs]? = some (.cells #[.slice (some ⟨g', 0, none⟩) (ss.length + 1) cap'] 22 (0, 0)) := by rw [← hw4]; exact heap_setCell_box_a _ hv3
  have hL4 : w4.heap[l]? = some (.loop { Bk.apRec fn sv Bs D .ready none with state := .busy }) := (hg4.block l (Array.getElem?_eq_some_iff.1 hL3).1 (fun e => hBl (by cases e; rfl))).trans hL3
  have hK4 : w4.heap[D]? = some (.deferred (some [])) := (hg4.block D (Array.getElem?_eq_some_iff.1 hK3).1 (fun e => hDB (by cases e; rfl))).trans hK3
  have hrow4 := hown'.kept hg4 (ownsRow_ne_a hown' hv3 (fun cur e => by first | cases e | exact hne (Obj.cells.inj e).2.1))
  have hl4 : l < w4.heap.size := (Array.getElem?_eq_some_iff.1 hL4).1
  have hb3 : Below w0.heap.size w0 w3 := (hb2.alloc hb2.size _).grown hg3' (by have := hb2.size; simp; omega) (fun k e => (hrow2.lt k e).1)
  have hb4 : Below w0.heap.size w0 w4 := hb3.grown hg4 hb3.size (fun k e => by cases e; exact h0B)
  have hk4 : KeepsWalks W w4 := (((hka.trans hk2).trans (KeepsWalks.alloc _ _)).trans (KeepsWalks.of_grownBy hg3' (ownsRow_not_walk_a (hrow2.alloc _)))).trans (by rw [← hw4]; exact KeepsWalks.setCell _ _ _)
  have hcc : Bk.cells ss ++ Bk.encC x = Bk.cells (ss ++ [x]) := by simp [Bk.cells]
  clear hw4
  refine ⟨_, _, run_endRound none hL4, rfl, ⟨⟨_, (World.putObj_heap_other hBl).trans hv4, ?_, by simp⟩, World.putObj_heap_same hl4, (World.putObj_heap_other hDl).trans hK4, hb4.grown (grownBy_putObj_a _ _ _) hb4.size (fun k e => by cases e; exact h0l), ?_⟩, hk4.trans (KeepsWalks.putObj _ hL4 rfl)⟩
  · have := hrow4.kept (grownBy_putObj_a w4 l (.loop { { Bk.apRec fn sv Bs D .ready none with state := .busy } with state := if (none : Option Code).isNone then .ready else .done, pending := none })) (ownsRow_ne_a hrow4 hL4 (fun cur e => by first | cases e | exact hne (Obj.cells.inj e).2.1))
    rw [hcc] at this
    simpa using this
  · show w0.drawn ≤ w4.drawn
    have := h.drawn
    omega
def Bk.SeqD (F : Fence) (n : Nat) (g : Nat) (lb : Array Value) (S : List Bk.SetV → Prop) (N : Nat) (w : World) : Prop :=
  ∀ (l : Nat) (J : List Bk.SetV → World → Prop) (W : World), Below w.heap.size w W → Bk.AbidesD W.heap.size J →
    (∀ pre x W1, J pre W1 → pre.length < N → YieldAt F (n - 1) Tryz.prog l #[Bk.enc x] W1 fun e W' => e = .returned (.bool true) ∧ J (pre ++ [x]) W' ∧ KeepsWalks W1 W') →
    J [] W →
    CallsIn F n Tryz.prog g (#[.func (.yield l) #[] #[]] ++ lb) W fun e W' => (∃ v, e = .returned v) ∧ ∃ xs, S xs ∧ J xs W'
theorem Bk.appendSeq_in (F : Fence) (n : Nat) (h11 : F.fn 136) (hro : F.round = none) (hn : 2 ≤ n) (g : Nat) (lb : Array Value) (hFg : F.fn g) (eg : ∀ args w, (callFunc g args).run Tryz.prog w = .ok (.enter g args) w)
    (S : List Bk.SetV → Prop) (N : Nat) (hN : N ≤ 1000000) (w : World) (hseq : Bk.SeqD F (n - 1) g lb S N w) :
    CallsIn F n Tryz.prog 136 #[.slice none 0 0, .func (.func g) #[] lb] w fun e w' => ∃ (v : Value) (ss : List Bk.SetV), e = .returned v ∧ S ss ∧ w'.ownsRow w.heap.size 41 2 v ss.length (Bk.cells ss) ∧ (v = .slice none 0 0 ↔ ss = []) ∧ Below w.heap.size w w' ∧ w.drawn ≤ w'.drawn := by
  have h1 : 1 ≤ n := by omega
  have hne : (22 : TypeId) ≠ 41 := by decide
  refine callsIn_of_wp_marks Tryz.func136 rfl h11 ?_ hro
  simp only [Tryz.ntmps136, List.size_toArray, List.length_cons, List.length_nil, zA, zS, Array.replicate_succ, Array.replicate_zero, List.push_toArray, List.append_toArray, List.nil_append, List.cons_append]
  gi_wp2
  refine wpIn_rangeFunc ?_
  intro fn hfn
  rw [hro]
  obtain ⟨W0, hW0⟩ : ∃ W0, w.alloc (.cells #[.slice none 0 0] 22) = W0 := ⟨_, rfl⟩
  have hs0 : W0.heap.size = w.heap.size + 1 := by rw [← hW0]; simp
  have hv0 : W0.heap[w.heap.size]? = some (.cells #[.slice none 0 0] 22 (0, 0)) := by rw [← hW0]; exact World.alloc_heap_new w _
  have hb0 : Below w.heap.size w W0 := by rw [← hW0]; exact (Below.refl _ w).alloc (Nat.le_refl _) _
  have hd0 : w.drawn = W0.drawn := by rw [← hW0]; rfl
  rw [hW0]
  obtain ⟨W1, hW1⟩ : ∃ W1, (W0.alloc (.deferred (some []))).alloc (.loop (Bk.apRec fn (.func (.func g) #[] lb) w.heap.size W0.heap.size .ready none)) = W1 := ⟨_, rfl⟩
  have hold : ∀ k, k < W0.heap.size → W1.heap[k]? = W0.heap[k]? := fun k hk => by
    rw [← hW1]; exact (Below.heap_alloc _ _ k (by simp; omega)).trans (Below.heap_alloc _ _ k hk)
  have hb1 : Below w.heap.size w W1 := by rw [← hW1]; exact (hb0.alloc hb0.size _).alloc (by have := hb0.size; simp; omega) _
  have hs1 : W1.heap.size = W0.heap.size + 2 := by rw [← hW1]; simp
  have hd1 : W1.drawn = W0.drawn := by rw [← hW1]; rfl
  have hM : Bk.ApAt w fn (.func (.func g) #[] lb) w.heap.size (W0.heap.size + 1) W0.heap.size [] W1 :=
    ⟨⟨_, (hold w.heap.size (by omega)).trans hv0, ⟨rfl, .inl ⟨rfl, rfl⟩⟩, by simp⟩,
     by rw [← hW1]; have := World.alloc_heap_new (W0.alloc (.deferred (some []))) (.loop (Bk.apRec fn (.func (.func g) #[] lb) w.heap.size W0.heap.size .ready none)); rwa [World.size_alloc] at this,
     by rw [← hW1]; exact (Below.heap_alloc _ _ _ (by simp)).trans (World.alloc_heap_new W0 _), hb1, by omega⟩
  refine ⟨W0.heap.size + 1, [{ target := .collected W0.heap.size, args := #[] }], W1, { target := .fn (.func g) lb, args := #[.func (.yield (W0.heap.size + 1)) #[] #[]] }, W1, g,
    #[.func (.yield (W0.heap.size + 1)) #[] #[]] ++ lb, W1, ?_, ?_, ?_, ?_, fun _ => h1, ?_⟩
  · rw [← hW1]; exact run_enterLoop_outer _ _ _ _ _
  · simp [resolve, go_sem]
  · intro f' hf'; simp [Target.leads] at hf'; subst hf'; exact hFg
  · simp [invoke, go_sem, eg]
  · refine (hseq (W0.heap.size + 1) (Bk.ApAt w fn (.func (.func g) #[] lb) w.heap.size (W0.heap.size + 1) W0.heap.size) W1 hb1 (Bk.ap_abides _ _ _ _ _ _ _ hb1.size)
      (fun pre x W hJ hl => Bk.apYield F (n - 1 - 1) w fn hfn _ w.heap.size (W0.heap.size + 1) W0.heap.size (by omega) (by omega) (by omega) (Nat.le_refl _) (by omega) N hN pre x W hJ hl) hM).mono ?_
    rintro e W2 ⟨⟨v0, rfl⟩, ss, hS, h2⟩
    obtain ⟨v, hv, hrow, hnil⟩ := h2.box
    have hend := run_endLoop (P := Tryz.prog) h2.L (by simp [Bk.apRec])
    obtain ⟨W3, hW3⟩ : ∃ W3, W2.putObj (W0.heap.size + 1) (.loop { Bk.apRec fn (.func (.func g) #[] lb) w.heap.size W0.heap.size .ready none with state := .exhausted }) = W3 := ⟨_, rfl⟩
    rw [hW3] at hend
    have hd3 : W3.drawn = W2.drawn := by rw [← hW3]; rfl
    have hdd := h2.drawn
    have hg3 : W2.grownBy W3 (some (W0.heap.size + 1)) := by rw [← hW3]; exact grownBy_putObj_a _ _ _
    have hv3 : W3.heap[w.heap.size]? = some (.cells #[v] 22 (0, 0)) := by rw [← hW3]; exact (World.putObj_heap_other (by omega)).trans hv
    have hK3 : W3.heap[W0.heap.size]? = some (.deferred (some [])) := by rw [← hW3]; exact (World.putObj_heap_other (by omega)).trans h2.K
    have hrow3 := hrow.kept hg3 (ownsRow_ne_a hrow h2.L (fun cur e => by first | cases e | exact hne (Obj.cells.inj e).2.1))
    have hb3 : Below w.heap.size w W3 := h2.below.grown hg3 h2.below.size (fun k e => by cases e; omega)
    obtain ⟨hc3, hf3⟩ := cell_of_box_a hv3
    have HD3 : Hid (w.drawn ≤ W3.drawn) := by show w.drawn ≤ W3.drawn; omega
    clear hW3 hd3 hdd hd1 hd0
    refine ⟨none, W3, hend, ?_⟩
    gi_wp2
    rw [← hs0]
    refine ⟨by simp, .inl ⟨_, _, rfl, run_takeDeferred hK3, ?_⟩⟩
    exact ⟨_, results_tmp rfl _ _ _, v, ss, rfl, hS, hrow3.kept (grownBy_putObj_a _ _ _) (ownsRow_ne_a hrow3 hK3 (fun cur e => by first | cases e | exact hne (Obj.cells.inj e).2.1)), hnil, hb3.grown (grownBy_putObj_a _ _ _) hb3.size (fun k e => by cases e; omega), HD3.out⟩
end Go.Proofs

/- Lists of sets in the order of sets. -/
namespace Go.AM
theorem cmpD_anti : ∀ (a b : List Bool), cmpD b a = - cmpD a b
  | [], [] => rfl
  | [], _ :: _ => rfl
  | _ :: _, [] => rfl
  | x :: a, y :: b => by
    unfold cmpD
    by_cases e : x = y
    · subst e; simp [cmpD_anti a b]
    · rw [if_neg e, if_neg (fun h => e h.symm)]
      cases x <;> cases y <;> simp_all
theorem cmpD_ne : ∀ {a b : List Bool} (_ : b.length = a.length) (_ : a ≠ b), cmpD a b ≠ 0
  | [], [], _, h => absurd rfl h
  | [], _ :: _, h, _ => by simp at h
  | _ :: _, [], h, _ => by simp at h
  | x :: a, y :: b, hl, h => by
    unfold cmpD
    by_cases e : x = y
    · subst e
      rw [if_pos rfl]
      exact cmpD_ne (by simpa using hl) (fun e => h (by rw [e]))
    · rw [if_neg e]; split <;> decide
theorem cmpD_cases (a b : List Bool) : cmpD a b = 0 ∨ cmpD a b = 1 ∨ cmpD a b = -1 := by
  induction a generalizing b with
  | nil => left; unfold cmpD; cases b <;> rfl
  | cons x a ih =>
    cases b with
    | nil => exact .inl rfl
    | cons y b =>
      unfold cmpD
      split
      · exact ih b
      · split
        · exact .inr (.inr rfl)
        · exact .inr (.inl rfl)
theorem cmpD_trans : ∀ {a b c : List Bool} (_ : b.length = a.length) (_ : c.length = a.length), cmpD a b < 0 → cmpD b c < 0 → cmpD a c < 0
  | [], [], [], _, _, h, _ => by cases h
  | [], [], _ :: _, _, h, _, _ => by simp at h
  | [], _ :: _, _, h, _, _, _ => by simp at h
  | _ :: _, [], _, h, _, _, _ => by simp at h
  | _ :: _, _ :: _, [], _, h, _, _ => by simp at h
  | x :: a, y :: b, z :: c, h1, h2, g1, g2 => by
    unfold cmpD at g1 g2 ⊢
    have ih := cmpD_trans (a := a) (b := b) (c := c) (by simpa using h1) (by simpa using h2)
    cases x <;> cases y <;> cases z <;> simp_all
theorem cmpS_self (a : List Bool) : cmpS a a = 0 := by unfold cmpS; rw [if_pos rfl]
theorem cmpS_lt {a b : List Bool} : cmpS a b < 0 ↔ a ≠ b ∧ (cntB a < cntB b ∨ (cntB a = cntB b ∧ cmpD a b < 0)) := by
  unfold cmpS
  by_cases e : a = b
  · simp [e]
  · rw [if_neg e]
    split
    · simp [e]; omega
    · split
      · simp [e]; omega
      · simp only [e, ne_eq, not_false_eq_true, true_and]
        constructor
        · intro h; exact .inr ⟨by omega, h⟩
        · rintro (h | ⟨_, h⟩)
          · omega
          · exact h
theorem cmpD_self : ∀ a : List Bool, cmpD a a = 0
  | [] => rfl
  | x :: a => by unfold cmpD; rw [if_pos rfl]; exact cmpD_self a
theorem cmpS_anti {a b : List Bool} (hl : b.length = a.length) (h : ¬ cmpS a b < 0) (h' : ¬ cmpS b a < 0) : a = b := by
  by_cases e : a = b
  · exact e
  · exfalso
    rw [cmpS_lt] at h h'
    have hn := cmpD_ne hl e
    have ha := cmpD_anti a b
    rcases Nat.lt_trichotomy (cntB a) (cntB b) with h1 | h1 | h1
    · exact h ⟨e, .inl h1⟩
    · rcases cmpD_cases a b with h2 | h2 | h2
      · exact hn h2
      · exact h' ⟨fun x => e x.symm, .inr ⟨h1.symm, by omega⟩⟩
      · exact h ⟨e, .inr ⟨h1, by omega⟩⟩
    · exact h' ⟨fun x => e x.symm, .inl h1⟩
theorem cmpS_trans {a b c : List Bool} (h1 : b.length = a.length) (h2 : c.length = a.length) (g1 : cmpS a b < 0) (g2 : cmpS b c < 0) : cmpS a c < 0 := by
  rw [cmpS_lt] at *
  obtain ⟨e1, g1⟩ := g1
  obtain ⟨e2, g2⟩ := g2
  have key : cntB a < cntB c ∨ cntB a = cntB c ∧ cmpD a c < 0 := by
    rcases g1 with g1 | ⟨g1, k1⟩ <;> rcases g2 with g2 | ⟨g2, k2⟩
    · left; omega
    · left; omega
    · left; omega
    · exact .inr ⟨by omega, cmpD_trans h1 h2 k1 k2⟩
  refine ⟨fun e => ?_, key⟩
  subst e
  rcases key with k | ⟨_, k⟩
  · omega
  · rw [cmpD_self] at k; omega
theorem cmpS_asymm {a b : List Bool} (hl : b.length = a.length) (h : cmpS a b < 0) : ¬ cmpS b a < 0 := fun h' => by
  have := cmpS_trans (c := a) hl rfl h h'
  rw [cmpS_self] at this; omega
theorem cmpS_total {a b : List Bool} (hl : b.length = a.length) (h : a ≠ b) : cmpS a b < 0 ∨ cmpS b a < 0 := by
  by_cases h1 : cmpS a b < 0
  · exact .inl h1
  · by_cases h2 : cmpS b a < 0
    · exact .inr h2
    · exact absurd (cmpS_anti hl h1 h2) h
/-- A list in strict order. -/
def StrS (l : List (List Bool)) : Prop := l.Pairwise fun a b => cmpS a b < 0
/-- Two lists in strict order with the same members are one. -/
theorem StrS.unique {n : Nat} : ∀ {l m : List (List Bool)} (_ : ∀ a ∈ l, a.length = n) (_ : ∀ a ∈ m, a.length = n) (_ : StrS l) (_ : StrS m) (_ : ∀ a, a ∈ l ↔ a ∈ m), l = m
  | [], [], _, _, _, _, _ => rfl
  | [], y :: m, _, _, _, _, h => by have := (h y).2 (by simp); simp at this
  | x :: l, [], _, _, _, _, h => by have := (h x).1 (by simp); simp at this
  | x :: l, y :: m, hl, hm, h1, h2, h => by
    obtain ⟨h1a, h1b⟩ := List.pairwise_cons.1 h1
    obtain ⟨h2a, h2b⟩ := List.pairwise_cons.1 h2
    have hxl := hl x (by simp)
    have hyl := hm y (by simp)
    have hxy : x = y := by
      rcases List.mem_cons.1 ((h x).1 (by simp)) with e | e
      · exact e
      · rcases List.mem_cons.1 ((h y).2 (by simp)) with e' | e'
        · exact e'.symm
        · exact absurd (h2a x e) (cmpS_asymm (by omega) (h1a y e'))
    subst hxy
    congr 1
    refine StrS.unique (fun a ha => hl a (by simp [ha])) (fun a ha => hm a (by simp [ha])) h1b h2b fun a => ⟨fun ha => ?_, fun ha => ?_⟩
    · rcases List.mem_cons.1 ((h a).1 (by simp [ha])) with e | e
      · subst e; have := h1a a ha; rw [cmpS_self] at this; omega
      · exact e
    · rcases List.mem_cons.1 ((h a).2 (by simp [ha])) with e | e
      · subst e; have := h2a a ha; rw [cmpS_self] at this; omega
      · exact e
def insS (s : List Bool) : List (List Bool) → List (List Bool)
  | [] => [s]
  | x :: l => if cmpS s x < 0 then s :: x :: l else if s = x then x :: l else x :: insS s l
def sortS : List (List Bool) → List (List Bool)
  | [] => []
  | x :: l => insS x (sortS l)
theorem insS_mem (s : List Bool) : ∀ (l : List (List Bool)) (a : List Bool), a ∈ insS s l ↔ a = s ∨ a ∈ l
  | [], a => by simp [insS]
  | x :: l, a => by
    unfold insS
    split
    · simp
    · split
      · rename_i h; subst h; simp
      · rw [List.mem_cons, insS_mem s l a, List.mem_cons]
        constructor
        · rintro (h | h | h)
          · exact .inr (.inl h)
          · exact .inl h
          · exact .inr (.inr h)
        · rintro (h | h | h)
          · exact .inr (.inl h)
          · exact .inl h
          · exact .inr (.inr h)
theorem sortS_mem : ∀ (l : List (List Bool)) (a : List Bool), a ∈ sortS l ↔ a ∈ l
  | [], a => by simp [sortS]
  | x :: l, a => by rw [sortS, insS_mem, sortS_mem l a, List.mem_cons]
theorem insS_str {n : Nat} {s : List Bool} (hs : s.length = n) : ∀ {l : List (List Bool)} (_ : ∀ a ∈ l, a.length = n) (_ : StrS l), StrS (insS s l)
  | [], _, _ => List.pairwise_singleton ..
  | x :: l, hl, h => by
    obtain ⟨ha, hb⟩ := List.pairwise_cons.1 h
    have hx := hl x (by simp)
    unfold insS
    split
    · rename_i hlt
      refine List.pairwise_cons.2 ⟨fun y hy => ?_, h⟩
      rcases List.mem_cons.1 hy with rfl | hy
      · exact hlt
      · exact cmpS_trans (by omega) (by rw [hl y (by simp [hy]), hs]) hlt (ha y hy)
    · split
      · exact h
      · rename_i h1 h2
        refine List.pairwise_cons.2 ⟨fun y hy => ?_, insS_str hs (fun a ha => hl a (by simp [ha])) hb⟩
        rcases (insS_mem s l y).1 hy with rfl | hy
        · rcases cmpS_total (a := y) (b := x) (by omega) h2 with h | h
          · exact absurd h h1
          · exact h
        · exact ha y hy
theorem sortS_str {n : Nat} : ∀ {l : List (List Bool)} (_ : ∀ a ∈ l, a.length = n), StrS (sortS l)
  | [], _ => .nil
  | x :: l, hl => insS_str (hl x (by simp)) (fun a ha => hl a (by simp [(sortS_mem l a).1 ha])) (sortS_str fun a ha => hl a (by simp [ha]))
end Go.AM

/- slices.SortFunc at a list of sets. -/
namespace Go.Proofs
open Go.RowKit Go.Maps Go.Sort Go.Shelf
set_option maxRecDepth 100000
set_option maxHeartbeats 2000000
section
variable {α : Type} [Inhabited α] (enc : α → List Value)
theorem Bk.flat_get (hk : ∀ x, (enc x).length = 2) : ∀ (l : List α) (t : Nat), t < l.length * 2 → ((l.map enc).flatten)[t]? = (enc (l.getD (t / 2) default))[t % 2]?
  | [], t, h => by simp at h
  | x :: l, t, h => by
    have h2 := hk x
    simp only [List.map_cons, List.flatten_cons]
    by_cases ht : t < 2
    · rw [List.getElem?_append_left (by omega), show t / 2 = 0 by omega, show t % 2 = t by omega, List.getD_cons_zero]
    · rw [List.getElem?_append_right (by omega), h2, Bk.flat_get hk l (t - 2) (by simp at h; omega), show t / 2 = (t - 2) / 2 + 1 by omega, List.getD_cons_succ, show t % 2 = (t - 2) % 2 by omega]
theorem Bk.flatK_list (hk : ∀ x, (enc x).length = 2) (l : List α) : (flatK enc 2 l.toArray).toList = (l.map enc).flatten := by
  have hlen : ((l.map enc).flatten).length = l.length * 2 := by
    induction l with
    | nil => rfl
    | cons x l ih => simp only [List.map_cons, List.flatten_cons, List.length_append, List.length_cons, ih, hk]; omega
  refine List.ext_getElem? fun t => ?_
  by_cases ht : t < l.length * 2
  · rw [Bk.flat_get enc hk l t ht, Array.getElem?_toList]
    have hi : t / 2 < l.length := by omega
    have hj : t % 2 < (enc (l.getD (t / 2) default)).length := by rw [hk]; omega
    simp only [flatK, Array.getElem?_map, List.size_toArray, Array.getElem?_range, if_pos ht, Option.map_some]
    rw [List.getElem?_eq_getElem hj]
    congr 1
    have e : l.toArray[t / 2]! = l.getD (t / 2) default := by simp [List.getD_eq_getElem?_getD, hi]
    rw [e, getElem!_pos (enc (l.getD (t / 2) default)) (t % 2) hj]
  · rw [List.getElem?_eq_none (by rw [Array.length_toList, size_flatK]; simpa using ht), List.getElem?_eq_none (by rw [hlen]; omega)]
theorem Bk.holdsK (hk : ∀ x, (enc x).length = 2) {w : World} {g : Nat} {cur : Array Value} {e : TypeId} {l : List α} (hb : w.heap[g]? = some (.cells cur e (0, 0))) (ht : cur.toList.take (l.length * 2) = (l.map enc).flatten) : HoldsK enc 2 w g 0 l.toArray := by
  intro j hj
  have hj' : j < l.length * 2 := by simpa using hj
  refine ⟨?_, by simp [World.frozen?, hb]⟩
  have h1 : (cur.toList.take (l.length * 2))[j]? = ((l.map enc).flatten)[j]? := by rw [ht]
  rw [List.getElem?_take_of_lt hj', ← Bk.flatK_list enc hk, Array.getElem?_toList, Array.getElem?_toList] at h1
  simp only [World.cell?, hb, Nat.zero_add, Option.isSome_none, Bool.false_eq_true, if_false, h1, id]
  rw [Array.getElem?_eq_getElem hj, getElem!_pos (flatK enc 2 l.toArray) j hj]
theorem Bk.heap_sortK {w : World} {g n : Nat} {os : Array Obj} {cur : Array Value} {e : TypeId} {fr : Nat × Nat} (d : Array α) (hb : w.heap[g]? = some (.cells cur e fr)) :
    (sortWorldK enc 2 w g 0 n d os).heap[g]? = some (.cells (putCells id 0 (flatK enc 2 d) cur) e fr) := by
  have hg : g < w.heap.size := (Array.getElem?_eq_some_iff.1 hb).1
  unfold sortWorldK putRowK
  rw [heap_grow_old _ _ (by simpa using hg)]
  simp [putRow, mapBlock, Sort.ahead, Array.getElem?_modify, hb, onCells]
theorem Bk.grownBy_sortK {w : World} {g n : Nat} {os : Array Obj} (d : Array α) : w.grownBy (sortWorldK enc 2 w g 0 n d os) (some g) := by
  unfold sortWorldK putRowK
  refine ⟨rfl, rfl, rfl, by simp, fun k hk hne => ?_⟩
  rw [heap_grow_old _ _ (by simpa using hk)]
  have : g ≠ k := fun e => hne (by rw [e])
  simp [putRow, mapBlock, Sort.ahead, Array.getElem?_modify, this]
theorem Bk.take_putK (hk : ∀ x, (enc x).length = 2) (cur : Array Value) (l : List α) (h : l.length * 2 ≤ cur.size) : (putCells id 0 (flatK enc 2 l.toArray) cur).toList.take (l.length * 2) = (l.map enc).flatten := by
  rw [← Bk.flatK_list enc hk]
  apply List.ext_getElem?
  intro j
  by_cases hj : j < l.length * 2
  · rw [List.getElem?_take_of_lt hj, Array.getElem?_toList, Array.getElem?_toList]
    simp [putCells, hj, show j < cur.size by omega]
  · rw [List.getElem?_take_eq_none (by omega), List.getElem?_eq_none (by simp; omega)]
end
end Go.Proofs

/- slices.SortFunc at a list of sets: a permutation, in the order of sets. -/
namespace Go.Proofs
open Go.RowKit Go.Maps Go.Sort Go.Shelf
set_option maxRecDepth 100000
set_option maxHeartbeats 2000000
open AM (rowB cmpS RelP immF GL)
abbrev Bk.El (n : Nat) (w0 : World) (F : Nat → Prop) : Type := {q : Bk.SetV × List Bool // q.2.length = n ∧ RelP (immF w0 F) w0 (.agg (rowB q.2)) (Bk.enc q.1)}
theorem Bk.ext_grow {W w' : World} (h : AM.Ext (fun _ => False) W w') : ∃ q os', w' = grow (W.drewN q) os' := by
  refine ⟨w'.drawn - W.drawn, w'.heap.extract W.heap.size w'.heap.size, ?_⟩
  have e : w'.heap = W.heap ++ w'.heap.extract W.heap.size w'.heap.size := by
    refine Array.ext_getElem? fun i => ?_
    by_cases hi : i < W.heap.size
    · rw [h.block i hi (fun e => e), Array.getElem?_append_left hi]
    · rw [Array.getElem?_append_right (by omega), Array.getElem?_extract]
      have hs := h.size
      by_cases h2 : i < w'.heap.size
      · rw [if_pos (by omega), show W.heap.size + (i - W.heap.size) = i by omega]
      · rw [if_neg (by omega), Array.getElem?_eq_none (by omega)]
  have hd := h.drawn
  have h1 := h.os
  have h2 := h.tape
  have h3 := h.output
  cases w'
  simp only at e h1 h2 h3 hd
  unfold grow World.drewN
  simp only [World.mk.injEq]
  exact ⟨e, h2, by omega, h1, h3⟩
variable {n : Nat} {w0 : World} {F : Nat → Prop}
theorem Bk.cmpLays (hn : n ≤ 512) (hF : ∀ b, F b → b < w0.heap.size) (hgl : GL (immF w0 F) w0) {W : World} (hb : Below w0.heap.size w0 W) {blk : Nat} (hblk : w0.heap.size ≤ blk) (size : Nat) [Inhabited (Bk.El n w0 F)] :
    CmpLays Tryz.prog 110 #[] (fun x : Bk.El n w0 F => Bk.encC x.1.1) 2 (fun x y => cmpS x.1.2 y.1.2) blk 0 size W := fun m os dk hs x y => by
  have hg := Bk.grownBy_sortK (w := W) (g := blk) (n := m) (os := os) (fun x : Bk.El n w0 F => Bk.encC x.1.1) dk
  generalize sortWorldK (fun x : Bk.El n w0 F => Bk.encC x.1.1) 2 W blk 0 m dk os = Ws at hg ⊢
  have hbs : Below w0.heap.size w0 Ws := hb.grown hg hb.size (fun k e => by cases e; exact hblk)
  have him := Go.Proofs.B.immF_later (F := F) hbs
  have h := Go.Proofs.B.cmpf_r x.1.2 y.1.2 (by rw [x.2.1]; exact hn) (by rw [x.2.1, y.2.1]) Ws F [Bk.enc x.1.1, Bk.enc y.1.1] (fun b hb' => Nat.lt_of_lt_of_le (hF b hb') hbs.size) (hgl.mono him) rfl (fun i hi => by
    match i, hi with
    | 0, _ => exact x.2.2.mono him
    | 1, _ => exact y.2.2.mono him)
  refine h.mono fun e w' ⟨u, he, hx, hr⟩ => ?_
  cases hr
  exact ⟨he, Bk.ext_grow hx⟩
theorem Bk.sortFunc (hn : n ≤ 512) (hF : ∀ b, F b → b < w0.heap.size) (hgl : GL (immF w0 F) w0) {W : World} (hb : Below w0.heap.size w0 W) {blk cap : Nat} (hblk : w0.heap.size ≤ blk) (xs : List (Bk.El n w0 F)) (hne : xs ≠ []) (hl : xs.length ≤ 1000000)
    {cur : Array Value} (hc : W.heap[blk]? = some (.cells cur 41 (0, 0))) (hcs : xs.length * 2 ≤ cur.size) (ht : cur.toList.take (xs.length * 2) = Bk.cells (xs.map (·.1.1))) :
    Calls Tryz.prog 129 #[.slice (some ⟨blk, 0, none⟩) xs.length cap, .func (.func 110) #[] #[]] W fun e W' => e = .returned (.tuple #[]) ∧ ∃ zs : List (Bk.El n w0 F), zs.Perm xs ∧ zs.Pairwise (fun a b => ¬ cmpS b.1.2 a.1.2 < 0) ∧
      (∃ cur' : Array Value, W'.heap[blk]? = some (.cells cur' 41 (0, 0)) ∧ cur'.size = cur.size ∧ cur'.toList.take (zs.length * 2) = Bk.cells (zs.map (·.1.1))) ∧ W.grownBy W' (some blk) ∧ W.drawn ≤ W'.drawn := by
  obtain ⟨x0, hx0⟩ := List.exists_mem_of_ne_nil _ hne
  haveI : Inhabited (Bk.El n w0 F) := ⟨x0⟩
  have hcells : ∀ l : List (Bk.El n w0 F), Bk.cells (l.map (·.1.1)) = (l.map fun x => Bk.encC x.1.1).flatten := fun l => by simp [Bk.cells, List.map_map, Function.comp_def]
  have eg : ∀ args w, (callFunc 110 args).run Tryz.prog w = .ok (.enter 110 args) w := enters_of Tryz.func110 (by kernel_rfl) rfl
  have hO : SWO (ltOf fun x y : Bk.El n w0 F => cmpS x.1.2 y.1.2) := {
    irrefl := fun x => by unfold ltOf; simp only [AM.cmpS_self]; rfl
    trans := fun x y z h1 h2 => by
      unfold ltOf at *
      simp only [decide_eq_true_eq] at *
      exact AM.cmpS_trans (by rw [x.2.1, y.2.1]) (by rw [x.2.1, z.2.1]) h1 h2
    ntrans := fun x y z h1 h2 => by
      unfold ltOf at *
      simp only [decide_eq_false_iff_not] at *
      intro h3
      by_cases e : x.1.2 = y.1.2
      · rw [e] at h3; exact h2 h3
      · rcases AM.cmpS_total (by rw [x.2.1, y.2.1]) e with h | h
        · exact h1 h
        · exact h2 (AM.cmpS_trans (by rw [x.2.1, y.2.1]) (by rw [y.2.1, z.2.1]) h h3) }
  have hcon := AnyQ.slices_SortFunc Bk.sortL 2 Tryz.isAgg41 Tryz.sizeOf41 (fun x : Bk.El n w0 F => Bk.encC x.1.1) (fun _ => rfl) (fun x v hv => by simp [Bk.encC] at hv; rcases hv with rfl | rfl <;> rfl) (fun x y => cmpS x.1.2 y.1.2) hO 110 #[] blk 0 cap xs.toArray W eg
    (Bk.cmpLays hn hF hgl hb hblk _) (Bk.holdsK _ (fun _ => rfl) hc (by rw [ht, hcells])) (Array.getElem?_eq_some_iff.1 hc).1 (by simp; omega)
  change Calls Tryz.prog 129 _ _ _ at hcon
  rw [List.size_toArray] at hcon
  refine hcon.mono fun e W' ⟨he, d', m, os, hp, hs, hw⟩ => ⟨he, d'.toList, ?_, ?_, ?_, ?_, ?_⟩
  · have := hp.2.2
    have h1 := hp.1
    simp only [List.size_toArray] at h1
    have e1 : d'.extract 0 xs.length = d' := by rw [← h1]; simp
    have e2 : (xs.toArray).extract 0 xs.length = xs.toArray := by rw [← List.size_toArray]; simp
    rw [e1, e2] at this
    simpa using this
  · have h1 := hp.1
    simp only [List.size_toArray] at h1
    rw [List.pairwise_iff_getElem]
    intro i j hi hj hij
    have hi' : i < d'.size := by simpa using hi
    have hj' : j < d'.size := by simpa using hj
    have := hs i j (Nat.zero_le _) hij (by omega)
    rw [getElem!_pos d' i hi', getElem!_pos d' j hj'] at this
    simpa [ltOf] using this
  · subst hw
    have h1 := hp.1
    simp only [List.size_toArray] at h1
    refine ⟨_, Bk.heap_sortK _ d' hc, by simp [putCells], ?_⟩
    have := Bk.take_putK (fun x : Bk.El n w0 F => Bk.encC x.1.1) (fun _ => rfl) cur d'.toList (by rw [Array.length_toList, h1]; exact hcs)
    rw [hcells, ← this]
  · subst hw; exact Bk.grownBy_sortK _ d'
  · subst hw; show W.drawn ≤ W.drawn + m; omega
end Go.Proofs

