/- Lemmas and contracts, part 7: an abstract machine over the model, and the functions that the statement reaches. -/
import Derived.Test.YtloonkbfooddiaaGreatDoorIdealBudgetP6
import Derived.Shelf.SlSortCmp.NoneTotal
import Derived.MakeChecks
import Derived.LaidMore
import Derived.Test.YtloonkbfooddiaaGreatDoorRows
set_option linter.unusedVariables false
set_option linter.unusedSimpArgs false
/- slices.SortedFunc over maps.Values. -/
namespace Go.Proofs
open Go.RowKit Go.Maps Go.Sort Go.Shelf
set_option maxRecDepth 100000
set_option maxHeartbeats 2000000
open AM (rowB cmpS RelP immF GL)
theorem I.collect_in (F : Fence) (n : Nat) (h8 : F.fn 105) (h11 : F.fn 116) (hro : F.round = none) (hn : 3 ≤ n) (g : Nat) (lb : Array Value) (hFg : F.fn g) (eg : ∀ args w, (callFunc g args).run Tryz.prog w = .ok (.enter g args) w)
    (S : List I.SetV → Prop) (N : Nat) (hN : N ≤ 1000000) (w : World) (hseq : I.SeqD F (n - 1 - 1) g lb S N w) :
    CallsIn F n Tryz.prog 105 #[.func (.func g) #[] lb] w fun e w' => ∃ (v : Value) (ss : List I.SetV), e = .returned v ∧ S ss ∧ w'.ownsRow w.heap.size 27 2 v ss.length (I.cells ss) ∧ (v = .slice none 0 0 ↔ ss = []) ∧ Below w.heap.size w w' ∧ w.drawn ≤ w'.drawn := by
  have h1 : 1 ≤ n := by omega
  have e11 : ∀ args w, (callFunc 116 args).run Tryz.prog w = .ok (.enter 116 args) w := enters_of Tryz.func116 (by kernel_rfl) rfl
  refine callsIn_of_wp Tryz.func105 rfl h8 ?_ hro
  simp only [Tryz.ntmps105, List.size_toArray, List.length_cons, List.length_nil, Nat.reduceAdd, Nat.reduceSub, Array.replicate_succ, Array.replicate_zero, List.push_toArray, List.append_toArray, List.nil_append, List.cons_append]
  gi_wp2_with (gi_at_call 116; refine (I.appendSeq_in F (n - 1) h11 hro (by omega) g lb hFg eg S N hN _ hseq).mono ?_; rintro e w' ⟨v, ss, rfl, hS, hrow, hnil, hb, hd⟩)
  go_ret
  exact ⟨v, ss, rfl, hS, hrow, hnil, hb, hd⟩
theorem I.perm_lift {α β : Type} (f : α → β) : ∀ {a b : List β} (_ : a.Perm b) (ys : List α), b = ys.map f → ∃ xs : List α, xs.Perm ys ∧ xs.map f = a := by
  intro a b hp
  induction hp with
  | nil => intro ys h; exact ⟨ys, List.Perm.refl _, h.symm⟩
  | cons x _ ih =>
    intro ys h
    cases ys with
    | nil => cases h
    | cons y ys =>
      simp only [List.map_cons, List.cons.injEq] at h
      obtain ⟨xs, h1, h2⟩ := ih ys h.2
      exact ⟨y :: xs, h1.cons y, by simp [h.1, h2]⟩
  | swap x y l =>
    intro ys h
    match ys, h with
    | u :: v :: ys, h =>
      simp only [List.map_cons, List.cons.injEq] at h
      exact ⟨v :: u :: ys, List.Perm.swap .., by simp [h.1, h.2.1, h.2.2]⟩
    | [u], h => simp at h
    | [], h => simp at h
  | trans _ _ ih1 ih2 =>
    intro ys h
    obtain ⟨xs, h1, h2⟩ := ih2 ys h
    obtain ⟨zs, h3, h4⟩ := ih1 xs h2.symm
    exact ⟨zs, h3.trans h1, h4⟩
theorem I.enc_inj {p q : I.SetV} (h : I.enc p = I.enc q) : p = q := by
  obtain ⟨a, b, c, d⟩ := p
  obtain ⟨a', b', c', d'⟩ := q
  simp only [I.enc, Value.agg.injEq] at h
  simp at h
  simp [h]
variable {n : Nat} {F : Nat → Prop}
/-- The map's values, sorted. -/
theorem I.sortedFunc {w : World} (hn : n ≤ 512) (hF : ∀ b, F b → b < w.heap.size) (hgl : GL (immF w F) w) (ys : List (I.El n w F)) (hl : ys.length ≤ 1000000) (Bm om b : Nat) (es : Array MapEntry) (clock : Nat)
    (hst : AM.StampOk es.toList clock) (hm : w.cell? ⟨Bm, om, none⟩ = some (.map (some b))) (hmap : w.heap[b]? = some (.map es clock)) (hys : es.toList.map (·.val) = ys.map fun y => I.enc y.1.1) :
    Calls Tryz.prog 84 #[.func (.func 107) #[] #[.pointer (some ⟨Bm, om, none⟩)], .func (.func 86) #[] #[]] w fun e w' => ∃ (v : Value) (zs : List (I.El n w F)), e = .returned v ∧ zs.Perm ys ∧ zs.Pairwise (fun a b => ¬ cmpS b.1.2 a.1.2 < 0) ∧
      w'.ownsRow w.heap.size 27 2 v zs.length (I.cells (zs.map (·.1.1))) ∧ Below w.heap.size w w' ∧ w.drawn ≤ w'.drawn := by
  have hlen : es.size = ys.length := by have := congrArg List.length hys; simpa using this
  have hseq : I.SeqD Fence.wide 1 107 #[.pointer (some ⟨Bm, om, none⟩)] (fun ss => (ss.map I.enc).Perm (es.toList.map (·.val))) es.size w := fun l J W hW hJ hY h0 => by
    have hBm : Bm < w.heap.size := by
      have := World.block_lt_of_cell? _ _ hm
      exact this
    exact I.values_in Fence.wide 1 trivial rfl (Nat.le_refl _) l Bm om b es clock hst (fun e he => by
      have : e.val ∈ es.toList.map (·.val) := List.mem_map.2 ⟨e, he, rfl⟩
      rw [hys] at this
      obtain ⟨y, _, hy⟩ := List.mem_map.1 this
      exact ⟨_, hy.symm⟩) J hY W hJ ((hW.cell (p := ⟨Bm, om, none⟩) hBm).trans hm) ((hW.block b (Array.getElem?_eq_some_iff.1 hmap).1).trans hmap) h0
  have hC := callsIn_wide.1 (I.collect_in Fence.wide 3 trivial trivial rfl (Nat.le_refl _) 107 #[.pointer (some ⟨Bm, om, none⟩)] trivial (enters_of Tryz.func107 (by kernel_rfl) rfl) _ es.size (by omega) w hseq)
  have HC : Hid (Calls Tryz.prog 105 #[.func (.func 107) #[] #[.pointer (some ⟨Bm, om, none⟩)]] w fun e w' => ∃ (v : Value) (ss : List I.SetV), e = .returned v ∧ (ss.map I.enc).Perm (es.toList.map (·.val)) ∧ w'.ownsRow w.heap.size 27 2 v ss.length (I.cells ss) ∧ (v = .slice none 0 0 ↔ ss = []) ∧ Below w.heap.size w w' ∧ w.drawn ≤ w'.drawn) := hC
  have HY : Hid (es.toList.map (·.val) = ys.map fun y => I.enc y.1.1) := hys
  have HM : Hid (w.heap[b]? = some (.map es clock)) := hmap
  have HL : Hid (es.size = ys.length) := hlen
  clear hseq hC hys hmap hm hlen
  go_enter Tryz.func84, Tryz.ntmps84
  go_wp2_with (go_at_call 105; refine HC.out.mono ?_; rintro e W ⟨v, ss, rfl, hS, hrow, hnil, hb, hd⟩)
  rw [HY.out] at hS
  have hS2 : ss.Perm (ys.map (·.1.1)) := by
    obtain ⟨xs, h1, h2⟩ := I.perm_lift I.enc hS.symm ss rfl
    have : xs = ys.map (·.1.1) := by
      refine List.map_inj_right (fun {x y} h => I.enc_inj h) |>.1 ?_
      rw [h2, List.map_map]; rfl
    rw [← this]; exact h1.symm
  obtain ⟨xs, hxs, rfl⟩ := I.perm_lift (fun y : I.El n w F => y.1.1) hS2 ys rfl
  have HX : Hid (xs.Perm ys) := hxs
  have hxl : xs.length ≤ 1000000 := by rw [hxs.length_eq]; exact hl
  clear hS hS2 hxs
  rw [List.length_map] at hrow
  rcases hrow.2 with ⟨rfl, hz⟩ | ⟨blk, cap, cur, rfl, hbase, hgb, r1, r2, r3, r4⟩
  · have hx0 : xs = [] := List.eq_nil_of_length_eq_zero hz
    subst hx0
    have hs := AnyF.slices_SortFunc_none I.sortL none 0 (.func (.func 86) #[] #[]) W
    change Calls Tryz.prog 106 _ _ _ at hs
    go_wp2_with (go_at_call 106; refine hs.mono ?_; rintro e w' ⟨rfl, rfl⟩)
    go_ret
    exact ⟨_, rfl, [], HX.out, List.Pairwise.nil, by simpa using hrow, hb, hd⟩
  · by_cases hx0 : xs = []
    · exfalso
      subst hx0
      have := hnil.2 rfl
      cases this
    · have hs := I.sortFunc hn hF hgl hb hbase xs hx0 hxl hgb (by rw [r3]; exact Nat.mul_le_mul_right _ r1) (cap := cap) r4
      have HS : Hid (Calls Tryz.prog 106 #[.slice (some ⟨blk, 0, none⟩) xs.length cap, .func (.func 86) #[] #[]] W fun e W' => e = .returned (.tuple #[]) ∧ ∃ zs : List (I.El n w F), zs.Perm xs ∧ zs.Pairwise (fun a b => ¬ cmpS b.1.2 a.1.2 < 0) ∧
        (∃ cur' : Array Value, W'.heap[blk]? = some (.cells cur' 27 (0, 0)) ∧ cur'.size = cur.size ∧ cur'.toList.take (zs.length * 2) = I.cells (zs.map (·.1.1))) ∧ W.grownBy W' (some blk) ∧ W.drawn ≤ W'.drawn) := hs
      clear hs hgb r4
      go_wp2_with (go_at_call 106; refine HS.out.mono ?_; rintro e W2 ⟨rfl, zs, hp, hsd, ⟨cur', g1, g2, g3⟩, hgr, hd2⟩)
      go_ret
      have hzl := hp.length_eq
      refine ⟨_, rfl, zs, hp.trans HX.out, hsd, ⟨by rw [I.cells_len, List.length_map], .inr ⟨blk, cap, cur', by rw [hzl]; rfl, hbase, g1, by rw [hzl]; exact r1, r2, by rw [g2]; exact r3, g3⟩⟩, hb.grown hgr hb.size (fun k e => by cases e; exact hbase), Nat.le_trans hd hd2⟩
end Go.Proofs

/- The contract of SortedFunc over Values, in the abstract machine. -/
namespace Go.Proofs.I
open Go.AM Go
set_option maxRecDepth 100000
set_option maxHeartbeats 2000000
def mapS (kv : List (ByteArray × List Bool)) : List (List AV) := kv.map fun p => [.str p.1, .agg (rowB p.2)]
theorem el_of {n : Nat} {x : Cx} (hF' : Nat → Prop) (hFi : ∀ b, x.imm b → immF x.w hF' b) : ∀ (kv : List (ByteArray × List Bool)) (l : List MapEntry), (∀ p ∈ kv, p.2.length = n) → RowsM x l (mapS kv) →
    ∃ ys : List (I.El n x.w hF'), l.map (·.val) = ys.map (fun y => I.enc y.1.1) ∧ ys.map (·.1.2) = kv.map (·.2)
  | [], [], _, _ => ⟨[], rfl, rfl⟩
  | p :: kv, e :: l, hn, h => by
    obtain ⟨⟨k, v, e1, h1, h2⟩, h3⟩ := h
    simp only [List.cons.injEq, and_true] at e1
    obtain ⟨rfl, rfl⟩ := e1
    obtain ⟨ys, g1, g2⟩ := el_of hF' hFi kv l (fun p hp => hn p (by simp [hp])) h3
    have hp : RelP x.imm x.w (.agg (rowB p.2)) e.val := pureA_rel h2 rfl
    have hp' : RelP (immF x.w hF') x.w (.agg (rowB p.2)) e.val := hp.mono fun b hb => ⟨hFi b hb, rfl⟩
    have hp2 := hp'
    unfold rowB at hp2
    obtain ⟨a, cap, he, _⟩ := set_inv hp2
    refine ⟨⟨((p.2.length, a, (setW p.2 p.2.length).length, cap), p.2), hn p (by simp), by rw [he] at hp'; exact hp'⟩ :: ys, ?_, ?_⟩
    · simp only [List.map_cons, g1, he]
    · simp only [List.map_cons, g2]
  | [], _ :: _, _, h => h.elim
  | _ :: _, [], _, h => h.elim
theorem sorted_u (n : Nat) (hn : n ≤ 512) (kv : List (ByteArray × List Bool)) (hlen : ∀ p ∈ kv, p.2.length = n) (hnd : (kv.map (·.2)).Nodup) (hl : kv.length ≤ 1000000) (g0 v0 g1 v1 : Nat) :
    Upd Tryz.prog 84 [(0, some ⟨g0, v0, 1, [[.mp ⟨1, g1, none⟩]]⟩), (1, some ⟨g1, v1, mapSz, mapS kv⟩)] [.fn 107 [.ptr ⟨0, g0, none⟩ 0 0], .fn 86 []] (fun _ => .rsl 2 ((sortS (kv.map (·.2))).map rowB)) (fun _ => []) := by
  intro c B k ρ w F us _ _ _ hst hul hrel
  match us, hul with
  | [u0, u1], _ =>
  have r0 := hrel 0 (by simp)
  have r1 := hrel 1 (by simp)
  simp only [List.getD_cons_zero, List.getD_cons_succ] at r0 r1
  obtain ⟨vs, rfl, hvl, hvr⟩ := r0.fn_inv
  obtain ⟨vs1, rfl, hvl1, _⟩ := r1.fn_inv
  obtain rfl : vs1 = [] := List.eq_nil_of_length_eq_zero (by simpa using hvl1.symm)
  match vs, hvl with
  | [up], _ =>
  have rp := hvr 0 (by simp)
  simp only [List.getD_cons_zero] at rp
  obtain ⟨ad, rfl, _, hp⟩ := rp.ptr_inv
  obtain ⟨_, b0, base0, hρ0, rfl⟩ := hp 1 [[.mp ⟨1, g1, none⟩]] (by simp [content, rcontent, noMap, mapSz, sget])
  have hp0 : pcontent [(0, some ⟨g0, v0, 1, [[.mp ⟨1, g1, none⟩]]⟩), (1, some ⟨g1, v1, mapSz, mapS kv⟩)] (0, none) = some (1, [[.mp ⟨1, g1, none⟩]]) := by simp [pcontent, sget]
  have hp1 : pcontent [(0, some ⟨g0, v0, 1, [[.mp ⟨1, g1, none⟩]]⟩), (1, some ⟨g1, v1, mapSz, mapS kv⟩)] (1, none) = some (mapSz, mapS kv) := by simp [pcontent, sget]
  change ρ (0, none) = some (b0, base0) at hρ0
  obtain ⟨cs, T, hc1, hc2, hc3⟩ := (hst.rows (0, none) _ _ b0 base0 hp0 hρ0).cells (by decide)
  obtain ⟨um, hm1, hm2⟩ := hc3 0 0 (by simp) (by omega)
  have hm2 : Rel ⟨ρ, [(0, some ⟨g0, v0, 1, [[.mp ⟨1, g1, none⟩]]⟩), (1, some ⟨g1, v1, mapSz, mapS kv⟩)], c, w, F⟩ (.mp ⟨1, g1, none⟩) um := hm2
  obtain ⟨m, rfl, _, hmm⟩ := hm2.mp_inv
  obtain ⟨b1, base1, hρ1, rfl⟩ := hmm (mapS kv) (by simp [mcontent, rcontent, sget])
  change ρ (1, none) = some (b1, base1) at hρ1
  obtain ⟨_, _, l, clock, hmap, hrows, hstamp⟩ := (hst.rows (1, none) _ _ b1 base1 hp1 hρ1).map rfl
  let x : Cx := ⟨ρ, [(0, some ⟨g0, v0, 1, [[.mp ⟨1, g1, none⟩]]⟩), (1, some ⟨g1, v1, mapSz, mapS kv⟩)], c, w, F⟩
  let F' : Nat → Prop := fun b => F b ∨ x.owned b
  have hFi : ∀ b, x.imm b → immF w F' b := fun b hb => ⟨hb.1, fun h => h.elim hb.2.2 hb.2.1⟩
  have hF' : ∀ b, F' b → b < w.heap.size := fun b hb => by
    rcases hb with hb | ⟨π, y, base, h1, h2⟩
    · exact (hst.apart b hb).1
    · exact hst.live_lt h1 h2
  obtain ⟨ys, hy1, hy2⟩ := el_of (n := n) (x := x) F' hFi kv l.toList hlen hrows
  have hyl : ys.length = kv.length := by have := congrArg List.length hy2; simpa using this
  have hcell : w.cell? ⟨b0, base0 + 0 * 1 + 0, none⟩ = some (.map (some b1)) := by
    simp only [World.cell?, hc1]
    simpa using hm1
  refine (I.sortedFunc hn hF' (hst.gl.mono fun b hb => ⟨hFi b hb, rfl⟩) ys (by omega) b0 (base0 + 0 * 1 + 0) b1 l clock hstamp hcell hmap hy1).mono ?_
  rintro e w' ⟨v, zs, he, hperm, hsort, hrow, hb, hd⟩
  have hext : Ext (fun _ => False) w w' := ⟨hb.os, hb.tape, hb.output, hb.size, fun k hk _ => hb.block k hk, hd⟩
  have hgo := hst.goes_grow (s' := []) (c' := fun g => c g ∨ g = k ∨ g = k + 1) (w' := w') (fun id R e => by simp [sget] at e) (fun g hg => .inl hg) hext
  refine ⟨v, ρ, he, hgo, .pure _ _ ?_⟩
  have hz : zs.map (·.1.2) = sortS (kv.map (·.2)) := by
    have hmem : ∀ a, a ∈ zs.map (·.1.2) ↔ a ∈ kv.map (·.2) := fun a => by rw [(hperm.map _).mem_iff, hy2]
    have hl1 : ∀ a ∈ kv.map (·.2), a.length = n := fun a ha => by obtain ⟨p, hp, rfl⟩ := List.mem_map.1 ha; exact hlen p hp
    refine StrS.unique (n := n) (fun a ha => hl1 a ((hmem a).1 ha)) (fun a ha => hl1 a ((sortS_mem _ a).1 ha)) ?_ (sortS_str hl1) (fun a => by rw [hmem, sortS_mem])
    have hnz : (zs.map (·.1.2)).Nodup := by rw [(hperm.map _).nodup_iff, hy2]; exact hnd
    unfold StrS
    rw [List.pairwise_map]
    have h1 : zs.Pairwise fun a b => a.1.2 ≠ b.1.2 := List.pairwise_map.1 hnz
    exact (h1.and hsort).imp fun {a b} ⟨e, h⟩ => by
      rcases cmpS_total (a := a.1.2) (b := b.1.2) (by rw [a.2.1, b.2.1]) e with h2 | h2
      · exact h2
      · exact absurd h2 h
  rw [← hz, List.map_map]
  have himm : ∀ b, immF w F' b → Cx.imm ⟨ρ, [], fun g => c g ∨ g = k ∨ g = k + 1, w', F⟩ b ∧ w'.heap[b]? = w.heap[b]? := fun b hb' =>
    ⟨⟨Nat.lt_of_lt_of_le hb'.1 hb.size, fun ⟨π, y, base, e1, _⟩ => by simp [pcontent, sget] at e1, fun h => hb'.2 (.inl h)⟩, hb.block b hb'.1⟩
  rcases hrow.2 with ⟨rfl, hz0⟩ | ⟨blk, cap, cur, rfl, hbase, hgb, q1, q2, q3, q4⟩
  · have : zs = [] := List.eq_nil_of_length_eq_zero hz0
    subst this
    exact .rnil 2 none 0
  · have hlz : (zs.map ((fun b => rowB b) ∘ fun x => x.1.2)).length = zs.length := by simp
    rw [show zs.length = (zs.map (rowB ∘ fun x => x.1.2)).length by simp]
    refine .rsl 2 _ blk 0 cap (fun i j => ((I.encC (((zs[i]?).map (·.1.1)).getD default)).getD j undef)) (by simpa using q1) ⟨(Array.getElem?_eq_some_iff.1 hgb).1, fun ⟨π, y, base, e1, _⟩ => by simp [pcontent, sget] at e1, fun h => ?_⟩ (fun e he => by obtain ⟨z, _, rfl⟩ := List.mem_map.1 he; rfl) (fun i j hi hj => ?_) (fun i j hi hj => ?_)
    · have := (hst.apart blk h).1
      simp only at this
      omega
    · have hi : i < zs.length := by simpa using hi
      have hcur : cur[i * 2 + j]? = some ((I.encC (((zs[i]?).map (·.1.1)).getD default)).getD j undef) := by
        have h1 : (cur.toList.take (zs.length * 2))[i * 2 + j]? = (I.cells (zs.map (·.1.1)))[i * 2 + j]? := by rw [q4]
        rw [List.getElem?_take_of_lt (by omega), Array.getElem?_toList] at h1
        haveI : Inhabited I.SetV := ⟨(0, none, 0, 0)⟩
        rw [h1, I.cells, I.flat_get I.encC (fun _ => rfl) (zs.map (·.1.1)) (i * 2 + j) (by simp; omega), show (i * 2 + j) / 2 = i by omega, show (i * 2 + j) % 2 = j by omega]
        match j, hj with
        | 0, _ => simp [List.getD_eq_getElem?_getD, List.getElem?_map, hi]
        | 1, _ => simp [List.getD_eq_getElem?_getD, List.getElem?_map, hi]
      simp only [World.cell?, hgb, Nat.zero_add]
      simpa using hcur
    · have hi : i < zs.length := by simpa using hi
      have hz := (zs[i]).2.2.mono himm
      have hrow' : (zs.map (rowB ∘ fun x => x.1.2)).getD i [] = rowB (zs[i]).1.2 := by simp [List.getD_eq_getElem?_getD, List.getElem?_map, hi]
      rw [hrow']
      have hg : ((zs[i]?).map (·.1.1)).getD default = (zs[i]).1.1 := by simp [hi]
      rw [hg]
      unfold rowB at hz ⊢
      cases hz with
      | agg _ vs hl hr =>
        have h1 := hr j (by simp; omega)
        exact h1
end Go.Proofs.I

namespace Go.Proofs.I
open Go.AM Go
set_option maxRecDepth 100000
set_option maxHeartbeats 4000000
theorem rowN_r (b : List Bool) (hb : b.length ≤ 512) (i : Nat) (hi : i < b.length) : Reads Tryz.prog 88 false [.agg (rowB b), .int .i64 i] (.bool (b.getD i false)) := by
  have h := rowH_r b hb (i : Int)
  rwa [show (decide (0 ≤ (i : Int)) && decide ((i : Int) < b.length) && b.getD (i : Int).toNat false) = b.getD i false by simp; intro; omega] at h
theorem interf_r (a b : Int) : Reads Tryz.prog 71 false [.int .u64 a, .int .u64 b] (.int .u64 (bAnd .u64 a b)) := by
  refine Reads.body (rs := [.tmp 4]) Tryz.func71 rfl Tryz.ntmps71 rfl (by simp) ?_
  generalize hQr : retQ _ _ _ = Qr
  -- block 1
  -- region 0
  refine AW.sg [0,1] [] trivial ?_
  -- region 1
  refine AW.sg [4] [] trivial ?_
  -- ret 1
  rw [← hQr]
  refine AW.rt trivial ?_
  exact Wk.of_eq rfl
theorem unionf_r (a b : Int) : Reads Tryz.prog 70 false [.int .u64 a, .int .u64 b] (.int .u64 (bOr .u64 a b)) := by
  refine Reads.body (rs := [.tmp 4]) Tryz.func70 rfl Tryz.ntmps70 rfl (by simp) ?_
  generalize hQr : retQ _ _ _ = Qr
  -- block 2
  -- region 0
  refine AW.sg [0,1] [] trivial ?_
  -- region 1
  refine AW.sg [4] [] trivial ?_
  -- ret 1
  rw [← hQr]
  refine AW.rt trivial ?_
  exact Wk.of_eq rfl
theorem union_r (a b : List Bool) (ha : a.length ≤ 512) (hl : b.length = a.length) : Reads Tryz.prog 37 false [.agg (rowB a), .agg (rowB b)] (.tup [.agg (rowB (List.zipWith (· || ·) a b)), .int .i64 ((0 : Nat) : Int)]) := by
  have hz := zipW_setW bitOp_or (a := a) (b := b) hl.symm
  have h := combined_r a.length b.length (setW a a.length) (setW b b.length) 70 (bOr .u64) (setB_len ha) (setB_len (by omega)) (by rw [setW_len', setW_len', hl]) (by rw [validS_setW ha, validS_setW (by omega), hl]; simp) (by kernel_rfl) unionf_r
  have e : (List.zipWith (· || ·) a b).length = a.length := by simp [hl]
  rw [hz] at h
  unfold rowB
  rw [e]
  refine Reads.body (rs := [.cell 4 27, .tmp 5]) Tryz.func37 rfl Tryz.ntmps37 rfl (by simp) ?_
  generalize hQr : retQ _ _ _ = Qr
  -- block 3
  -- region 0
  refine AW.sg [2,3,4] [2,3,4] trivial ?_
  -- region 1
  refine AW.so 0 (fun ii => if ii = 2 then some (.reads false (.tup [.agg [.int .i64 a.length, .rsl 1 (words (setW (List.zipWith (· || ·) a b) a.length))], .int .i64 ((0 : Nat) : Int)])) else none) [4,5] [4] trivial ?_
  repeat with_reducible refine cj ?_ ?_
  all_goals try first | (exact h) | omega | exact ent (by kernel_rfl)
  -- ret 1
  rw [← hQr]
  refine AW.rt trivial ?_
  exact Wk.refl _
theorem inter_r (a b : List Bool) (ha : a.length ≤ 512) (hl : b.length = a.length) : Reads Tryz.prog 38 false [.agg (rowB a), .agg (rowB b)] (.tup [.agg (rowB (List.zipWith (· && ·) a b)), .int .i64 ((0 : Nat) : Int)]) := by
  have hz := zipW_setW bitOp_and (a := a) (b := b) hl.symm
  have h := combined_r a.length b.length (setW a a.length) (setW b b.length) 71 (bAnd .u64) (setB_len ha) (setB_len (by omega)) (by rw [setW_len', setW_len', hl]) (by rw [validS_setW ha, validS_setW (by omega), hl]; simp) (by kernel_rfl) interf_r
  have e : (List.zipWith (· && ·) a b).length = a.length := by simp [hl]
  rw [hz] at h
  unfold rowB
  rw [e]
  refine Reads.body (rs := [.cell 4 27, .tmp 5]) Tryz.func38 rfl Tryz.ntmps38 rfl (by simp) ?_
  generalize hQr : retQ _ _ _ = Qr
  -- block 4
  -- region 0
  refine AW.sg [2,3,4] [2,3,4] trivial ?_
  -- region 1
  refine AW.so 0 (fun ii => if ii = 2 then some (.reads false (.tup [.agg [.int .i64 a.length, .rsl 1 (words (setW (List.zipWith (· && ·) a b) a.length))], .int .i64 ((0 : Nat) : Int)])) else none) [4,5] [4] trivial ?_
  repeat with_reducible refine cj ?_ ?_
  all_goals try first | (exact h) | omega | exact ent (by kernel_rfl)
  -- ret 1
  rw [← hQr]
  refine AW.rt trivial ?_
  exact Wk.refl _
theorem below_r (n : Nat) (t : List (List Bool)) (hs : Sq n t) (hn : n ≤ 512) : Reads Tryz.prog 64 false [relB t] (.rsl 2 (tabR (invT n t))) := by
  have h := inverse_g n t hs hn
  unfold relB at *
  refine Reads.body (rs := [.tmp 2]) Tryz.func64 rfl Tryz.ntmps64 rfl (by simp) ?_
  generalize hQr : retQ _ _ _ = Qr
  -- block 5
  -- region 0
  refine AW.sg [1] [1] trivial ?_
  -- region 1
  refine AW.so 0 (fun ii => if ii = 1 then some (.reads false (.tup [.agg [.rsl 2 (tabR (invT n t))], .int .i64 ((0 : Nat) : Int)])) else none) [3] [3] trivial ?_
  repeat with_reducible refine cj ?_ ?_
  all_goals try first | (exact h) | omega | exact ent (by kernel_rfl)
  -- region 2
  refine AW.sg [2] [] trivial ?_
  -- ret 1
  rw [← hQr]
  refine AW.rt trivial ?_
  exact Wk.refl _
theorem next_r (u : List (List Bool)) (b : List Bool) (hb : b.length ≤ 512) (hu : u.length = b.length) (hr : ∀ i, i < b.length → (u.getD i []).length = b.length) : Reads Tryz.prog 63 false [.rsl 2 (tabR u), .agg (rowB b)] (.rsl 1 (ints (nats (nextU u b b.length)))) := by
  have hul := tabR_len u
  have hget : ∀ i, i < b.length → (tabR u).getD i [] = rowB (u.getD i []) := fun i hi => by rw [tabR_get (by omega)]; rfl
  have hh := rowN_r b hb
  have hsub : ∀ i, i < b.length → Reads Tryz.prog 81 false [.agg (rowB (u.getD i [])), .agg (rowB b)] (.bool (subB (u.getD i []) b)) := fun i hi => subset_r _ b (by rw [hr i hi]; exact hb) (by rw [hr i hi])
  unfold rowB at *
  refine Reads.body (rs := [.tmp 4]) Tryz.func63 rfl Tryz.ntmps63 rfl (by simp) ?_
  generalize hQr : retQ _ _ _ = Qr
  -- block 6
  -- region 0
  refine AW.sg [0,3] [3] trivial ?_
  -- region 1
  refine AW.sg [0,3,5] [3] trivial ?_
  refine AW.seq fun K1 hK1 => ?_
  -- region 2
  refine AW.sg [3,5,8,9,10] [3] trivial ?_
  refine AW.block ?_
  refine AW.nilOwn 5 200 1 (by simp only [go_sem, reduceIte, Nat.reduceEqDiff]) ?_
  refine AW.keep [3, 5, 8, 9, 10] [3, 200] ?_
  simp only [go_sem, reduceIte, Nat.reduceEqDiff]
  -- loop 1
  refine AW.loopE (fun mm ee ss kk => ∃ (i g3 v3 g v : Nat), b.length - i = mm ∧ ee = [(3, .ptr ⟨3, g3, none⟩ 0 0), (5, .sl ⟨200, g, none⟩ 0 (nextU u b i).length none), (8, .rsl 2 (tabR u)), (9, .int .i64 b.length), (10, .int .i64 (i : Nat))] ∧ ss = [(3, some ⟨g3, v3, 2, [[.int .i64 b.length, .rsl 1 (words (setW b b.length))]]⟩), (200, some ⟨g, v, 1, ints (nats (nextU u b i))⟩)] ∧ (i ≤ b.length)) ?_ ?_
  -- init 1
  · exact ⟨_, 0, _, _, _, _, rfl, eD, eD, eT⟩
  rintro mm ee ss kk ⟨i, g3, v3, g, v, rfl, rfl, rfl, hI⟩
  generalize hQl1 : thenQ _ _ = Ql1
  -- region 3
  refine AW.sg [3,5,8,9,10,11] [3,200] trivial ?_
  refine AW.seq fun K2 hK2 => ?_
  -- cond 1
  refine AW.cn ?_ ?_
  · intro hb
    have hbr := hh i (by omega)
    have hsr := hsub i (by omega)
    have hg := hget i (by omega)
    have hms := nextU_succ u b i
    have hml := nextU_le u b i
    have htk : (ints (nats (nextU u b i))).take (nextU u b i).length = ints (nats (nextU u b i)) := List.take_of_length_le (by rw [ints_len, nats_len]; exact Nat.le_refl _)
    generalize nextU u b i = M at *
    refine AW.skip ?_
    refine hK2 _ _ _ ?_; clear hK2
    refine AW.seq fun K3 hK3 => ?_
    refine AW.block ?_
    -- region 4
    refine AW.sg [3,5,6,7,8,9,10] [3,7,200] (e3 @hg @hul @hu) ?_
    -- region 5
    refine AW.so 0 (fun ii => if ii = 2 then some (.reads false (.bool (b.getD i false))) else if ii = 7 then some (.reads false (.bool (subB (u.getD i []) b))) else none) [3,5,6,8,9,10,23] [3,200] trivial ?_
    repeat with_reducible refine cj ?_ ?_
    all_goals try first | (first | exact hbr | exact hsr | (intro hq; exact ⟨hq, hsr⟩)) | (intros; (repeat' apply And.intro) <;> first | assumption | (first | exact hbr | exact hsr | (intro hq; exact ⟨hq, hsr⟩))) | omega | exact ent (by kernel_rfl) | (intro hgd; exact absurd hgd (by decide)) | rfl | exact gD | (intro _hgd; simp_all [go_sem]; done)
    -- cond 2
    refine AW.cn ?_ ?_
    · intro hb
      rw [if_pos (by simpa using hb)] at hms
      -- region 6
      refine AW.regionK 0 (fun _ => none) [3, 5, 8, 9, 10] [3, 200] ?_
      simp only [go_sem, reduceIte, reduceCtorEq, Nat.reduceAdd, Nat.reduceMul, Nat.reduceEqDiff, Nat.reduceLT, Nat.reduceLeDiff, Nat.reduceSub, Nat.reducePow, Nat.reduceBEq, Int.reduceToNat, List.reduceReplicate, htk, ints_app, nats_app, nats_len, ints_len]
      repeat with_reducible refine cj ?_ ?_
      all_goals try first | omega | (simp [scP, scalar]; done) | exact scP_words _ | exact scP_ints _ | exact scP_bools _
      refine hK3 _ _ _ ?_; clear hK3
      -- region 7
      refine AW.rg [3,5,8,9,10] [3,200] trivial ?_
      -- again 1
      rw [← hQl1]; change Exists _
      refine ⟨_, ?hm, i + 1, ?_, ?_, ?_, ?_, rfl, ?henv, ?hstore, ?hst⟩
      case henv =>
        repeat' (first | rfl | refine env_cons ?_ ?_ | refine st_cons ?_ ?_ ?_ ?_ | refine int_eq ?_ | refine bool_eq ?_ | refine rsl_eq ?_ | refine osl_eq ?_ | refine sl_eq ?_ ?_ ?_ | refine ptr_eq ?_ ?_ ?_ | refine agg_eq ?_ | refine es_cons ?_ ?_ | refine row_cons ?_ ?_)
        all_goals (rw [hms]; try simp)
      case hstore =>
        repeat' (first | rfl | refine env_cons ?_ ?_ | refine st_cons ?_ ?_ ?_ ?_ | refine int_eq ?_ | refine bool_eq ?_ | refine rsl_eq ?_ | refine osl_eq ?_ | refine sl_eq ?_ ?_ ?_ | refine ptr_eq ?_ ?_ ?_ | refine agg_eq ?_ | refine es_cons ?_ ?_ | refine row_cons ?_ ?_)
        all_goals (rw [hms])
      case hst =>
        first | trivial | omega | (simp; done) | (simp; omega)
      case hm => omega
    · intro hb
      rw [if_neg (by cases h1 : b.getD i false <;> cases h2 : subB (u.getD i []) b <;> simp_all)] at hms
      refine AW.skip ?_
      refine hK3 _ _ _ ?_; clear hK3
      -- region 7
      refine AW.rg [3,5,8,9,10] [3,200] trivial ?_
      -- again 1
      rw [← hQl1]; change Exists _
      refine ⟨_, ?hm, i + 1, ?_, ?_, ?_, ?_, rfl, ?henv, ?hstore, ?hst⟩
      case henv =>
        repeat' (first | rfl | refine env_cons ?_ ?_ | refine st_cons ?_ ?_ ?_ ?_ | refine int_eq ?_ | refine bool_eq ?_ | refine rsl_eq ?_ | refine osl_eq ?_ | refine sl_eq ?_ ?_ ?_ | refine ptr_eq ?_ ?_ ?_ | refine agg_eq ?_ | refine es_cons ?_ ?_ | refine row_cons ?_ ?_)
        all_goals (rw [hms]; try simp)
      case hstore =>
        repeat' (first | rfl | refine env_cons ?_ ?_ | refine st_cons ?_ ?_ ?_ ?_ | refine int_eq ?_ | refine bool_eq ?_ | refine rsl_eq ?_ | refine osl_eq ?_ | refine sl_eq ?_ ?_ ?_ | refine ptr_eq ?_ ?_ ?_ | refine agg_eq ?_ | refine es_cons ?_ ?_ | refine row_cons ?_ ?_)
        all_goals (rw [hms])
      case hst =>
        first | trivial | omega | (simp; done) | (simp; omega)
      case hm => omega
  · intro hb
    -- exit 0
    refine AW.exit ?_
    rw [← hQl1]
    refine hK1 _ _ _ ?_; clear hK1
    -- region 8
    refine AW.sg [4] [200] trivial ?_
    -- ret 1
    rw [← hQr]
    refine AW.rt trivial ?_
    have hi : i = b.length := by omega
    subst hi
    have htk : (ints (nats (nextU u b b.length))).take (nextU u b b.length).length = ints (nats (nextU u b b.length)) := List.take_of_length_le (by rw [ints_len, nats_len]; exact Nat.le_refl _)
    refine Wk.of_eq ?_
    rw [List.take_of_length_le (by rw [nats_len]; exact Nat.le_refl _)]
end Go.Proofs.I

namespace Go.Proofs.I
open Go.AM Go
set_option maxRecDepth 100000
set_option maxHeartbeats 2000000
theorem pempty_r (es : List (List AV)) (n : Nat) (he : es.length = n) (hn : n ≤ 512) : Reads Tryz.prog 112 false [.agg [.rsl 2 es]] (.agg (rowB (List.replicate n false))) := by
  have h0 := (ofRow_r n [] hn (by simp) (by simp)).wk (args := [.int .i64 n, .nilsl]) (.cons (Wk.refl _) (.cons (Wk.nil 1) .nil)) (Wk.refl _)
  rw [rowL_nil] at h0
  unfold rowB at *
  simp only [List.length_replicate] at h0 ⊢
  refine Reads.body (rs := [.cell 2 27]) Tryz.func112 rfl Tryz.ntmps112 rfl (by simp) ?_
  generalize hQr : retQ _ _ _ = Qr
  -- block 1
  -- region 0
  refine AW.sg [1,2] [1,2] (@he) ?_
  -- region 1
  refine AW.so 0 (fun ii => if ii = 3 then some (.reads true (.tup [.agg [.int .i64 n, .rsl 1 (words (setW (List.replicate n false) n))], .int .i64 ((0 : Nat) : Int)])) else none) [2,3] [2,3] (@he) ?_
  repeat with_reducible refine cj ?_ ?_
  all_goals try first | (exact h0) | omega | exact ent (by kernel_rfl)
  -- region 2
  refine AW.sg [2] [2] (@he) ?_
  -- ret 1
  rw [← hQr]
  refine AW.rt (@he) ?_
  exact Wk.refl _
theorem above_r (n : Nat) (t : List (List Bool)) (hs : Sq n t) (hn : n ≤ 512) (b : List Bool) (hb : b.length = n) : Reads Tryz.prog 94 false [relB t, .agg (rowB b)] (.agg (rowB (setR n (abvF n t b)))) := by
  have h0 := pempty_r (tabR t) n (by rw [tabR_len, hs.len]) hn
  have hm := members_b b (by omega)
  have hlt : (tabR t).length = n := by rw [tabR_len, hs.len]
  have hmm : ∀ j, j ∈ memB b → j < n := fun j hj => by have := (memB_mem.1 hj).1; omega
  have hml := memB_le b
  have hu := fun a c ha hl => union_r a c ha hl
  have hae := abv_eq hs hb
  have hal := fun l hl => abvL_len hs l hl
  have hgr := fun i hi => tabR_get (t := t) (i := i) hi
  have hlen := hs.len
  generalize hM : memB b = M at *
  unfold relB rowB at *
  simp only [List.length_replicate] at h0
  refine Reads.body (rs := [.cell 4 27]) Tryz.func94 rfl Tryz.ntmps94 rfl (by simp) ?_
  generalize hQr : retQ _ _ _ = Qr
  -- block 2
  -- region 0
  refine AW.sg [2,3,4] [2,3,4] (e2 @nats_len @ints_len) ?_
  -- region 1
  refine AW.so 0 (fun ii => if ii = 1 then some (.reads false (.agg [.int .i64 n, .rsl 1 (words (setW (List.replicate n false) n))])) else none) [2,3,4,5] [2,3,4,5] (e2 @nats_len @ints_len) ?_
  repeat with_reducible refine cj ?_ ?_
  all_goals try first | (exact h0) | omega | exact ent (by kernel_rfl)
  -- region 2
  refine AW.so 0 (fun ii => if ii = 1 then some (.reads false (.tup [.rsl 1 (ints (nats M)), .int .i64 ((0 : Nat) : Int)])) else none) [2,4,5,6] [2,4,5] (e2 @nats_len @ints_len) ?_
  repeat with_reducible refine cj ?_ ?_
  all_goals try first | (exact hm) | omega | exact ent (by kernel_rfl)
  refine AW.seq fun K1 hK1 => ?_
  -- region 3
  refine AW.sg [2,4,5,17,18,19] [2,4,5] (e2 @nats_len @ints_len) ?_
  refine AW.block ?_
  -- loop 1
  refine AW.loopE (fun mm ee ss kk => ∃ (k g2 v2 g4 v4 g5 v5 : Nat), M.length - k = mm ∧ ee = [(2, .ptr ⟨2, g2, none⟩ 0 0), (4, .ptr ⟨4, g4, none⟩ 0 0), (5, .ptr ⟨5, g5, none⟩ 0 0), (17, .rsl 1 (ints (nats M))), (18, .int .i64 M.length), (19, .int .i64 (k : Nat))] ∧ ss = [(2, some ⟨g2, v2, 1, [[.rsl 2 (tabR t)]]⟩), (4, some ⟨g4, v4, 2, [[.int .i64 0, .nilsl]]⟩), (5, some ⟨g5, v5, 2, [[.int .i64 (abvL n t (M.take k)).length, .rsl 1 (words (setW (abvL n t (M.take k)) (abvL n t (M.take k)).length))]]⟩)] ∧ (k ≤ M.length)) ?_ ?_
  -- init 1
  · refine ⟨_, 0, ?_, ?_, ?_, ?_, ?_, ?_, rfl, ?henv, ?hstore, ?hst⟩
    case henv =>
      repeat' (first | rfl | refine env_cons ?_ ?_ | refine st_cons ?_ ?_ ?_ ?_ | refine int_eq ?_ | refine bool_eq ?_ | refine rsl_eq ?_ | refine osl_eq ?_ | refine sl_eq ?_ ?_ ?_ | refine ptr_eq ?_ ?_ ?_ | refine agg_eq ?_ | refine es_cons ?_ ?_ | refine row_cons ?_ ?_)
      all_goals (first | (simp; done) | omega | (simp; omega))
    case hstore =>
      repeat' (first | rfl | refine env_cons ?_ ?_ | refine st_cons ?_ ?_ ?_ ?_ | refine int_eq ?_ | refine bool_eq ?_ | refine rsl_eq ?_ | refine osl_eq ?_ | refine sl_eq ?_ ?_ ?_ | refine ptr_eq ?_ ?_ ?_ | refine agg_eq ?_ | refine es_cons ?_ ?_ | refine row_cons ?_ ?_)
      all_goals (simp [abvL])
    case hst =>
      first | trivial | omega | (simp; done) | (simp; omega)
  rintro mm ee ss kk ⟨k, g2, v2, g4, v4, g5, v5, rfl, rfl, rfl, hI⟩
  generalize hQl1 : thenQ _ _ = Ql1
  -- region 4
  refine AW.sg [2,4,5,17,18,19,20] [2,4,5] (e2 @nats_len @ints_len) ?_
  refine AW.seq fun K2 hK2 => ?_
  -- cond 1
  refine AW.cn ?_ ?_
  · intro hb
    obtain ⟨q, hq⟩ := getI (l := M) (j := k) (by omega)
    have hgq : (ints (nats M)).getD k [] = [.int .i64 (q : Nat)] := ints_get (by simp [nats, hq])
    have hqn := hmm q (List.mem_of_getElem? hq)
    have hgt := hgr q (by omega)
    have hqr := hs.rowLen hqn
    have hak := hal (M.take k) (fun i hi => hmm i (List.mem_of_mem_take hi))
    have huk := hu (abvL n t (M.take k)) (rowT t q) (by omega) (by omega)
    have hts : M.take (k + 1) = M.take k ++ [q] := by obtain ⟨h1, h2⟩ := List.getElem?_eq_some_iff.1 hq; rw [List.take_succ_eq_append_getElem h1, h2]
    have hsn := abvL_snoc n t (M.take k) q
    rw [← hts] at hsn
    rw [← hsn] at huk
    refine AW.skip ?_
    refine hK2 _ _ _ ?_; clear hK2
    refine AW.seq fun K3 hK3 => ?_
    refine AW.block ?_
    -- region 5
    refine AW.sg [2,4,5,9,17,18,19] [2,4,5] (e3 @nats_len @ints_len @hgq) ?_
    -- region 6
    refine AW.rd mixed 0 (fun ii => if ii = 6 then some (.reads false (.tup [.agg [.int .i64 (abvL n t (M.take (k + 1))).length, .rsl 1 (words (setW (abvL n t (M.take (k + 1))) (abvL n t (M.take (k + 1))).length))], .int .i64 ((0 : Nat) : Int)])) else none) [2,4,5,17,18,19] [2,4,5] (e3 @nats_len @ints_len @hgt) ?_
    repeat with_reducible refine cj ?_ ?_
    all_goals try first | (first | exact huk | exact ⟨rfl, huk⟩) | omega | exact chk (by kernel_rfl) | exact ent (by kernel_rfl)
    refine hK3 _ _ _ ?_; clear hK3
    -- region 7
    refine AW.rg [2,4,5,17,18,19] [2,4,5] (e2 @nats_len @ints_len) ?_
    -- again 1
    rw [← hQl1]; change Exists _
    exact ⟨_, eO, k + 1, _, _, _, _, _, _, rfl, eD, eD, eT⟩
  · intro hb
    -- exit 0
    refine AW.kx [4,5] [4,5] ?_
    rw [← hQl1]
    refine hK1 _ _ _ ?_; clear hK1
    -- region 8
    refine AW.sg [4] [4] (e2 @nats_len @ints_len) ?_
    -- ret 1
    rw [← hQr]
    refine AW.rt (e2 @nats_len @ints_len) ?_
    have hk : k = M.length := by omega
    subst hk
    rw [List.take_of_length_le (Nat.le_refl _), hae]
    exact Wk.refl _
theorem up_g (n : Nat) (t : List (List Bool)) (hs : Sq n t) (hn : n ≤ 512) (hp : poB n t = true) (b : List Bool) (hb : b.length = n) : Reads Tryz.prog 68 false [relB t, .agg (rowB b)] (.tup [.agg (rowB (upT n t b)), .int .i64 ((0 : Nat) : Int)]) := by
  have h := pmatch_t n t hs hn hp b hb
  have ha := above_r n t hs hn b hb
  have hu := union_r b (setR n (abvF n t b)) (by omega) (by rw [setR_len, hb])
  rw [up_eq hb] at hu
  unfold relB rowB at *
  refine Reads.body (rs := [.cell 4 27, .tmp 5]) Tryz.func68 rfl Tryz.ntmps68 rfl (by simp) ?_
  generalize hQr : retQ _ _ _ = Qr
  -- block 5
  -- region 0
  refine AW.sg [2,3,4] [2,3,4] trivial ?_
  refine AW.seq fun K1 hK1 => ?_
  -- region 1
  refine AW.so 0 (fun ii => if ii = 2 then some (.reads false (.bool true)) else none) [2,3,4,9] [2,3,4] trivial ?_
  repeat with_reducible refine cj ?_ ?_
  all_goals try first | (exact h) | omega | exact ent (by kernel_rfl)
  -- cond 1
  refine AW.cn ?_ ?_
  · intro hb
    simp at hb
  · intro hb
    refine AW.skip ?_
    refine hK1 _ _ _ ?_; clear hK1
    -- region 3
    refine AW.sd mixed 0 (fun ii => if ii = 3 then some (.reads false (.agg [.int .i64 (setR n (abvF n t b)).length, .rsl 1 (words (setW (setR n (abvF n t b)) (setR n (abvF n t b)).length))])) else if ii = 4 then some (.reads false (.tup [.agg [.int .i64 (upT n t b).length, .rsl 1 (words (setW (upT n t b) (upT n t b).length))], .int .i64 ((0 : Nat) : Int)])) else none) [4,5] [4] trivial ?_
    repeat with_reducible refine cj ?_ ?_
    all_goals try first | (first | exact ha | exact hu | exact ⟨rfl, ha⟩ | exact ⟨rfl, hu⟩) | omega | exact chk (by kernel_rfl) | exact ent (by kernel_rfl)
    -- ret 2
    rw [← hQr]
    refine AW.rt trivial ?_
    exact Wk.refl _
theorem down_g (n : Nat) (t : List (List Bool)) (hs : Sq n t) (hn : n ≤ 512) (hp : poB n t = true) (b : List Bool) (hb : b.length = n) : Reads Tryz.prog 36 false [relB t, .agg (rowB b)] (.tup [.agg (rowB (upT n (invT n t) b)), .int .i64 ((0 : Nat) : Int)]) := by
  have h := pmatch_t n t hs hn hp b hb
  have hi := inverse_g n t hs hn
  have hu := up_g n (invT n t) Sq.inv hn ((poB_iff Sq.inv).2 ((poB_iff hs).1 hp).inv) b hb
  unfold relB rowB at *
  refine Reads.body (rs := [.cell 4 27, .tmp 5]) Tryz.func36 rfl Tryz.ntmps36 rfl (by simp) ?_
  generalize hQr : retQ _ _ _ = Qr
  -- block 6
  -- region 0
  refine AW.sg [2,3,4] [2,3,4] trivial ?_
  refine AW.seq fun K1 hK1 => ?_
  -- region 1
  refine AW.so 0 (fun ii => if ii = 2 then some (.reads false (.bool true)) else none) [2,3,4,11] [2,3,4] trivial ?_
  repeat with_reducible refine cj ?_ ?_
  all_goals try first | (exact h) | omega | exact ent (by kernel_rfl)
  -- cond 1
  refine AW.cn ?_ ?_
  · intro hb
    simp at hb
  · intro hb
    refine AW.skip ?_
    refine hK1 _ _ _ ?_; clear hK1
    -- region 3
    refine AW.so 0 (fun ii => if ii = 1 then some (.reads false (.tup [.agg [.rsl 2 (tabR (invT n t))], .int .i64 ((0 : Nat) : Int)])) else none) [3,4,6] [3,4,6] trivial ?_
    repeat with_reducible refine cj ?_ ?_
    all_goals try first | (exact hi) | omega | exact ent (by kernel_rfl)
    -- region 4
    refine AW.so 0 (fun ii => if ii = 2 then some (.reads false (.tup [.agg [.int .i64 (upT n (invT n t) b).length, .rsl 1 (words (setW (upT n (invT n t) b) (upT n (invT n t) b).length))], .int .i64 ((0 : Nat) : Int)])) else none) [4,5] [4] trivial ?_
    repeat with_reducible refine cj ?_ ?_
    all_goals try first | (exact hu) | omega | exact ent (by kernel_rfl)
    -- ret 2
    rw [← hQr]
    refine AW.rt trivial ?_
    exact Wk.refl _
end Go.Proofs.I

/- A set's text belongs to it alone. -/
namespace Go.Proofs.I
open Go.AM Go
theorem hexc_inj : ∀ a b : Fin 16, I.hexc a.1 = I.hexc b.1 → a = b := by decide
theorem hexc_ne : ∀ a : Fin 16, I.hexc a.1 ≠ 46 := by decide
theorem hexL_val : ∀ (k x y : Nat), x < 16 ^ (k + 1) → y < 16 ^ (k + 1) → (∀ j, j ≤ k → x / 16 ^ j % 16 = y / 16 ^ j % 16) → x = y
  | 0, x, y, hx, hy, h => by
    have := h 0 (Nat.le_refl _)
    simp at hx hy this
    omega
  | k + 1, x, y, hx, hy, h => by
    have h0 := h 0 (Nat.zero_le _)
    have ih := hexL_val k (x / 16) (y / 16) (by rw [Nat.pow_succ] at hx; omega) (by rw [Nat.pow_succ] at hy; omega) fun j hj => by
      have := h (j + 1) (by omega)
      rwa [Nat.pow_succ, Nat.mul_comm, ← Nat.div_div_eq_div_mul, ← Nat.div_div_eq_div_mul] at this
    simp at h0
    omega
theorem hexK_lt : ∀ (n x : Nat), x < 16 ^ n → x < 16 ^ (I.hexK n x + 1)
  | 0, x, h => by simp at h; subst h; simp [I.hexK]
  | n + 1, x, h => by
    unfold I.hexK
    split
    · simpa
    · have := hexK_lt n (x / 16) (by rw [Nat.pow_succ] at h; omega)
      rw [Nat.pow_succ]
      omega
theorem hexT_inj {x y : Nat} (hx : x < 18446744073709551616) (hy : y < 18446744073709551616) (h : I.hexT x = I.hexT y) : x = y := by
  unfold I.hexT at h
  have h1 := hexK_lt 17 x (Nat.lt_of_lt_of_le hx (by decide))
  have h2 := hexK_lt 17 y (Nat.lt_of_lt_of_le hy (by decide))
  have hl := congrArg List.length h
  simp only [I.hexL, List.length_map, List.length_range] at hl
  have hk : I.hexK 17 x = I.hexK 17 y := by omega
  rw [← hk] at h h2
  generalize I.hexK 17 x = k at *
  refine hexL_val k x y h1 h2 fun j hj => ?_
  have := congrArg (fun l => l[k - j]?) h
  simp only [I.hexL, List.getElem?_map, List.getElem?_range (show k - j < k + 1 by omega), Option.map_some, Option.some.injEq, show k - (k - j) = j by omega] at this
  have := hexc_inj ⟨x / 16 ^ j % 16, Nat.mod_lt _ (by decide)⟩ ⟨y / 16 ^ j % 16, Nat.mod_lt _ (by decide)⟩ this
  exact congrArg Fin.val this
theorem hexT_dot (x : Nat) : ∀ c ∈ I.hexT x, c ≠ 46 := fun c hc => by
  unfold I.hexT I.hexL at hc
  obtain ⟨j, _, rfl⟩ := List.mem_map.1 hc
  exact hexc_ne ⟨_, Nat.mod_lt _ (by decide)⟩
theorem dot_split : ∀ {a b r s : List UInt8} (_ : ∀ c ∈ a, c ≠ 46) (_ : ∀ c ∈ b, c ≠ 46), a ++ 46 :: r = b ++ 46 :: s → a = b ∧ r = s
  | [], [], r, s, _, _, h => by simp at h; exact ⟨rfl, h⟩
  | [], y :: b, r, s, _, hb, h => by simp at h; exact absurd h.1.symm (hb y (by simp))
  | x :: a, [], r, s, ha, _, h => by simp at h; exact absurd h.1 (ha x (by simp))
  | x :: a, y :: b, r, s, ha, hb, h => by
    simp only [List.cons_append, List.cons.injEq] at h
    obtain ⟨h1, h2⟩ := dot_split (fun c hc => ha c (by simp [hc])) (fun c hc => hb c (by simp [hc])) h.2
    exact ⟨by rw [h.1, h1], h2⟩
theorem textL_cons (x : Nat) (ws : List Nat) : I.textL (x :: ws) = I.hexT x ++ 46 :: I.textL ws := by simp [I.textL]
theorem textL_inj : ∀ {ws vs : List Nat} (_ : ∀ x ∈ ws, x < 18446744073709551616) (_ : ∀ x ∈ vs, x < 18446744073709551616), I.textL ws = I.textL vs → ws = vs
  | [], [], _, _, _ => rfl
  | [], y :: vs, _, _, h => by rw [textL_cons] at h; simp [I.textL] at h
  | x :: ws, [], _, _, h => by rw [textL_cons] at h; simp [I.textL] at h
  | x :: ws, y :: vs, hw, hv, h => by
    rw [textL_cons, textL_cons] at h
    obtain ⟨h1, h2⟩ := dot_split (hexT_dot x) (hexT_dot y) h
    rw [hexT_inj (hw x (by simp)) (hv y (by simp)) h1, textL_inj (fun z hz => hw z (by simp [hz])) (fun z hz => hv z (by simp [hz])) h2]
def keyB (b : List Bool) : ByteArray := ⟨(I.textL ((setW b b.length).map Int.toNat)).toArray⟩
theorem keyB_inj {a b : List Bool} (hl : b.length = a.length) (h : keyB a = keyB b) : a = b := by
  unfold keyB at h
  have h1 : I.textL ((setW a a.length).map Int.toNat) = I.textL ((setW b b.length).map Int.toNat) := by
    have := congrArg (fun z : ByteArray => z.data.toList) h
    simpa using this
  have hlt : ∀ c : List Bool, ∀ x ∈ (setW c c.length).map Int.toNat, x < 18446744073709551616 := fun c x hx => by
    obtain ⟨y, hy, rfl⟩ := List.mem_map.1 hx
    have := okW_mem (setW_ok c) hy
    omega
  have h2 := textL_inj (hlt a) (hlt b) h1
  refine row_words hl (List.ext_getElem (by have := congrArg List.length h2; simpa using this) fun i h3 h4 => ?_)
  have h5 := congrArg (fun l => l[i]?) h2
  simp only [List.getElem?_map, List.getElem?_eq_getElem h3, List.getElem?_eq_getElem h4, Option.map_some, Option.some.injEq] at h5
  have := okW_mem (setW_ok a) (List.getElem_mem h3)
  have := okW_mem (setW_ok b) (List.getElem_mem h4)
  omega
def kvS (fs : List (List Bool)) : List (ByteArray × List Bool) := fs.map fun b => (keyB b, b)
def foundT (fs : List (List Bool)) : List (List AV) := mapS (kvS fs)
theorem foundT_put {n : Nat} {b : List Bool} (hb : b.length = n) : ∀ {fs : List (List Bool)} (_ : ∀ a ∈ fs, a.length = n), mapPut (foundT fs) (.str (keyB b)) (.agg (rowB b)) = foundT (addB fs b)
  | [], _ => by simp [foundT, mapS, kvS, mapPut, addB]
  | a :: fs, h => by
    have ha := h a (by simp)
    have ih := foundT_put hb (fs := fs) fun x hx => h x (by simp [hx])
    show (if keyEq (.str (keyB b)) (.str (keyB a)) = true then _ else _) = _
    by_cases e : a = b
    · subst e
      rw [if_pos (show keyEq (.str (keyB a)) (.str (keyB a)) = true from (MapKept.bytes_beq _ _).2 rfl)]
      simp [foundT, mapS, kvS, addB]
    · have hk : keyEq (.str (keyB b)) (.str (keyB a)) = false := by
        show (keyB b == keyB a) = false
        cases hk : keyB b == keyB a
        · rfl
        · exact absurd (keyB_inj (by omega) ((MapKept.bytes_beq _ _).1 hk).symm) e
      rw [hk, if_neg (by simp)]
      have e2 : addB (a :: fs) b = a :: addB fs b := by
        unfold addB
        by_cases hm : b ∈ fs
        · rw [if_pos (by simp [hm]), if_pos hm]
        · rw [if_neg (by simp [hm]; exact fun h => e h.symm), if_neg hm]; rfl
      rw [e2]
      show _ :: _ = _ :: _
      congr 1
theorem foundT_len (fs : List (List Bool)) : (foundT fs).length = fs.length := by simp [foundT, mapS, kvS]
theorem foundT_keys (fs : List (List Bool)) : keysWf Tryz.prog 9 (foundT fs) := by
  have h9 : Tryz.prog.underlying 9 = some .string := by kernel_rfl
  intro row hr
  obtain ⟨p, _, rfl⟩ := List.mem_map.1 hr
  exact ⟨_, _, rfl, by simp [keyOk, h9]⟩
theorem kvS_snd (fs : List (List Bool)) : (kvS fs).map (·.2) = fs := by simp [kvS, Function.comp_def]
end Go.Proofs.I

namespace Go.Proofs.I
open Go.AM Go
set_option maxRecDepth 100000
set_option maxHeartbeats 4000000
theorem flt_found (fs : List (List Bool)) : (foundT fs).map (fun row => row.map flt) = foundT fs := map_flt fun row hr c hc => by
  obtain ⟨p, _, rfl⟩ := List.mem_map.1 hr
  simp only [List.mem_cons, List.not_mem_nil, or_false] at hc
  rcases hc with rfl | rfl
  · rfl
  · unfold rowB; simp [isMv, isMv1]
theorem values_u (fs : List (List Bool)) (g v : Nat) : Upd Tryz.prog 85 [(0, some ⟨g, v, mapSz, foundT fs⟩)] [.mp ⟨0, g, none⟩] (fun k => .fn 107 [.ptr ⟨1, k, none⟩ 0 0])
    (fun k => [(0, some ⟨g, k, mapSz, foundT fs⟩), (1, some ⟨k, k, 1, [[.mp ⟨0, g, none⟩]]⟩)]) := by
  refine Upd.of_body (rs := [.tmp 2]) Tryz.func85 rfl Tryz.ntmps85 rfl (by simp) ?_
  intro k0 k hk0 hk1
  generalize hQr : retQ _ _ _ = Qr
  -- block 1
  -- region 0
  refine AW.so 100 (fun _ => none) [1] [0,101] trivial ?_
  -- region 1
  refine AW.so 100 (fun _ => none) [2] [0,101] trivial ?_
  -- ret 1
  rw [← hQr]
  refine AW.rt trivial ?_
  refine ⟨[(0, 0, false), (101, 1, true)], ?_⟩
  simp only [go_sem, reduceIte, Nat.reduceEqDiff, flt_found]
  exact ⟨rfl, rfl⟩
theorem textB_r (b : List Bool) (hb : b.length ≤ 512) : Reads Tryz.prog 83 false [.agg (rowB b)] (.str (keyB b)) := by
  have h := text_r b.length (setW b b.length) (setW_ok b) (by rw [setW_len']; have := wordsN_rng (n := (b.length : Int)) (by omega); omega)
  exact h
/-- All ideals, level by level; none if there are more than 5000. -/
def levV (u : List (List Bool)) (n : Nat) : AV := if (allU u n).length ≤ 5000 then .tup [.rsl 2 (tabR (allU u n)), .bool true] else .tup [.nilsl, .bool false]
theorem sortedF_u (n : Nat) (hn : n ≤ 512) (fs : List (List Bool)) (hlen : ∀ b ∈ fs, b.length = n) (hnd : fs.Nodup) (hl : fs.length ≤ 1000000) (g0 v0 g1 v1 : Nat) :
    Upd Tryz.prog 84 [(0, some ⟨g0, v0, 1, [[.mp ⟨1, g1, none⟩]]⟩), (1, some ⟨g1, v1, mapSz, foundT fs⟩)] [.fn 107 [.ptr ⟨0, g0, none⟩ 0 0], .fn 86 []] (fun _ => .rsl 2 (tabR (sortS fs))) (fun _ => []) := by
  have h := sorted_u n hn (kvS fs) (fun p hp => by obtain ⟨b, hb, rfl⟩ := List.mem_map.1 hp; exact hlen b hb) (by rw [kvS_snd]; exact hnd) (by simpa [kvS] using hl) g0 v0 g1 v1
  rw [kvS_snd] at h
  exact h
theorem levels_r (n : Nat) (t : List (List Bool)) (hs : Sq n t) (hn : n ≤ 512) : Reads Tryz.prog 56 false [relB t] (levV (invT n t) n) := by
  have hbel := below_r n t hs hn
  have hu : Sq n (invT n t) := Sq.inv
  have hul := hu.len
  have htl := tabR_len t
  have htn := hs.len
  have h0 := (ofRow_r n [] hn (by simp) (by simp)).wk (args := [.int .i64 n, .nilsl]) (.cons (Wk.refl _) (.cons (Wk.nil 1) .nil)) (Wk.refl _)
  rw [rowL_nil] at h0
  have hur : ∀ i, i < n → ((invT n t).getD i []).length = n := fun i hi => hu.rowLen hi
  generalize invT n t = u at *
  have hlL := lvlK_len u n
  unfold relB at *
  unfold rowB at h0
  rw [List.length_replicate] at h0
  refine Reads.body (rs := [.tmp 2, .tmp 3]) Tryz.func56 rfl Tryz.ntmps56 rfl (by simp) ?_
  generalize hQr : retQ _ _ _ = Qr
  -- block 2
  -- region 0
  refine AW.sg [1] [1] trivial ?_
  -- region 1
  refine AW.so 0 (fun ii => if ii = 1 then some (.reads false (.rsl 2 (tabR u))) else none) [1,4] [1] trivial ?_
  repeat with_reducible refine cj ?_ ?_
  all_goals try first | (exact hbel) | omega | exact ent (by kernel_rfl)
  -- region 2
  refine AW.so 0 (fun ii => if ii = 3 then some (.reads true (.tup [.agg [.int .i64 n, .rsl 1 (words (setW (List.replicate n false) n))], .int .i64 ((0 : Nat) : Int)])) else none) [4,5] [5] (e2 @htl @htn) ?_
  repeat with_reducible refine cj ?_ ?_
  all_goals try first | (exact h0) | omega | exact ent (by kernel_rfl)
  -- region 3
  refine AW.sg [4,7] [26] trivial ?_
  -- region 4
  refine AW.sg [4,7,8] [26] trivial ?_
  refine AW.seq fun K1 hK1 => ?_
  refine AW.block ?_
  refine AW.nilOwn 8 200 2 (by simp only [go_sem, reduceIte, Nat.reduceEqDiff]) ?_
  refine AW.freezeK [26] [7] [4, 7, 8] [200] ?_
  simp only [go_sem, reduceIte, Nat.reduceEqDiff]
  refine AW.keep [4, 7, 8] [200] ?_
  simp only [go_sem, reduceIte, Nat.reduceEqDiff]
  -- loop 1
  refine AW.loopE (fun mm ee ss kk => ∃ (k g v : Nat), n + 1 - k = mm ∧ ee = [(4, .rsl 2 (tabR u)), (7, .rsl 2 (tabR (lvlK u n k))), (8, .sl ⟨200, g, none⟩ 0 (outK u n k).length none)] ∧ ss = [(200, some ⟨g, v, 2, tabR (outK u n k)⟩)] ∧ ((outK u n (k + 1)).length ≤ 5000)) ?_ ?_
  -- init 1
  · refine ⟨_, 0, ?_, ?_, rfl, ?henv, ?hstore, ?hst⟩
    case henv =>
      repeat' (first | rfl | refine env_cons ?_ ?_ | refine st_cons ?_ ?_ ?_ ?_ | refine int_eq ?_ | refine bool_eq ?_ | refine rsl_eq ?_ | refine osl_eq ?_ | refine sl_eq ?_ ?_ ?_ | refine ptr_eq ?_ ?_ ?_ | refine agg_eq ?_ | refine es_cons ?_ ?_ | refine row_cons ?_ ?_)
      all_goals (first | (simp [lvlK, tabR, rowB, outK]; done) | skip)
    case hstore =>
      repeat' (first | rfl | refine env_cons ?_ ?_ | refine st_cons ?_ ?_ ?_ ?_ | refine int_eq ?_ | refine bool_eq ?_ | refine rsl_eq ?_ | refine osl_eq ?_ | refine sl_eq ?_ ?_ ?_ | refine ptr_eq ?_ ?_ ?_ | refine agg_eq ?_ | refine es_cons ?_ ?_ | refine row_cons ?_ ?_)
      all_goals (first | (simp; done) | omega | (simp; omega))
    case hst =>
      simp [outK, lvlK]
  rintro mm ee ss kk ⟨k, g, v, rfl, rfl, rfl, hI⟩
  generalize hQl1 : thenQ _ _ = Ql1
  have hLl := tabR_len (lvlK u n k)
  have hok := outK_succ u n k
  have hkl := congrArg List.length hok
  rw [List.length_append] at hkl
  have hOl := tabR_len (outK u n k)
  have htk : (tabR (outK u n k)).take (outK u n k).length = tabR (outK u n k) := List.take_of_length_le (by rw [hOl]; exact Nat.le_refl _)
  have hap : tabR (outK u n k) ++ tabR (lvlK u n k) = tabR (outK u n (k + 1)) := by rw [hok]; simp [tabR]
  refine AW.seq fun K2 hK2 => ?_
  -- region 5
  refine AW.sg [4,7,8,29] [200] (@hLl) ?_
  -- cond 1
  refine AW.cn ?_ ?_
  · intro hb
    obtain ⟨b0, hb0⟩ := List.exists_mem_of_length_pos (l := lvlK u n k) (by omega)
    have hkn : k ≤ n := lvlK_le hb0
    have hge := allU_ge u n (k + 2)
    rw [outK_succ, List.length_append] at hge
    have hO1 := tabR_len (outK u n (k + 1))
    refine AW.skip ?_
    refine hK2 _ _ _ ?_; clear hK2
    refine AW.block ?_
    -- region 6
    refine AW.sg [4,7,8] [200] (e3 @htk @hap @hLl) ?_
    repeat with_reducible refine cj ?_ ?_
    all_goals try first | (exact scP_tabS _) | omega | (simp [scP, scalar]; done) | exact scP_words _ | exact scP_ints _ | exact scP_bools _
    -- region 7
    refine AW.sg [4,7,8,9] [33,200] trivial ?_
    refine AW.seq fun K3 hK3 => ?_
    -- region 8
    refine AW.sg [4,8,9,34,35,36] [33,200] (@hLl) ?_
    refine AW.block ?_
    -- loop 2
    refine AW.loopE (fun mm ee ss kk => ∃ (i g v m mv : Nat), (lvlK u n k).length - i = mm ∧ ee = [(4, .rsl 2 (tabR u)), (8, .sl ⟨200, g, none⟩ 0 (outK u n (k + 1)).length none), (9, .mp ⟨33, m, none⟩), (34, .rsl 2 (tabR (lvlK u n k))), (35, .int .i64 (lvlK u n k).length), (36, .int .i64 (i : Nat))] ∧ ss = [(33, some ⟨m, mv, mapSz, foundT (fnd u (lvlK u n k) i)⟩), (200, some ⟨g, v, 2, tabR (outK u n (k + 1))⟩)] ∧ (i ≤ (lvlK u n k).length ∧ (outK u n (k + 1)).length + (fnd u (lvlK u n k) i).length ≤ 5000)) ?_ ?_
    -- init 2
    · refine ⟨_, 0, ?_, ?_, ?_, ?_, rfl, ?henv, ?hstore, ?hst⟩
      case henv =>
        repeat' (first | rfl | refine env_cons ?_ ?_ | refine st_cons ?_ ?_ ?_ ?_ | refine int_eq ?_ | refine bool_eq ?_ | refine rsl_eq ?_ | refine osl_eq ?_ | refine sl_eq ?_ ?_ ?_ | refine ptr_eq ?_ ?_ ?_ | refine agg_eq ?_ | refine es_cons ?_ ?_ | refine row_cons ?_ ?_)
        all_goals (first | omega | (simp; omega))
      case hstore =>
        repeat' (first | rfl | refine env_cons ?_ ?_ | refine st_cons ?_ ?_ ?_ ?_ | refine int_eq ?_ | refine bool_eq ?_ | refine rsl_eq ?_ | refine osl_eq ?_ | refine sl_eq ?_ ?_ ?_ | refine ptr_eq ?_ ?_ ?_ | refine agg_eq ?_ | refine es_cons ?_ ?_ | refine row_cons ?_ ?_)
        all_goals (first | (simp; done) | omega | (simp; omega))
      case hst =>
        refine ⟨Nat.zero_le _, ?_⟩; simp [fnd, dedF]; exact hI
    rintro mm ee ss kk ⟨i, g, v, m, mv, rfl, rfl, rfl, hI⟩
    generalize hQl2 : thenQ _ _ = Ql2
    -- region 9
    refine AW.sg [4,8,9,34,35,36,37] [33,200] trivial ?_
    refine AW.seq fun K4 hK4 => ?_
    -- cond 2
    refine AW.cn ?_ ?_
    · intro hb
      obtain ⟨b, hbi⟩ : ∃ b, (lvlK u n k)[i]? = some b := ⟨_, List.getElem?_eq_getElem (by omega)⟩
      have hbn : b.length = n := lvlK_len u n k b (List.mem_of_getElem? hbi)
      have hgi : (tabR (lvlK u n k)).getD i [] = rowB b := by rw [tabR_get (by omega)]; show rowB ((lvlK u n k).getD i []) = _; rw [List.getD_eq_getElem?_getD, hbi]; rfl
      have hnx := next_r u b (by omega) (by omega) (by rw [hbn]; exact hur)
      have hil : i < (lvlK u n k).length := by omega
      unfold rowB at *
      refine AW.skip ?_
      refine hK4 _ _ _ ?_; clear hK4
      refine AW.seq fun K5 hK5 => ?_
      refine AW.block ?_
      -- region 10
      refine AW.sg [4,8,9,11,34,35,36] [11,33,200] (e2 @hgi @hLl) ?_
      -- region 11
      refine AW.so 0 (fun ii => if ii = 2 then some (.reads false (.rsl 1 (ints (nats (nextU u b b.length))))) else none) [4,8,9,11,34,35,36,42,43,44] [11,33,200] (e2 @nats_len @ints_len) ?_
      repeat with_reducible refine cj ?_ ?_
      all_goals try first | (exact hnx) | omega | exact ent (by kernel_rfl)
      refine AW.block ?_
      -- loop 3
      refine AW.loopE (fun mm ee ss kk => ∃ (j g v m mv p pv : Nat), (nextU u b b.length).length - j = mm ∧ ee = [(4, .rsl 2 (tabR u)), (8, .sl ⟨200, g, none⟩ 0 (outK u n (k + 1)).length none), (9, .mp ⟨33, m, none⟩), (11, .ptr ⟨11, p, none⟩ 0 0), (34, .rsl 2 (tabR (lvlK u n k))), (35, .int .i64 (lvlK u n k).length), (36, .int .i64 (i : Nat)), (42, .rsl 1 (ints (nats (nextU u b b.length)))), (43, .int .i64 (nextU u b b.length).length), (44, .int .i64 (j : Nat))] ∧ ss = [(11, some ⟨p, pv, 2, [[.int .i64 b.length, .rsl 1 (words (setW b b.length))]]⟩), (33, some ⟨m, mv, mapSz, foundT (fnd2 u (lvlK u n k) i j b)⟩), (200, some ⟨g, v, 2, tabR (outK u n (k + 1))⟩)] ∧ (j ≤ (nextU u b b.length).length ∧ (outK u n (k + 1)).length + (fnd2 u (lvlK u n k) i j b).length ≤ 5000)) ?_ ?_
      -- init 3
      · refine ⟨_, 0, ?_, ?_, ?_, ?_, ?_, ?_, rfl, ?henv, ?hstore, ?hst⟩
        case henv =>
          repeat' (first | rfl | refine env_cons ?_ ?_ | refine st_cons ?_ ?_ ?_ ?_ | refine int_eq ?_ | refine bool_eq ?_ | refine rsl_eq ?_ | refine osl_eq ?_ | refine sl_eq ?_ ?_ ?_ | refine ptr_eq ?_ ?_ ?_ | refine agg_eq ?_ | refine es_cons ?_ ?_ | refine row_cons ?_ ?_)
          all_goals (first | (simp; done) | omega | (simp; omega))
        case hstore =>
          repeat' (first | rfl | refine env_cons ?_ ?_ | refine st_cons ?_ ?_ ?_ ?_ | refine int_eq ?_ | refine bool_eq ?_ | refine rsl_eq ?_ | refine osl_eq ?_ | refine sl_eq ?_ ?_ ?_ | refine ptr_eq ?_ ?_ ?_ | refine agg_eq ?_ | refine es_cons ?_ ?_ | refine row_cons ?_ ?_)
          all_goals (rw [fnd2_zero])
        case hst =>
          refine ⟨Nat.zero_le _, ?_⟩; rw [fnd2_zero]; exact hI.2
      rintro mm ee ss kk ⟨j, g, v, m, mv, p, pv, rfl, rfl, rfl, hI⟩
      generalize hQl3 : thenQ _ _ = Ql3
      -- region 12
      refine AW.sg [4,8,9,11,34,35,36,42,43,44,45] [11,33,200] trivial ?_
      refine AW.seq fun K6 hK6 => ?_
      -- cond 3
      refine AW.cn ?_ ?_
      · intro hb
        obtain ⟨e, hej⟩ : ∃ e, (nextU u b b.length)[j]? = some e := ⟨_, List.getElem?_eq_getElem (by omega)⟩
        have hel : e < b.length := nextU_lt (List.mem_of_getElem? hej)
        have hgj : (ints (nats (nextU u b b.length))).getD j [] = [.int .i64 (e : Nat)] := by simp [ints, nats, List.getD_eq_getElem?_getD, hej]
        have hw := with_r b (by omega) e hel
        have hcl : (b.set e true).length = n := by rw [List.length_set]; exact hbn
        have hfl := fnd2_len (u := u) (lvlK_len u n k) i j hbn
        have hput := foundT_put hcl hfl
        have hkw := foundT_keys (fnd2 u (lvlK u n k) i j b)
        have hte := textB_r (b.set e true) (by omega)
        have hs2 : fnd2 u (lvlK u n k) i (j + 1) b = addB (fnd2 u (lvlK u n k) i j b) (b.set e true) := fnd2_succ (by unfold kids; rw [List.getElem?_map, hej]; rfl)
        have hle2 := fnd2_le (u := u) (n := n) (k := k) (j := j + 1) hbi
        rw [hs2] at hle2
        have hadl := addB_len (fnd2 u (lvlK u n k) i j b) (b.set e true)
        have hnl := nextU_le u b b.length
        have hfl2 := foundT_len (addB (fnd2 u (lvlK u n k) i j b) (b.set e true))
        rw [show (b.set e true).length = b.length from List.length_set] at *
        unfold rowB at *
        rw [show (b.set e true).length = b.length from List.length_set] at *
        refine AW.skip ?_
        refine hK6 _ _ _ ?_; clear hK6
        refine AW.seq fun K7 hK7 => ?_
        refine AW.block ?_
        -- region 13
        refine AW.sg [4,8,9,11,13,34,35,36,42,43,44] [11,33,200] (e3 @hgj @ints_len @nats_len) ?_
        -- region 14
        refine AW.so 0 (fun ii => if ii = 2 then some (.reads true (.tup [.agg [.int .i64 b.length, .rsl 1 (words (setW (b.set e true) b.length))], .int .i64 ((0 : Nat) : Int)])) else none) [4,8,9,11,14,34,35,36,42,43,44] [11,14,33,200] trivial ?_
        repeat with_reducible refine cj ?_ ?_
        all_goals try first | (exact hw) | omega | exact ent (by kernel_rfl)
        -- region 15
        refine AW.sd mixed 0 (fun ii => if ii = 2 then some (.reads false (.str (keyB (b.set e true)))) else none) [4,8,9,11,34,35,36,42,43,44] [11,33,200] (@hput) ?_
        repeat with_reducible refine cj ?_ ?_
        all_goals try first | (first | exact hte | exact hkw) | omega | exact chk (by kernel_rfl) | exact ent (by kernel_rfl)
        -- region 16
        refine AW.sg [4,8,9,11,34,35,36,42,43,44,63] [11,33,200] (@hfl2) ?_
        -- cond 4
        refine AW.cn ?_ ?_
        · intro hb
          -- region 17
          refine AW.sg [2,3] [] trivial ?_
          -- ret 1
          rw [← hQl3, ← hQl2, ← hQl1, ← hQr]
          refine AW.rt trivial ?_
          unfold levV
          rw [if_neg (by omega)]
          exact Wk.refl _
        · intro hb
          refine AW.skip ?_
          refine hK7 _ _ _ ?_; clear hK7
          -- region 18
          refine AW.rg [4,8,9,11,34,35,36,42,43,44] [11,33,200] trivial ?_
          -- again 3
          rw [← hQl3]; change Exists _
          refine ⟨_, ?hm, j + 1, ?_, ?_, ?_, ?_, ?_, ?_, rfl, ?henv, ?hstore, ?hst⟩
          case henv =>
            repeat' (first | rfl | refine env_cons ?_ ?_ | refine st_cons ?_ ?_ ?_ ?_ | refine int_eq ?_ | refine bool_eq ?_ | refine rsl_eq ?_ | refine osl_eq ?_ | refine sl_eq ?_ ?_ ?_ | refine ptr_eq ?_ ?_ ?_ | refine agg_eq ?_ | refine es_cons ?_ ?_ | refine row_cons ?_ ?_)
            all_goals (try simp)
          case hstore =>
            repeat' (first | rfl | refine env_cons ?_ ?_ | refine st_cons ?_ ?_ ?_ ?_ | refine int_eq ?_ | refine bool_eq ?_ | refine rsl_eq ?_ | refine osl_eq ?_ | refine sl_eq ?_ ?_ ?_ | refine ptr_eq ?_ ?_ ?_ | refine agg_eq ?_ | refine es_cons ?_ ?_ | refine row_cons ?_ ?_)
            all_goals (rw [hs2])
          case hst =>
            refine ⟨by omega, ?_⟩; rw [hs2]; omega
          case hm => omega
      · intro hb
        have hj : (kids u b).length ≤ j := by unfold kids; rw [List.length_map]; omega
        have hend := fnd2_end (u := u) hbi hj
        have hI3 := hI.2
        rw [hend] at hI3 ⊢
        -- exit 4
        refine AW.kx [4,8,9,34,35,36] [33,200] ?_
        rw [← hQl3]
        refine hK5 _ _ _ ?_; clear hK5
        -- region 19
        refine AW.rg [4,8,9,34,35,36] [33,200] trivial ?_
        -- again 2
        rw [← hQl2]; change Exists _
        exact ⟨_, eO, i + 1, _, _, _, _, rfl, eD, eD, eT⟩
    · intro hb
      have hi : i = (lvlK u n k).length := by omega
      subst hi
      have hfn := fnd_nodup u (lvlK u n k) (lvlK u n k).length
      have hfl := fnd_len (u := u) (lvlK_len u n k) (lvlK u n k).length
      have hsu := sortedF_u n hn _ hfl hfn (by omega)
      -- exit 2
      refine AW.kx [4,8,9] [33,200] ?_
      rw [← hQl2]
      refine hK3 _ _ _ ?_; clear hK3
      -- region 20
      refine AW.ro 0 (fun ii => if ii = 1 then some (.upd [33] (fun kk => [(0, some ⟨m, kk, mapSz, foundT (fnd u (lvlK u n k) (lvlK u n k).length)⟩), (1, some ⟨kk, kk, 1, [[.mp ⟨0, m, none⟩]]⟩)]) (fun kk => .fn 107 [.ptr ⟨1, kk, none⟩ 0 0])) else if ii = 2 then some (.upd [67, 33] (fun _ => []) (fun _ => .rsl 2 (tabR (sortS (fnd u (lvlK u n k) (lvlK u n k).length))))) else none) [4,7,8] [200] (@flt_found) ?_
      repeat with_reducible refine cj ?_ ?_
      all_goals try first | (first | exact values_u _ _ _ | exact hsu _ _ _ _) | omega | exact ent (by kernel_rfl)
      -- again 1
      rw [← hQl1]; change Exists _
      refine ⟨_, eO, k + 1, _, _, rfl, eD, eD, ?_⟩
      show (outK u n (k + 2)).length ≤ 5000; rw [outK_succ, List.length_append]; show _ + (lvlN u (lvlK u n k)).length ≤ _; rw [lvlN_length (lvlK_len u n k)]; omega
  · intro hb
    -- exit 0
    refine AW.kx [8] [200] ?_
    rw [← hQl1]
    refine hK1 _ _ _ ?_; clear hK1
    -- region 21
    refine AW.sg [2,3] [200] trivial ?_
    -- ret 2
    rw [← hQr]
    refine AW.rt trivial ?_
    have hnil : lvlK u n k = [] := List.eq_nil_of_length_eq_zero (by omega)
    have hall := allU_stop hnil
    unfold levV
    rw [if_pos (by rw [← hall]; omega), ← hall]
    exact Wk.of_eq (by simp only [go_sem, reduceIte, Nat.reduceEqDiff, htk, vwc_tabR])
end Go.Proofs.I

namespace Go.Proofs.I
open Go.AM Go
set_option maxRecDepth 100000
set_option maxHeartbeats 4000000
theorem setW_eqB {a b : List Bool} (hl : b.length = a.length) : (setW a a.length == setW b b.length) = decide (a = b) := by
  rw [Bool.eq_iff_iff, beq_iff_eq, decide_eq_true_eq]
  exact ⟨fun h => row_words hl h, fun h => by rw [h]⟩
theorem upT_len (n : Nat) (t : List (List Bool)) (b : List Bool) : (upT n t b).length = n := setR_len ..
theorem is_g (n : Nat) (t : List (List Bool)) (hs : Sq n t) (hn : n ≤ 512) (hp : poB n t = true) (b : List Bool) (hb : b.length = n) : Reads Tryz.prog 13 false [relB t, .agg (rowB b)] (.bool (idB n t b)) := by
  have h := down_g n t hs hn hp b hb
  have hul := upT_len n (invT n t) b
  have he := eqw_r (setW (upT n (invT n t) b) n) (setW b n) (by have := setB_len (b := upT n (invT n t) b) (by omega); rw [hul] at this; omega)
  have hq : (setW (upT n (invT n t) b) n == setW b n) = idB n t b := by
    have := setW_eqB (a := upT n (invT n t) b) (b := b) (by omega)
    rw [hul, hb] at this
    exact this
  rw [hq] at he
  unfold relB rowB at *
  rw [hul] at h
  rw [hb] at *
  generalize upT n (invT n t) b = u at *
  refine Reads.body (rs := [.tmp 4]) Tryz.func13 rfl Tryz.ntmps13 rfl (by simp) ?_
  generalize hQr : retQ _ _ _ = Qr
  -- block 1
  -- region 0
  refine AW.sg [2,3] [2,3] trivial ?_
  -- region 1
  refine AW.so 0 (fun ii => if ii = 2 then some (.reads false (.tup [.agg [.int .i64 n, .rsl 1 (words (setW u n))], .int .i64 ((0 : Nat) : Int)])) else none) [3,5,6] [3,5] trivial ?_
  repeat with_reducible refine cj ?_ ?_
  all_goals try first | (exact h) | omega | exact ent (by kernel_rfl)
  -- region 2
  refine AW.so 0 (fun ii => if ii = 7 then some (.reads false (.bool (idB n t b))) else none) [4] [] trivial ?_
  repeat with_reducible refine cj ?_ ?_
  all_goals try first | (first | exact he | exact ⟨rfl, he⟩ | (intro hh; exact ⟨hh, he⟩)) | (intros; (repeat' apply And.intro) <;> first | assumption | (first | exact he | exact ⟨rfl, he⟩ | (intro hh; exact ⟨hh, he⟩))) | omega | exact ent (by kernel_rfl) | (intro hgd; exact absurd hgd (by decide)) | rfl | exact gD | (intro _hgd; simp_all [go_sem]; done)
  -- ret 1
  rw [← hQr]
  refine AW.rt trivial ?_
  exact Wk.refl _
theorem list_ok (n : Nat) (t : List (List Bool)) (hs : Sq n t) (hn : n ≤ 512) (hp : poB n t = true) (hb : (allU (invT n t) n).length ≤ 5000) : Reads Tryz.prog 18 false [relB t] (.tup [.rsl 2 (tabR (allU (invT n t) n)), .int .i64 ((0 : Nat) : Int)]) := by
  have h := pvalid_g n t hs hn
  have hl := levels_r n t hs hn
  rw [hp] at h
  unfold levV at hl
  rw [if_pos hb] at hl
  unfold relB at *
  refine Reads.body (rs := [.tmp 2, .tmp 3]) Tryz.func18 rfl Tryz.ntmps18 rfl (by simp) ?_
  generalize hQr : retQ _ _ _ = Qr
  -- block 3
  -- region 0
  refine AW.sg [1] [1] trivial ?_
  refine AW.seq fun K1 hK1 => ?_
  -- region 1
  refine AW.so 0 (fun ii => if ii = 1 then some (.reads false (.bool true)) else none) [1,8] [1] trivial ?_
  repeat with_reducible refine cj ?_ ?_
  all_goals try first | (exact h) | omega | exact ent (by kernel_rfl)
  -- cond 1
  refine AW.cn ?_ ?_
  · intro hb
    simp at hb
  · intro hb
    refine AW.skip ?_
    refine hK1 _ _ _ ?_; clear hK1
    -- region 3
    refine AW.so 0 (fun ii => if ii = 1 then some (.reads false (.tup [.rsl 2 (tabR (allU (invT n t) n)), .bool true])) else none) [4,5] [] trivial ?_
    repeat with_reducible refine cj ?_ ?_
    all_goals try first | (exact hl) | omega | exact ent (by kernel_rfl)
    refine AW.seq fun K2 hK2 => ?_
    -- region 4
    refine AW.sg [4,15] [] trivial ?_
    -- cond 2
    refine AW.cn ?_ ?_
    · intro hb
      simp at hb
    · intro hb
      refine AW.skip ?_
      refine hK2 _ _ _ ?_; clear hK2
      -- region 6
      refine AW.sg [2,3] [] trivial ?_
      -- ret 3
      rw [← hQr]
      refine AW.rt trivial ?_
      exact Wk.refl _
theorem list_big (n : Nat) (t : List (List Bool)) (hs : Sq n t) (hn : n ≤ 512) (hp : poB n t = true) (hb : ¬ (allU (invT n t) n).length ≤ 5000) : Reads Tryz.prog 18 false [relB t] (.tup [.nilsl, .int .i64 ((16 : Nat) : Int)]) := by
  have h := pvalid_g n t hs hn
  have hl := levels_r n t hs hn
  rw [hp] at h
  unfold levV at hl
  rw [if_neg hb] at hl
  unfold relB at *
  refine Reads.body (rs := [.tmp 2, .tmp 3]) Tryz.func18 rfl Tryz.ntmps18 rfl (by simp) ?_
  generalize hQr : retQ _ _ _ = Qr
  -- block 4
  -- region 0
  refine AW.sg [1] [1] trivial ?_
  refine AW.seq fun K1 hK1 => ?_
  -- region 1
  refine AW.so 0 (fun ii => if ii = 1 then some (.reads false (.bool true)) else none) [1,8] [1] trivial ?_
  repeat with_reducible refine cj ?_ ?_
  all_goals try first | (exact h) | omega | exact ent (by kernel_rfl)
  -- cond 1
  refine AW.cn ?_ ?_
  · intro hb
    simp at hb
  · intro hb
    refine AW.skip ?_
    refine hK1 _ _ _ ?_; clear hK1
    -- region 3
    refine AW.so 0 (fun ii => if ii = 1 then some (.reads false (.tup [.nilsl, .bool false])) else none) [4,5] [] trivial ?_
    repeat with_reducible refine cj ?_ ?_
    all_goals try first | (exact hl) | omega | exact ent (by kernel_rfl)
    refine AW.seq fun K2 hK2 => ?_
    -- region 4
    refine AW.sg [4,15] [] trivial ?_
    -- cond 2
    refine AW.cn ?_ ?_
    · intro hb
      -- region 5
      refine AW.sg [2,3] [] trivial ?_
      -- ret 2
      rw [← hQr]
      refine AW.rt trivial ?_
      exact Wk.refl _
    · intro hb
      simp at hb
theorem countI_ok (es : List (List AV)) (L : List (List Bool)) (e : Int) (h : Reads Tryz.prog 18 false [.agg [.rsl 2 es]] (.tup [.rsl 2 (tabR L), .int .i64 e])) : Reads Tryz.prog 17 false [.agg [.rsl 2 es]] (.tup [.int .i64 L.length, .int .i64 e]) := by
  have hl := tabR_len L
  refine Reads.body (rs := [.tmp 2, .tmp 3]) Tryz.func17 rfl Tryz.ntmps17 rfl (by simp) ?_
  generalize hQr : retQ _ _ _ = Qr
  -- block 6
  -- region 0
  refine AW.sg [1] [1] trivial ?_
  -- region 1
  refine AW.so 0 (fun ii => if ii = 1 then some (.reads false (.tup [.rsl 2 (tabR L), .int .i64 e])) else none) [4,5] [] trivial ?_
  repeat with_reducible refine cj ?_ ?_
  all_goals try first | (exact h) | omega | exact ent (by kernel_rfl)
  -- region 2
  refine AW.sg [2,3] [] (@hl) ?_
  -- ret 1
  rw [← hQr]
  refine AW.rt trivial ?_
  exact Wk.refl _
theorem countI_nil (es : List (List AV)) (e : Int) (h : Reads Tryz.prog 18 false [.agg [.rsl 2 es]] (.tup [.nilsl, .int .i64 e])) : Reads Tryz.prog 17 false [.agg [.rsl 2 es]] (.tup [.int .i64 0, .int .i64 e]) := by
  refine Reads.body (rs := [.tmp 2, .tmp 3]) Tryz.func17 rfl Tryz.ntmps17 rfl (by simp) ?_
  generalize hQr : retQ _ _ _ = Qr
  -- block 7
  -- region 0
  refine AW.sg [1] [1] trivial ?_
  -- region 1
  refine AW.so 0 (fun ii => if ii = 1 then some (.reads false (.tup [.nilsl, .int .i64 e])) else none) [4,5] [] trivial ?_
  repeat with_reducible refine cj ?_ ?_
  all_goals try first | (exact h) | omega | exact ent (by kernel_rfl)
  -- region 2
  refine AW.sg [2,3] [] trivial ?_
  -- ret 1
  rw [← hQr]
  refine AW.rt trivial ?_
  exact Wk.refl _
theorem nextI_g (n : Nat) (t : List (List Bool)) (hs : Sq n t) (hn : n ≤ 512) (hp : poB n t = true) (b : List Bool) (hb : b.length = n) (hi : idB n t b = true) : Reads Tryz.prog 30 false [relB t, .agg (rowB b)] (.tup [.rsl 1 (ints (nats (nextU (invT n t) b n))), .int .i64 ((0 : Nat) : Int)]) := by
  have h := is_g n t hs hn hp b hb
  rw [hi] at h
  have hu : Sq n (invT n t) := Sq.inv
  have hul := hu.len
  have hbl := below_r n t hs hn
  have hx := next_r (invT n t) b (by omega) (by omega) (by rw [hb]; exact fun i hi => hu.rowLen hi)
  unfold relB rowB at *
  rw [hb] at *
  refine Reads.body (rs := [.tmp 4, .tmp 5]) Tryz.func30 rfl Tryz.ntmps30 rfl (by simp) ?_
  generalize hQr : retQ _ _ _ = Qr
  -- block 9
  -- region 0
  refine AW.sg [2,3] [2,3] trivial ?_
  refine AW.seq fun K1 hK1 => ?_
  -- region 1
  refine AW.so 0 (fun ii => if ii = 2 then some (.reads false (.bool true)) else none) [2,3,9] [2,3] trivial ?_
  repeat with_reducible refine cj ?_ ?_
  all_goals try first | (exact h) | omega | exact ent (by kernel_rfl)
  -- cond 1
  refine AW.cn ?_ ?_
  · intro hb
    simp at hb
  · intro hb
    refine AW.skip ?_
    refine hK1 _ _ _ ?_; clear hK1
    -- region 3
    refine AW.sd mixed 0 (fun ii => if ii = 1 then some (.reads false (.rsl 2 (tabR (invT n t)))) else if ii = 3 then some (.reads false (.rsl 1 (ints (nats (nextU (invT n t) b n))))) else none) [4,5] [] trivial ?_
    repeat with_reducible refine cj ?_ ?_
    all_goals try first | (first | exact hbl | exact hx) | omega | exact chk (by kernel_rfl) | exact ent (by kernel_rfl)
    -- ret 2
    rw [← hQr]
    refine AW.rt trivial ?_
    exact Wk.refl _
theorem frontier_g (n : Nat) (t : List (List Bool)) (hs : Sq n t) (hn : n ≤ 512) (hp : poB n t = true) (b : List Bool) (hbn : b.length = n) (hi : idB n t b = true) : Reads Tryz.prog 32 false [relB t, .agg (rowB b)] (.tup [.agg (rowB (frB n t b)), .int .i64 ((0 : Nat) : Int)]) := by
  have h := is_g n t hs hn hp b hbn
  rw [hi] at h
  have hm := members_b b (by omega)
  have hmm : ∀ j, j ∈ memB b → j < n := fun j hj => by have := (memB_mem.1 hj).1; omega
  have hml := memB_le b
  have hgr := fun i hi => tabR_get (t := t) (i := i) hi
  have hlen := hs.len
  have htl := tabR_len t
  have hof := ofRow_r n (nats (frN t b)) hn (by rw [nats_len]; have := List.length_filter_le (frP t b) (memB b); unfold frN; omega) (fun i hi => by
    obtain ⟨a, h1, rfl⟩ := List.mem_map.1 hi
    have := frN_lt h1
    omega)
  rw [show rowL n (nats (frN t b)) = frB n t b from rfl] at hof
  have hrow : ∀ i, i < n → (rowT t i).length = n := fun i hi => hs.rowLen hi
  have hin := fun i (hi : i < n) => inter_r (rowT t i) b (by rw [hrow i hi]; exact hn) (by rw [hrow i hi, hbn])
  have hct := fun i (hi : i < n) => count_b (List.zipWith (· && ·) (rowT t i) b) (by rw [List.length_zipWith, hrow i hi]; omega)
  have hzl : ∀ i, i < n → (List.zipWith (· && ·) (rowT t i) b).length = n := fun i hi => by rw [List.length_zipWith, hrow i hi, hbn, Nat.min_self]
  have hfe : frN t b = (memB b).filter (frP t b) := rfl
  generalize hM : memB b = M at *
  unfold relB rowB at *
  rw [hbn] at *
  refine Reads.body (rs := [.cell 4 27, .tmp 5]) Tryz.func32 rfl Tryz.ntmps32 rfl (by simp) ?_
  generalize hQr : retQ _ _ _ = Qr
  -- block 11
  -- region 0
  refine AW.sg [2,3,4] [2,3,4] trivial ?_
  refine AW.seq fun K1 hK1 => ?_
  -- region 1
  refine AW.so 0 (fun ii => if ii = 2 then some (.reads false (.bool true)) else none) [2,3,4,16] [2,3,4] trivial ?_
  repeat with_reducible refine cj ?_ ?_
  all_goals try first | (exact h) | omega | exact ent (by kernel_rfl)
  -- cond 1
  refine AW.cn ?_ ?_
  · intro hb
    simp at hb
  · intro hb
    refine AW.skip ?_
    refine hK1 _ _ _ ?_; clear hK1
    -- region 3
    refine AW.so 0 (fun ii => if ii = 1 then some (.reads false (.tup [.rsl 1 (ints (nats M)), .int .i64 ((0 : Nat) : Int)])) else none) [2,3,4,6] [2,3,4] trivial ?_
    repeat with_reducible refine cj ?_ ?_
    all_goals try first | (exact hm) | omega | exact ent (by kernel_rfl)
    -- region 4
    refine AW.sg [2,3,4,6,8] [2,3,4] trivial ?_
    refine AW.seq fun K2 hK2 => ?_
    -- region 5
    refine AW.sg [2,3,4,8,23,24,25] [2,3,4] (e2 @nats_len @ints_len) ?_
    refine AW.block ?_
    refine AW.nilOwn 8 200 1 (by simp only [go_sem, reduceIte, Nat.reduceEqDiff]) ?_
    refine AW.keep [2, 3, 4, 8, 23, 24, 25] [2, 3, 4, 200] ?_
    simp only [go_sem, reduceIte, Nat.reduceEqDiff]
    -- loop 1
    refine AW.loopE (fun mm ee ss kk => ∃ (k g2 v2 g3 v3 g4 v4 g v : Nat), M.length - k = mm ∧ ee = [(2, .ptr ⟨2, g2, none⟩ 0 0), (3, .ptr ⟨3, g3, none⟩ 0 0), (4, .ptr ⟨4, g4, none⟩ 0 0), (8, .sl ⟨200, g, none⟩ 0 ((M.take k).filter (frP t b)).length none), (23, .rsl 1 (ints (nats M))), (24, .int .i64 M.length), (25, .int .i64 (k : Nat))] ∧ ss = [(2, some ⟨g2, v2, 1, [[.rsl 2 (tabR t)]]⟩), (3, some ⟨g3, v3, 2, [[.int .i64 n, .rsl 1 (words (setW b n))]]⟩), (4, some ⟨g4, v4, 2, [[.int .i64 0, .nilsl]]⟩), (200, some ⟨g, v, 1, ints (nats ((M.take k).filter (frP t b)))⟩)] ∧ (k ≤ M.length)) ?_ ?_
    -- init 1
    · exact ⟨_, 0, _, _, _, _, _, _, _, _, rfl, eD, eD, eT⟩
    rintro mm ee ss kk ⟨k, g2, v2, g3, v3, g4, v4, g, v, rfl, rfl, rfl, hI⟩
    generalize hQl1 : thenQ _ _ = Ql1
    -- region 6
    refine AW.sg [2,3,4,8,23,24,25,26] [2,3,4,200] trivial ?_
    refine AW.seq fun K3 hK3 => ?_
    -- cond 2
    refine AW.cn ?_ ?_
    · intro hb
      obtain ⟨q, hq⟩ := getI (l := M) (j := k) (by omega)
      have hgq : (ints (nats M)).getD k [] = [.int .i64 (q : Nat)] := ints_get (by simp [nats, hq])
      have hqn := hmm q (List.mem_of_getElem? hq)
      have hgt := hgr q (by omega)
      have hzq := hzl q hqn
      have hiq := hin q hqn
      have hcq := hct q hqn
      have hrq := hrow q hqn
      have hts := take_filter_succ (p := frP t b) hq
      have hfl := List.length_filter_le (frP t b) (M.take k)
      rw [List.length_take] at hfl
      have hfp : frP t b q = decide ((memB (List.zipWith (· && ·) (rowT t q) b)).length = 0) := rfl
      rw [hzq] at hiq hcq
      rw [hrq] at *
      generalize List.zipWith (· && ·) (rowT t q) b = z at *
      generalize hFF : (M.take k).filter (frP t b) = FF at *
      have htk : (ints (nats FF)).take FF.length = ints (nats FF) := List.take_of_length_le (by rw [ints_len, nats_len]; exact Nat.le_refl _)
      refine AW.skip ?_
      refine hK3 _ _ _ ?_; clear hK3
      refine AW.seq fun K4 hK4 => ?_
      refine AW.block ?_
      -- region 7
      refine AW.sg [2,3,4,8,10,23,24,25] [2,3,4,200] (e3 @hgq @nats_len @ints_len) ?_
      -- region 8
      refine AW.sd mixed 0 (fun ii => if ii = 6 then some (.reads false (.tup [.agg [.int .i64 n, .rsl 1 (words (setW z n))], .int .i64 ((0 : Nat) : Int)])) else none) [2,3,4,8,10,11,23,24,25] [2,3,4,11,200] (e4 @hgt @htl @hlen @hrq) ?_
      repeat with_reducible refine cj ?_ ?_
      all_goals try first | (exact hiq) | omega | exact chk (by kernel_rfl) | exact ent (by kernel_rfl)
      -- region 9
      refine AW.so 0 (fun ii => if ii = 1 then some (.reads false (.int .i64 ((memB z).length : Nat))) else none) [2,3,4,8,10,23,24,25,41] [2,3,4,200] trivial ?_
      repeat with_reducible refine cj ?_ ?_
      all_goals try first | (exact hcq) | omega | exact ent (by kernel_rfl)
      -- cond 3
      refine AW.cn ?_ ?_
      · intro hb
        rw [if_pos (by rw [hfp, decide_eq_true_eq]; omega)] at hts
        -- region 10
        refine AW.regionK 0 (fun _ => none) [2, 3, 4, 8, 23, 24, 25] [2, 3, 4, 200] ?_
        simp only [go_sem, reduceIte, reduceCtorEq, Nat.reduceAdd, Nat.reduceMul, Nat.reduceEqDiff, Nat.reduceLT, Nat.reduceLeDiff, Nat.reduceSub, Nat.reducePow, Nat.reduceBEq, Int.reduceToNat, List.reduceReplicate, htk, ints_app, nats_app, nats_len, ints_len]
        repeat with_reducible refine cj ?_ ?_
        all_goals try first | omega | (simp [scP, scalar]; done) | exact scP_words _ | exact scP_ints _ | exact scP_bools _
        refine hK4 _ _ _ ?_; clear hK4
        -- region 11
        refine AW.rg [2,3,4,8,23,24,25] [2,3,4,200] trivial ?_
        -- again 1
        rw [← hQl1]; change Exists _
        refine ⟨_, ?hm, k + 1, ?_, ?_, ?_, ?_, ?_, ?_, ?_, ?_, rfl, ?henv, ?hstore, ?hst⟩
        case henv =>
          repeat' (first | rfl | refine env_cons ?_ ?_ | refine st_cons ?_ ?_ ?_ ?_ | refine int_eq ?_ | refine bool_eq ?_ | refine rsl_eq ?_ | refine osl_eq ?_ | refine sl_eq ?_ ?_ ?_ | refine ptr_eq ?_ ?_ ?_ | refine agg_eq ?_ | refine es_cons ?_ ?_ | refine row_cons ?_ ?_)
          all_goals (rw [hts]; try simp)
        case hstore =>
          repeat' (first | rfl | refine env_cons ?_ ?_ | refine st_cons ?_ ?_ ?_ ?_ | refine int_eq ?_ | refine bool_eq ?_ | refine rsl_eq ?_ | refine osl_eq ?_ | refine sl_eq ?_ ?_ ?_ | refine ptr_eq ?_ ?_ ?_ | refine agg_eq ?_ | refine es_cons ?_ ?_ | refine row_cons ?_ ?_)
          all_goals (rw [hts])
        case hst =>
          first | trivial | omega | (simp; done) | (simp; omega)
        case hm => omega
      · intro hb
        rw [if_neg (by rw [hfp, decide_eq_true_eq]; omega)] at hts
        refine AW.skip ?_
        refine hK4 _ _ _ ?_; clear hK4
        -- region 11
        refine AW.rg [2,3,4,8,23,24,25] [2,3,4,200] trivial ?_
        -- again 1
        rw [← hQl1]; change Exists _
        refine ⟨_, ?hm, k + 1, ?_, ?_, ?_, ?_, ?_, ?_, ?_, ?_, rfl, ?henv, ?hstore, ?hst⟩
        case henv =>
          repeat' (first | rfl | refine env_cons ?_ ?_ | refine st_cons ?_ ?_ ?_ ?_ | refine int_eq ?_ | refine bool_eq ?_ | refine rsl_eq ?_ | refine osl_eq ?_ | refine sl_eq ?_ ?_ ?_ | refine ptr_eq ?_ ?_ ?_ | refine agg_eq ?_ | refine es_cons ?_ ?_ | refine row_cons ?_ ?_)
          all_goals (rw [hts]; try simp)
        case hstore =>
          repeat' (first | rfl | refine env_cons ?_ ?_ | refine st_cons ?_ ?_ ?_ ?_ | refine int_eq ?_ | refine bool_eq ?_ | refine rsl_eq ?_ | refine osl_eq ?_ | refine sl_eq ?_ ?_ ?_ | refine ptr_eq ?_ ?_ ?_ | refine agg_eq ?_ | refine es_cons ?_ ?_ | refine row_cons ?_ ?_)
          all_goals (rw [hts])
        case hst =>
          first | trivial | omega | (simp; done) | (simp; omega)
        case hm => omega
    · intro hb
      have hk : k = M.length := by omega
      subst hk
      rw [List.take_of_length_le (Nat.le_refl _), ← hfe]
      have htk : (ints (nats (frN t b))).take (frN t b).length = ints (nats (frN t b)) := List.take_of_length_le (by rw [ints_len, nats_len]; exact Nat.le_refl _)
      rw [frB_len] at *
      -- exit 0
      refine AW.exit ?_
      rw [← hQl1]
      refine hK2 _ _ _ ?_; clear hK2
      -- region 12
      refine AW.so 0 (fun ii => if ii = 3 then some (.reads true (.tup [.agg [.int .i64 n, .rsl 1 (words (setW (frB n t b) n))], .int .i64 ((0 : Nat) : Int)])) else none) [4,5] [4] (@htk) ?_
      repeat with_reducible refine cj ?_ ?_
      all_goals try first | (exact hof) | omega | exact ent (by kernel_rfl)
      -- ret 2
      rw [← hQr]
      refine AW.rt trivial ?_
      exact Wk.refl _
theorem irr_g (n : Nat) (t : List (List Bool)) (hs : Sq n t) (hn : n ≤ 512) (hp : poB n t = true) (b : List Bool) (hbn : b.length = n) (hi : idB n t b = true) : Reads Tryz.prog 14 false [relB t, .agg (rowB b)] (.bool (decide ((frN t b).length = 1))) := by
  have h := frontier_g n t hs hn hp b hbn hi
  have hm := count_b (frB n t b) (by rw [frB_len]; exact hn)
  rw [memB_frB hbn] at hm
  unfold relB rowB at *
  rw [frB_len] at *
  refine Reads.body (rs := [.tmp 4]) Tryz.func14 rfl Tryz.ntmps14 rfl (by simp) ?_
  generalize hQr : retQ _ _ _ = Qr
  -- block 15
  -- region 0
  refine AW.sg [2,3] [2,3] trivial ?_
  -- region 1
  refine AW.so 0 (fun ii => if ii = 2 then some (.reads false (.tup [.agg [.int .i64 n, .rsl 1 (words (setW (frB n t b) n))], .int .i64 ((0 : Nat) : Int)])) else none) [5,6] [5] trivial ?_
  repeat with_reducible refine cj ?_ ?_
  all_goals try first | (exact h) | omega | exact ent (by kernel_rfl)
  -- region 2
  refine AW.so 0 (fun ii => if ii = 4 then some (.reads false (.int .i64 ((frN t b).length : Nat))) else none) [4] [] trivial ?_
  repeat with_reducible refine cj ?_ ?_
  all_goals try first | (first | exact hm | exact ⟨rfl, hm⟩ | (intro hh; exact ⟨hh, hm⟩)) | (intros; (repeat' apply And.intro) <;> first | assumption | (first | exact hm | exact ⟨rfl, hm⟩ | (intro hh; exact ⟨hh, hm⟩))) | omega | exact ent (by kernel_rfl) | (intro hgd; exact absurd hgd (by decide)) | rfl | exact gD | (intro _hgd; simp_all [go_sem]; done)
  -- ret 1
  rw [← hQr]
  refine AW.rt trivial ?_
  exact Wk.of_eq (congrArg AV.bool (decide_eq_decide.2 (by omega)))
end Go.Proofs.I

namespace Go.Proofs.I
open Go.AM Go
set_option maxRecDepth 100000
set_option maxHeartbeats 4000000
def exI : List (List Bool) := [[false, true, false], [false, false, false], [false, false, false]]
def exL : List (List Bool) := [[false, false, false], [true, false, false], [false, false, true], [true, true, false], [true, false, true], [true, true, true]]
def Y3 (a b c : Bool) : List (List AV) := words (setW [a, b, c] 3)
theorem rowB3 (a b c : Bool) : rowB [a, b, c] = [.int .i64 3, .rsl 1 (Y3 a b c)] := rfl
theorem exI_sq : Sq 3 exI := ⟨rfl, by decide⟩
theorem exI_po : poB 3 exI = true := by decide +kernel
theorem exI_all : allU (invT 3 exI) 3 = exL := by decide +kernel
theorem exI_next : nextU (invT 3 exI) [true, false, false] 3 = [1, 2] := by decide +kernel
theorem exI_id1 : idB 3 exI [true, false, false] = true := by decide +kernel
theorem exI_id2 : idB 3 exI [true, true, false] = true := by decide +kernel
theorem exI_id3 : idB 3 exI [true, false, true] = true := by decide +kernel
theorem exI_fr2 : frN exI [true, true, false] = [1] := by decide +kernel
theorem exI_fr3 : frN exI [true, false, true] = [0, 2] := by decide +kernel
theorem exL_long : longR (exL.map SB) := ⟨by decide, by decide +kernel⟩
theorem awake_r : Reads Tryz.prog 10 false [] (.bool true) := by
  have s1 := set_r [1] (by decide) (by decide)
  have s00 := set_r [0] (by decide) (by decide)
  have s2 := set_r [2] (by decide) (by decide)
  have s01 := set_r [0, 1] (by decide) (by decide)
  have s02 := set_r [0, 2] (by decide) (by decide)
  have s012 := set_r [0, 1, 2] (by decide) (by decide)
  have sn := (set_r [] (by decide) (by simp)).wk (args := [.nilsl]) (.cons (Wk.nil 1) .nil) (Wk.refl _)
  rw [show rowL 3 [1] = [false, true, false] from rfl] at s1
  rw [show rowL 3 [0] = [true, false, false] from rfl] at s00
  rw [show rowL 3 [2] = [false, false, true] from rfl] at s2
  rw [show rowL 3 [0, 1] = [true, true, false] from rfl] at s01
  rw [show rowL 3 [0, 2] = [true, false, true] from rfl] at s02
  rw [show rowL 3 [0, 1, 2] = [true, true, true] from rfl] at s012
  rw [show rowL 3 [] = [false, false, false] from rfl] at sn
  have hl := list_ok 3 exI exI_sq (by decide) exI_po (by rw [exI_all]; decide)
  rw [exI_all] at hl
  have hc := countI_ok _ _ _ hl
  have hx := nextI_g 3 exI exI_sq (by decide) exI_po [true, false, false] rfl exI_id1
  rw [exI_next] at hx
  have hi1 := irr_g 3 exI exI_sq (by decide) exI_po [true, true, false] rfl exI_id2
  rw [exI_fr2] at hi1
  have hi2 := irr_g 3 exI exI_sq (by decide) exI_po [true, false, true] rfl exI_id3
  rw [exI_fr3] at hi2
  have hsm := Reads.flat (rsameall_r (exL.map SB) exL_long) rfl
  rw [← tabR_SB] at hsm
  have heq := Reads.flat (eqi_refl [1, 2] (by decide)) rfl
  simp only [relB, exI, exL, tabR, List.map_cons, List.map_nil, rowB3, ints, nats] at s1 s00 s2 s01 s02 s012 sn hl hc hx hi1 hi2 hsm heq
  refine Reads.body (rs := [.tmp 0]) Tryz.func10 rfl Tryz.ntmps10 rfl (by simp) ?_
  generalize hQr : retQ _ _ _ = Qr
  -- block 1
  -- region 0
  refine AW.sg [] [] trivial ?_
  refine AW.seq fun K1 hK1 => ?_
  -- region 1
  refine AW.regionG 0 (fun ii => if ii = 1 then some (.reads true (.agg [.int .i64 3, .rsl 1 (Y3 false true false)])) else if ii = 2 then some (.reads true (.agg [.int .i64 3, .rsl 1 (Y3 false false false)])) else if ii = 3 then some (.reads true (.agg [.int .i64 3, .rsl 1 (Y3 false false false)])) else none) (fun ii => if ii = 5 then some ([12], [12]) else none) [1] [1, 12] ?_
  simp only [go_sem, reduceIte, reduceCtorEq, Nat.reduceAdd, Nat.reduceMul, Nat.reduceEqDiff, Nat.reduceLT, Nat.reduceLeDiff, Nat.reduceSub, Nat.reducePow, Nat.reduceBEq, Int.reduceToNat, List.reduceReplicate]
  repeat with_reducible refine cj ?_ ?_
  all_goals try first | (first | exact s1 | exact sn) | omega | exact ent (by kernel_rfl)
  refine hK1 _ _ _ ?_; clear hK1
  -- region 2
  refine AW.so 0 (fun ii => if ii = 1 then some (.reads false (.tup [.int .i64 6, .int .i64 ((0 : Nat) : Int)])) else none) [1,2,3] [1,12] trivial ?_
  repeat with_reducible refine cj ?_ ?_
  all_goals try first | (exact hc) | omega | exact ent (by kernel_rfl)
  -- region 3
  refine AW.so 0 (fun ii => if ii = 1 then some (.reads false (.tup [.rsl 2 [[.int .i64 3, .rsl 1 (Y3 false false false)], [.int .i64 3, .rsl 1 (Y3 true false false)], [.int .i64 3, .rsl 1 (Y3 false false true)], [.int .i64 3, .rsl 1 (Y3 true true false)], [.int .i64 3, .rsl 1 (Y3 true false true)], [.int .i64 3, .rsl 1 (Y3 true true true)]], .int .i64 ((0 : Nat) : Int)])) else none) [1,2,3,4,5] [1,12] trivial ?_
  repeat with_reducible refine cj ?_ ?_
  all_goals try first | (exact hl) | omega | exact ent (by kernel_rfl)
  -- region 4
  refine AW.sd mixed 0 (fun ii => if ii = 2 then some (.upd [26] (fun _ => []) (fun _ => .agg [.int .i64 3, .rsl 1 (Y3 true false false)])) else if ii = 3 then some (.reads false (.tup [.rsl 1 [[.int .i64 1], [.int .i64 2]], .int .i64 ((0 : Nat) : Int)])) else none) [1,2,3,4,5,6,7] [1,12] trivial ?_
  repeat with_reducible refine cj ?_ ?_
  all_goals try first | (first | exact s00.upd rfl | exact hx) | omega | exact chk (by kernel_rfl) | exact ent (by kernel_rfl)
  -- region 5
  refine AW.sd mixed 0 (fun ii => if ii = 8 then some (.reads false (.agg [.int .i64 3, .rsl 1 (Y3 false false false)])) else if ii = 10 then some (.upd [40] (fun _ => []) (fun _ => .agg [.int .i64 3, .rsl 1 (Y3 true false false)])) else if ii = 12 then some (.upd [42] (fun _ => []) (fun _ => .agg [.int .i64 3, .rsl 1 (Y3 false false true)])) else if ii = 14 then some (.upd [44] (fun _ => []) (fun _ => .agg [.int .i64 3, .rsl 1 (Y3 true true false)])) else if ii = 16 then some (.upd [46] (fun _ => []) (fun _ => .agg [.int .i64 3, .rsl 1 (Y3 true false true)])) else if ii = 18 then some (.upd [48] (fun _ => []) (fun _ => .agg [.int .i64 3, .rsl 1 (Y3 true true true)])) else if ii = 20 then some (.upd [50] (fun _ => []) (fun _ => .bool true)) else if ii = 29 then some (.upd [59] (fun _ => []) (fun _ => .bool true)) else if ii = 38 then some (.upd [68] (fun _ => []) (fun _ => .agg [.int .i64 3, .rsl 1 (Y3 true true false)])) else if ii = 39 then some (.reads false (.bool true)) else if ii = 44 then some (.upd [74] (fun _ => []) (fun _ => .agg [.int .i64 3, .rsl 1 (Y3 true false true)])) else if ii = 45 then some (.reads false (.bool false)) else none) [0] [] trivial ?_
  repeat with_reducible refine cj ?_ ?_
  all_goals try first | (first | exact sn.old | (intro hh; exact ⟨hh, sn.old⟩) | exact s00.upd rfl | exact s2.upd rfl | exact s01.upd rfl | exact s02.upd rfl | exact s012.upd rfl | exact hsm.upd rfl | exact heq.upd rfl | (intro hh; exact ⟨hh, hi1⟩) | (intro hh; exact ⟨hh, hi2⟩) | exact hi1 | exact hi2) | (intros; (repeat' apply And.intro) <;> first | assumption | (first | exact sn.old | (intro hh; exact ⟨hh, sn.old⟩) | exact s00.upd rfl | exact s2.upd rfl | exact s01.upd rfl | exact s02.upd rfl | exact s012.upd rfl | exact hsm.upd rfl | exact heq.upd rfl | (intro hh; exact ⟨hh, hi1⟩) | (intro hh; exact ⟨hh, hi2⟩) | exact hi1 | exact hi2)) | omega | exact chk (by kernel_rfl) | exact ent (by kernel_rfl) | (intro hgd; exact absurd hgd (by decide)) | rfl | exact gD | (intro _hgd; simp_all [go_sem]; done)
  -- ret 1
  rw [← hQr]
  refine AW.rt trivial ?_
  exact Wk.refl _
end Go.Proofs.I

namespace Go.Proofs.I
open Go.AM Go
set_option maxRecDepth 100000
set_option maxHeartbeats 4000000
def alone (n : Nat) (t : List (List Bool)) (i : Nat) : Bool := (!(!(minT n (invT n t)).getD i false)) && !((List.range n).any fun k => atT t k i)
end Go.Proofs.I

namespace Go.Proofs.I
open Go.AM Go
set_option maxRecDepth 100000
set_option maxHeartbeats 4000000
end Go.Proofs.I

namespace Go.Proofs.I
open Go.AM Go
set_option maxRecDepth 100000
set_option maxHeartbeats 4000000
end Go.Proofs.I

/- A map of pairs as a set; valid graphs. -/
namespace Go.AM
def edgeIn (n m : Int) (e : Int × Int) : Bool := decide (0 ≤ e.1) && decide (e.1 < n) && decide (0 ≤ e.2) && decide (e.2 < m)
theorem edgeIn_iff {n m : Int} {e : Int × Int} : edgeIn n m e = true ↔ 0 ≤ e.1 ∧ e.1 < n ∧ 0 ≤ e.2 ∧ e.2 < m := by
  simp [edgeIn, and_assoc]
def nbAdd (nb : List (List Int)) (e : Int × Int) : List (List Int) := nb.set e.1.toNat (nb.getD e.1.toNat [] ++ [e.2])
def nbOf (n : Nat) (E : List (Int × Int)) : List (List Int) := E.foldl nbAdd (List.replicate n [])
end Go.AM

/- What the search for an alternating path does to a matching. -/
namespace Go.AM
def gi (l : List Int) (i : Nat) : Int := l.getD i (-1)
def sg (s : List Bool) (r : Nat) : Prop := s.getD r false = true
abbrev nbl (nb : List (List Int)) (l : Nat) : List Int := nb.getD l []
def Cn (L R : List Int) : Prop := ∀ l r : Nat, gi L l = (r : Int) ↔ gi R r = (l : Int)
def Ed (nb : List (List Int)) (L : List Int) : Prop := ∀ l, 0 ≤ gi L l → gi L l ∈ nbl nb l
structure Suc (nb : List (List Int)) (s : List Bool) (L R : List Int) (l : Nat) (L' R' : List Int) : Prop where
  p1 : ∀ l' r : Nat, l' ≠ l → (gi L' l' = (r : Int) ↔ gi R' r = (l' : Int))
  p2 : ∃ q : Nat, ¬ sg s q ∧ (q : Int) ∈ nbl nb l ∧ gi L' l = q ∧ gi R' q = l ∧ ∀ r : Nat, gi R' r = l → r = q ∨ gi R r = l
  p3 : ∀ r, sg s r → gi R' r = gi R r
  p4 : ∀ l', l' ≠ l → (∀ r : Nat, gi R r = (l' : Int) → sg s r) → gi L' l' = gi L l'
  p5 : ∀ l', l' ≠ l → (0 ≤ gi L l' ↔ 0 ≤ gi L' l')
  p6 : ∀ r, 0 ≤ gi R r → 0 ≤ gi R' r
  p7 : Ed nb L'
structure Fai (nb : List (List Int)) (R : List Int) (row : List Int) (s s' : List Bool) : Prop where
  q1 : ∀ r, sg s r → sg s' r
  q2 : ∀ r, sg s' r → sg s r ∨ (0 ≤ gi R r ∧ ∀ x ∈ nbl nb (gi R r).toNat, sg s' x.toNat)
  q3 : ∀ x ∈ row, sg s' x.toNat
theorem Suc.mono {nb : List (List Int)} {s s2 : List Bool} {L R L' R' : List Int} {l : Nat} (h : Suc nb s2 L R l L' R') (hs : ∀ r, sg s r → sg s2 r) : Suc nb s L R l L' R' :=
  ⟨h.p1, by obtain ⟨q, h1, h2⟩ := h.p2; exact ⟨q, fun h => h1 (hs q h), h2⟩, fun r hr => h.p3 r (hs r hr), fun l' hl hr => h.p4 l' hl fun r e => hs r (hr r e), h.p5, h.p6, h.p7⟩
/-- A set of right nodes that no alternating path leaves. -/
def Tcl (nb : List (List Int)) (R : List Int) (T : Nat → Prop) : Prop := ∀ r, T r → 0 ≤ gi R r ∧ ∀ x ∈ nbl nb (gi R r).toNat, T x.toNat
theorem Tcl.same {nb : List (List Int)} {R R' : List Int} {T : Nat → Prop} (h : Tcl nb R T) (e : ∀ r, T r → gi R' r = gi R r) : Tcl nb R' T := fun r hr => by
  rw [e r hr]; exact h r hr
/-- A matching in a graph. -/
structure Mch (n m : Nat) (nb : List (List Int)) (L R : List Int) : Prop where
  hL : L.length = n
  hR : R.length = m
  hRn : ∀ r, gi R r < (n : Int)
  hLm : ∀ l, gi L l < (m : Int)
  hC : Cn L R
  hE : Ed nb L
theorem Mch.ok {n m : Nat} {nb : List (List Int)} {L R : List Int} (h : Mch n m nb L R) (h1 : nb.length = n) (h2 : ∀ row ∈ nb, ∀ r ∈ row, 0 ≤ r ∧ r < (m : Int)) : MOk n m nb (List.replicate m false) L R :=
  ⟨⟨h1, h2⟩, by simp, ⟨h.hL, fun x hx => by obtain ⟨i, hi, rfl⟩ := List.getElem_of_mem hx; have := h.hLm i; rw [gi, List.getD_eq_getElem?_getD, List.getElem?_eq_getElem hi] at this; exact this⟩,
   ⟨h.hR, fun x hx => by obtain ⟨i, hi, rfl⟩ := List.getElem_of_mem hx; have := h.hRn i; rw [gi, List.getD_eq_getElem?_getD, List.getElem?_eq_getElem hi] at this; exact this⟩⟩
/-- No alternating path leads from a free left node to a free right one. -/
def NoAug (nb : List (List Int)) (n : Nat) (L R : List Int) : Prop := ∃ T : Nat → Prop, Tcl nb R T ∧ ∀ l, l < n → gi L l < 0 → ∀ r ∈ nbl nb l, T r.toNat
end Go.AM

/- The nodes that alternating paths reach. -/
namespace Go.AM
structure RSt where
  s : List Bool
  l : List Int
  q : List Int
inductive RL (nb : List (List Int)) (n : Nat) (L R : List Int) : Nat → Prop
  | free {l : Nat} : l < n → gi L l < 0 → RL nb n L R l
  | step {l : Nat} {r : Int} {l2 : Nat} : RL nb n L R l → r ∈ nbl nb l → gi R r.toNat = (l2 : Int) → RL nb n L R l2
def RR (nb : List (List Int)) (n : Nat) (L R : List Int) (r : Nat) : Prop := ∃ l, RL nb n L R l ∧ (r : Int) ∈ nbl nb l

/-- What the search keeps. -/
structure RIv (n m : Nat) (nb : List (List Int)) (L R : List Int) (t : RSt) : Prop where
  hs : t.s.length = m
  hl : ∀ x ∈ t.l, ∃ i : Nat, x = i ∧ i < n ∧ RL nb n L R i
  hq : ∀ x ∈ t.q, ∃ r : Nat, x = r ∧ r < m ∧ RR nb n L R r ∧ sg t.s r
  hsq : ∀ r, sg t.s r → (r : Int) ∈ t.q
  hb : ∀ r, sg t.s r → 0 ≤ gi R r → gi R r ∈ t.l
  hfr : ∀ i : Nat, i < n → gi L i < 0 → (i : Int) ∈ t.l
  hlen : t.l.length + uns t.s ≤ n + m
  hlq : t.q.length + uns t.s ≤ m
structure RLe (t u : RSt) : Prop where
  hs : ∀ r, sg t.s r → sg u.s r
  hl : ∃ z, u.l = t.l ++ z
  hu : u.l.length + uns u.s ≤ t.l.length + uns t.s
theorem RLe.refl (t : RSt) : RLe t t := ⟨fun _ h => h, ⟨[], by simp⟩, Nat.le_refl _⟩
theorem RLe.trans {t u v : RSt} (h : RLe t u) (g : RLe u v) : RLe t v :=
  ⟨fun r hr => g.hs r (h.hs r hr), by obtain ⟨a, ha⟩ := h.hl; obtain ⟨b, hb⟩ := g.hl; exact ⟨a ++ b, by rw [hb, ha, List.append_assoc]⟩, Nat.le_trans g.hu h.hu⟩
/-- The reference's rounds over the edges. -/
abbrev FSt := List Bool × List Bool
/-- What the reference's rounds keep. -/
structure FIv (n m : Nat) (nb : List (List Int)) (L R : List Int) (t : FSt) : Prop where
  h1 : t.1.length = n
  h2 : t.2.length = m
  hl : ∀ i, sg t.1 i → RL nb n L R i
  hr : ∀ r, sg t.2 r → RR nb n L R r
  hb : ∀ r, sg t.2 r → 0 ≤ gi R r → sg t.1 (gi R r).toNat
  hfr : ∀ i, i < n → gi L i < 0 → sg t.1 i
/-- Neighbors and edges. -/
theorem foldl_nb_mem (E : List (Int × Int)) : ∀ (nb : List (List Int)) (l : Nat) (r : Int), (∀ e ∈ E, 0 ≤ e.1 ∧ e.1 < (nb.length : Int)) → (r ∈ nbl (E.foldl nbAdd nb) l ↔ r ∈ nbl nb l ∨ ((l : Int), r) ∈ E) := by
  induction E with
  | nil => intro nb l r _; simp
  | cons e E ih =>
    intro nb l r hE
    rw [List.foldl_cons, ih (nbAdd nb e) l r (fun x hx => by have := hE x (by simp [hx]); simpa [nbAdd] using this)]
    have he := hE e (by simp)
    have hm : r ∈ nbl (nbAdd nb e) l ↔ r ∈ nbl nb l ∨ ((l : Int), r) = e := by
      unfold nbl nbAdd
      by_cases h : e.1.toNat = l
      · subst h
        rw [Go.AM.getD_set_eq (by omega), List.mem_append]
        simp only [List.mem_singleton]
        rw [Int.toNat_of_nonneg he.1]
        constructor
        · rintro (h | rfl)
          · exact .inl h
          · exact .inr rfl
        · rintro (h | h)
          · exact .inl h
          · rw [← h]; exact .inr rfl
      · rw [Go.AM.getD_set_ne (by omega)]
        constructor
        · exact .inl
        · rintro (h1 | h1)
          · exact h1
          · rw [← h1] at h; simp at h
    rw [hm, List.mem_cons, or_assoc]
theorem nbOf_mem {n : Nat} {m : Int} {E : List (Int × Int)} (hE : ∀ e ∈ E, edgeIn n m e = true) (l : Nat) (r : Int) : r ∈ nbl (nbOf n E) l ↔ ((l : Int), r) ∈ E := by
  unfold nbOf
  rw [foldl_nb_mem E _ l r (fun e he => by have := edgeIn_iff.1 (hE e he); rw [List.length_replicate]; omega)]
  have : nbl (List.replicate n []) l = ([] : List Int) := by
    unfold nbl
    rw [List.getD_eq_getElem?_getD, List.getElem?_replicate]
    split <;> rfl
  rw [this]; simp
end Go.AM

/- Matchings, covers, and deficiencies. -/
namespace Go.AM
theorem nodup_sub {α : Type} [DecidableEq α] : ∀ {l l' : List α}, l.Nodup → (∀ x ∈ l, x ∈ l') → l.length ≤ l'.length
  | [], _, _, _ => Nat.zero_le _
  | a :: l, l', h, hs => by
    have ha := hs a (by simp)
    obtain ⟨h1, h2⟩ := List.nodup_cons.1 h
    have := nodup_sub (l := l) (l' := l'.erase a) h2 fun x hx => by
      have hne : x ≠ a := fun e => h1 (by rw [← e]; exact hx)
      exact (List.mem_erase_of_ne hne).2 (hs x (by simp [hx]))
    rw [List.length_erase_of_mem ha] at this
    have := List.length_pos_of_mem ha
    simp only [List.length_cons]; omega
def cnt (p : Nat → Bool) (n : Nat) : Nat := ((List.range n).filter p).length
theorem cnt_succ (p : Nat → Bool) (n : Nat) : cnt p (n + 1) = cnt p n + if p n = true then 1 else 0 := by
  unfold cnt
  rw [List.range_succ, List.filter_append, List.length_append]
  by_cases h : p n = true <;> simp [h]
theorem cnt_inj {p q : Nat → Bool} {n m : Nat} (f : Nat → Nat) (h1 : ∀ i, i < n → p i = true → f i < m ∧ q (f i) = true) (h2 : ∀ i j, i < n → j < n → p i = true → p j = true → f i = f j → i = j) : cnt p n ≤ cnt q m := by
  have := nodup_sub (l := ((List.range n).filter p).map f) (l' := (List.range m).filter q) ?_ ?_
  · rw [List.length_map] at this; exact this
  · refine List.pairwise_map.2 (List.Pairwise.imp_of_mem ?_ (List.Pairwise.sublist List.filter_sublist (List.nodup_range (n := n))))
    intro a b ha hb hab e
    simp only [List.mem_filter, List.mem_range] at ha hb
    exact hab (h2 a b ha.1 hb.1 ha.2 hb.2 e)
  · intro x hx
    obtain ⟨i, hi, rfl⟩ := List.mem_map.1 hx
    simp only [List.mem_filter, List.mem_range] at hi ⊢
    exact h1 i hi.1 hi.2
theorem cnt_mono {p q : Nat → Bool} {n : Nat} (h : ∀ i, i < n → p i = true → q i = true) : cnt p n ≤ cnt q n := cnt_inj (fun i => i) (fun i hi hp => ⟨hi, h i hi hp⟩) fun _ _ _ _ _ _ e => e
theorem cnt_congr {p q : Nat → Bool} {n : Nat} (h : ∀ i, i < n → p i = q i) : cnt p n = cnt q n := Nat.le_antisymm (cnt_mono fun i hi hp => by rw [← h i hi]; exact hp) (cnt_mono fun i hi hp => by rw [h i hi]; exact hp)
theorem cnt_split (p q : Nat → Bool) : ∀ n, cnt p n = cnt (fun i => p i && q i) n + cnt (fun i => p i && !q i) n
  | 0 => rfl
  | n + 1 => by
    rw [cnt_succ, cnt_succ, cnt_succ, cnt_split p q n]
    cases p n <;> cases q n <;> simp <;> omega
theorem cnt_all {p q : Nat → Bool} : ∀ {n : Nat}, (∀ i, i < n → p i = true → q i = true) → cnt q n ≤ cnt p n → ∀ i, i < n → q i = true → p i = true
  | 0, _, _, i, hi, _ => by omega
  | n + 1, h, hc, i, hi, hq => by
    have h1 := cnt_mono (n := n) fun i hi => h i (by omega)
    rw [cnt_succ, cnt_succ] at hc
    have hn := h n (by omega)
    by_cases e : i = n
    · subst e
      cases hp : p i with
      | true => rfl
      | false => rw [hp, hq] at hc; simp at hc; omega
    · refine cnt_all (n := n) (fun i hi => h i (by omega)) ?_ i (by omega) hq
      cases hp : p n <;> cases hqn : q n <;> simp [hp, hqn] at hc hn ⊢ <;> omega
section
variable {n m : Nat} {E : List (Int × Int)} {L R : List Int}
abbrev pL (L : List Int) (i : Nat) : Bool := decide (0 ≤ gi L i)
theorem NoAug.sub {nb : List (List Int)} (h : NoAug nb n L R) : ∀ r, RR nb n L R r → 0 ≤ gi R r := by
  obtain ⟨T, hT, hf⟩ := h
  have hl : ∀ l, RL nb n L R l → ∀ r ∈ nbl nb l, T r.toNat := by
    intro l hl
    induction hl with
    | free a b => exact hf _ a b
    | step a b c ih =>
      have h1 := (hT _ (ih _ b)).2
      rw [c, Int.toNat_natCast] at h1
      exact h1
  rintro r ⟨l, h1, h2⟩
  have := hT _ (hl l h1 _ h2)
  rw [Int.toNat_natCast] at this
  exact this.1
structure Rch (n m : Nat) (E : List (Int × Int)) (L R : List Int) (S T : Nat → Bool) : Prop where
  hM : Mch n m (nbOf n E) L R
  hA : NoAug (nbOf n E) n L R
  hE : ∀ e ∈ E, edgeIn n m e = true
  hS : ∀ i, S i = true ↔ RL (nbOf n E) n L R i
  hT : ∀ r, T r = true ↔ RR (nbOf n E) n L R r
variable {S T : Nat → Bool}
theorem Rch.mate (h : Rch n m E L R S T) {r : Nat} (hr : T r = true) : 0 ≤ gi R r ∧ S (gi R r).toNat = true := by
  have h1 := (h.hT r).1 hr
  have h2 := h.hA.sub r h1
  obtain ⟨l, a, b⟩ := h1
  exact ⟨h2, (h.hS _).2 (.step a b (by rw [Int.toNat_natCast]; omega))⟩
theorem Rch.free (h : Rch n m E L R S T) {i : Nat} (hi : i < n) (hs : gi L i < 0) : S i = true := (h.hS i).2 (.free hi hs)
theorem Rch.to (h : Rch n m E L R S T) {i : Nat} (hs : S i = true) (hp : 0 ≤ gi L i) : T (gi L i).toNat = true :=
  (h.hT _).2 ⟨i, (h.hS i).1 hs, by rw [Int.toNat_of_nonneg hp]; exact h.hM.hE i hp⟩
theorem Rch.cntT (h : Rch n m E L R S T) : cnt (fun i => pL L i && S i) n = cnt T m := by
  have hM := h.hM
  refine Nat.le_antisymm (cnt_inj (fun i => (gi L i).toNat) (fun i hi hp => ?_) fun i j hi hj hp hq e => ?_) (cnt_inj (fun r => (gi R r).toNat) (fun r hr hp => ?_) fun i j hi hj hp hq e => ?_)
  · simp only [pL, Bool.and_eq_true, decide_eq_true_eq] at hp
    have h1 := hM.hLm i
    exact ⟨by omega, h.to hp.2 hp.1⟩
  · simp only [pL, Bool.and_eq_true, decide_eq_true_eq] at hp hq
    have h1 := (hM.hC i (gi L i).toNat).1 (by omega)
    have h2 := (hM.hC j (gi L i).toNat).1 (by omega)
    omega
  · have h2 := h.mate hp
    have h1 := hM.hRn r
    have := (hM.hC (gi R r).toNat r).2 (by omega)
    simp only [pL, Bool.and_eq_true, decide_eq_true_eq]
    exact ⟨by omega, by omega, h2.2⟩
  · have h3 := h.mate hp
    have h4 := h.mate hq
    have h1 := (hM.hC (gi R i).toNat i).2 (by omega)
    have h2 := (hM.hC (gi R i).toNat j).2 (by omega)
    omega
theorem Rch.cntS (h : Rch n m E L R S T) : cnt (fun i => pL L i && !S i) n = cnt (fun i => !S i) n :=
  cnt_congr fun i hi => by
    cases hs : S i with
    | true => simp
    | false =>
      by_cases hp : 0 ≤ gi L i
      · simp [hp]
      · have := h.free hi (by omega); rw [hs] at this; cases this
theorem Rch.cover (h : Rch n m E L R S T) : cnt (fun i => !S i) n + cnt T m = cnt (pL L) n := by
  rw [cnt_split (pL L) S n, h.cntT, h.cntS]; omega
/-- A minimum cover has the right part of the nearest one. -/
theorem Rch.least (h : Rch n m E L R S T) {A B : Nat → Bool} (hc : ∀ e ∈ E, A e.1.toNat = true ∨ B e.2.toNat = true) (hk : cnt A n + cnt B m ≤ cnt (pL L) n) {r : Nat} (hr : T r = true) : B r = true := by
  have hM := h.hM
  have e1 := cnt_split (pL L) A n
  have e2 : cnt (fun i => pL L i && A i) n ≤ cnt A n := cnt_mono fun i _ hp => by simp at hp; exact hp.2
  have e3 : cnt (fun i => pL L i && !A i) n ≤ cnt (fun r => B r && (pL R r && !A (gi R r).toNat)) m := cnt_inj (fun i => (gi L i).toNat) (fun i hi hp => by
    simp only [pL, Bool.and_eq_true, decide_eq_true_eq] at hp
    have h1 := hM.hLm i
    have h2 := (hM.hC i (gi L i).toNat).1 (by omega)
    refine ⟨by omega, ?_⟩
    have he : (((i : Nat) : Int), gi L i) ∈ E := (nbOf_mem h.hE i _).1 (hM.hE i hp.1)
    simp only [pL, Bool.and_eq_true, decide_eq_true_eq, h2, Int.toNat_natCast]
    refine ⟨?_, by omega, hp.2⟩
    rcases hc _ he with h3 | h3
    · simp only [Int.toNat_natCast] at h3
      rw [h3] at hp; simp at hp
    · exact h3) fun i j hi hj hp hq e => by
    simp only [pL, Bool.and_eq_true, decide_eq_true_eq] at hp hq
    have h1 := (hM.hC i (gi L i).toNat).1 (by omega)
    have h2 := (hM.hC j (gi L i).toNat).1 (by omega)
    omega
  have e4 : cnt (fun r => B r && (pL R r && !A (gi R r).toNat)) m ≤ cnt B m := cnt_mono fun i _ hp => by
    simp only [Bool.and_eq_true] at hp; exact hp.1
  have f1 := cnt_all (p := fun i => pL L i && A i) (q := A) (n := n) (fun i _ hp => by simp at hp; exact hp.2) (by omega)
  have f2 := cnt_all (p := fun r => B r && (pL R r && !A (gi R r).toNat)) (q := B) (n := m) (fun i _ hp => by simp only [Bool.and_eq_true] at hp; exact hp.1) (by omega)
  have hl : ∀ l, RL (nbOf n E) n L R l → A l = false := by
    intro l hl
    induction hl with
    | @free l a b =>
      cases hA : A l with
      | false => rfl
      | true => have := f1 l a hA; simp [pL] at this; omega
    | @step l r l2 a b c ih =>
      have he := (nbOf_mem h.hE l r).1 b
      have hr := edgeIn_iff.1 (h.hE _ he)
      simp only at hr
      rcases hc _ he with h3 | h3
      · simp only [Int.toNat_natCast] at h3
        rw [h3] at ih; cases ih
      · have := f2 r.toNat (by omega) h3
        simp only [Bool.and_eq_true, Bool.not_eq_true', c, Int.toNat_natCast] at this
        exact this.2.2
  obtain ⟨l, a, b⟩ := (h.hT r).1 hr
  have he := (nbOf_mem h.hE l r).1 b
  rcases hc _ he with h3 | h3
  · simp only [Int.toNat_natCast] at h3
    rw [hl l a] at h3; cases h3
  · simpa using h3
/-- The neighbors of a set. -/
def nbX (E : List (Int × Int)) (X : Nat → Bool) (r : Nat) : Bool := E.any fun e => X e.1.toNat && decide (e.2 = (r : Int))
theorem nbX_iff {X : Nat → Bool} {r : Nat} : nbX E X r = true ↔ ∃ e ∈ E, X e.1.toNat = true ∧ e.2 = (r : Int) := by
  simp [nbX]
theorem Rch.hall (h : Rch n m E L R S T) (X : Nat → Bool) : cnt X n ≤ cnt (nbX E X) m + cnt (fun i => !pL L i) n ∧
    (cnt (nbX E X) m + cnt (fun i => !pL L i) n ≤ cnt X n → ∀ i, S i = true → X i = true) := by
  have hM := h.hM
  have e1 := cnt_split X (pL L) n
  have e2 : cnt (fun i => X i && !pL L i) n ≤ cnt (fun i => !pL L i) n := cnt_mono fun i _ hp => by
    simp only [Bool.and_eq_true] at hp; exact hp.2
  have e3 : cnt (fun i => X i && pL L i) n ≤ cnt (fun r => nbX E X r && (pL R r && X (gi R r).toNat)) m := cnt_inj (fun i => (gi L i).toNat) (fun i hi hp => by
    simp only [pL, Bool.and_eq_true, decide_eq_true_eq] at hp
    have h1 := hM.hLm i
    have h2 := (hM.hC i (gi L i).toNat).1 (by omega)
    have he : (((i : Nat) : Int), gi L i) ∈ E := (nbOf_mem h.hE i _).1 (hM.hE i hp.2)
    refine ⟨by omega, ?_⟩
    simp only [pL, Bool.and_eq_true, decide_eq_true_eq, h2, Int.toNat_natCast]
    exact ⟨nbX_iff.2 ⟨_, he, by simpa using hp.1, by simp only; omega⟩, by omega, hp.1⟩) fun i j hi hj hp hq e => by
    simp only [pL, Bool.and_eq_true, decide_eq_true_eq] at hp hq
    have h1 := (hM.hC i (gi L i).toNat).1 (by omega)
    have h2 := (hM.hC j (gi L i).toNat).1 (by omega)
    omega
  have e4 : cnt (fun r => nbX E X r && (pL R r && X (gi R r).toNat)) m ≤ cnt (nbX E X) m := cnt_mono fun i _ hp => by
    simp only [Bool.and_eq_true] at hp; exact hp.1
  refine ⟨by omega, fun hq => ?_⟩
  have f1 := cnt_all (p := fun i => X i && !pL L i) (q := fun i => !pL L i) (n := n) (fun i _ hp => by simp only [Bool.and_eq_true] at hp; exact hp.2) (by omega)
  have f2 := cnt_all (p := fun r => nbX E X r && (pL R r && X (gi R r).toNat)) (q := nbX E X) (n := m) (fun i _ hp => by simp only [Bool.and_eq_true] at hp; exact hp.1) (by omega)
  intro i hi
  have hl := (h.hS i).1 hi
  clear hi
  induction hl with
  | @free l a b =>
    have := f1 l a (by simp [pL]; omega)
    simp only [Bool.and_eq_true] at this
    exact this.1
  | @step l r l2 a b c ih =>
    have he := (nbOf_mem h.hE l r).1 b
    have hr := edgeIn_iff.1 (h.hE _ he)
    simp only at hr
    have := f2 r.toNat (by omega) (nbX_iff.2 ⟨_, he, by simpa using ih, by simp only; omega⟩)
    simp only [Bool.and_eq_true, c, Int.toNat_natCast] at this
    exact this.2.2
end
end Go.AM

/- Masks of left nodes, and their deficiencies. -/
namespace Go.AM
theorem shl64 {k : Nat} (hk : k < 62) : bShl .i64 1 (k : Int) = ((2 ^ k : Nat) : Int) := by
  unfold bShl
  have : min (k : Int).toNat IntKind.i64.bits = k := by simp [IntKind.bits]; omega
  rw [this]
  have h : (2 : Nat) ^ k < 2 ^ 62 := Nat.pow_lt_pow_right (by decide) hk
  have h2 : (1 : Int) * 2 ^ k = ((2 ^ k : Nat) : Int) := by rw [Int.one_mul]; norm_cast
  rw [h2]
  generalize 2 ^ k = p at h ⊢
  have h3 : p < 4611686018427387904 := by simpa using h
  simp [IntKind.wrap, IntKind.signed, IntKind.bits]
  omega
structure LIv (d : Nat → Int) (n K : Nat) (x : Int × Nat) : Prop where
  h0 : 0 ≤ x.1
  h1 : ∀ k, k < K → d k ≤ x.1
  h2 : x.1 = 0 ∨ ∃ k, k < K ∧ d k = x.1
  h3 : x.2 < 2 ^ n
  h4 : 0 < x.1 → ∀ i, x.2.testBit i = true ↔ ∀ k, k < K → d k = x.1 → k.testBit i = true
end Go.AM

namespace Go.Proofs.I
open Go.AM Go
set_option maxRecDepth 100000
set_option maxHeartbeats 4000000
end Go.Proofs.I

namespace Go.Proofs.I
open Go.AM Go
set_option maxRecDepth 100000
set_option maxHeartbeats 4000000
end Go.Proofs.I

namespace Go.Proofs.I
open Go.AM Go
set_option maxRecDepth 100000
set_option maxHeartbeats 4000000
end Go.Proofs.I

namespace Go.Proofs.I
open Go.AM Go
set_option maxRecDepth 100000
set_option maxHeartbeats 4000000
end Go.Proofs.I

namespace Go.Proofs.I
open Go.AM Go
set_option maxRecDepth 100000
set_option maxHeartbeats 4000000
end Go.Proofs.I

namespace Go.Proofs.I
open Go.AM Go
set_option maxRecDepth 100000
set_option maxHeartbeats 4000000
theorem count_num (n : Nat) (t : List (List Bool)) (hs : Sq n t) (hn : n ≤ 512) (hp : poB n t = true) (w : Nat) (hw : (allU (invT n t) n).length = w) : ∃ c e : Int, Reads Tryz.prog 17 false [relB t] (.tup [.int .i64 c, .int .i64 e]) ∧ (w ≤ 5000 → c = w ∧ e = 0) ∧ (5000 < w → c = 0 ∧ e = 16) := by
  by_cases h : w ≤ 5000
  · have h1 := list_ok n t hs hn hp (by omega)
    have h2 := countI_ok _ _ _ h1
    refine ⟨_, _, h2, fun _ => ⟨by rw [hw], rfl⟩, fun h' => by omega⟩
  · have h1 := list_big n t hs hn hp (by omega)
    have h2 := countI_nil _ _ h1
    exact ⟨_, _, h2, fun h' => absurd h' h, fun _ => ⟨rfl, rfl⟩⟩
def endI (j N i : Nat) : Nat := if i < j then j else N
def chL (i x : Nat) : List Nat := List.range' (i + 1) (x - (i + 1))
theorem chL_zero (i : Nat) : chL i (i + 1) = [] := by simp [chL]
theorem chL_succ {i x : Nat} (h : i + 1 ≤ x) : chL i (x + 1) = chL i x ++ [x] := by
  unfold chL
  rw [show x + 1 - (i + 1) = x - (i + 1) + 1 by omega, List.range'_concat]
  congr 2
  omega
theorem chL_len (i x : Nat) : (chL i x).length = x - (i + 1) := by simp [chL]
theorem chL_row {j k i : Nat} (hi : i < j + k) : rowL (j + k) (nats (chL i (max (i + 1) (endI j (j + k) i)))) = rowT (twoT j k) i := by
  refine row_ext (n := j + k) (rowL_len ..) ((two_sq j k).rowLen hi) fun x hx => ?_
  rw [rowL_get hx, show (rowT (twoT j k) i).getD x false = atT (twoT j k) i x from rfl, atT_two hi hx, Bool.eq_iff_iff, decide_eq_true_eq, twoP_iff]
  unfold nats
  rw [mem_nats]
  unfold chL endI
  rw [List.mem_range']
  constructor
  · rintro ⟨q, h1, h2⟩
    split at h1 <;> omega
  · rintro ⟨h1, h2⟩
    refine ⟨x - (i + 1), ?_, by omega⟩
    split <;> omega
theorem free_po (k : Nat) : poB k (zeroT k) = true := (poB_iff (Sq.rep k)).2 (po_zero k)
theorem two_po (j k : Nat) : poB (j + k) (twoT j k) = true := (poB_iff (two_sq j k)).2 (po_two j k)
theorem budget_r (m n : Nat) (hm : m < 256) (hn : n < 256) : Reads Tryz.prog 5 false [.int .u8 m, .int .u8 n] (.bool true) := by
  have ha := awake_r
  have hmm : ((m : Int)).tmod 80 = ((m % 80 : Nat) : Int) := (Int.ofNat_tmod m 80).symm
  have hnm : ((n : Int)).tmod 80 = ((n % 80 : Nat) : Int) := (Int.ofNat_tmod n 80).symm
  have hmw : IntKind.i64.wrap (m : Int) = (m : Int) := by simp [IntKind.wrap, IntKind.signed, IntKind.bits]; omega
  have hnw : IntKind.i64.wrap (n : Int) = (n : Int) := by simp [IntKind.wrap, IntKind.signed, IntKind.bits]; omega
  have hJ : m % 80 < 80 := Nat.mod_lt _ (by decide)
  have hK : n % 80 < 80 := Nat.mod_lt _ (by decide)
  generalize m % 80 = J at *
  generalize n % 80 = K at *
  obtain ⟨c1, e1, hc1, hs1, hb1⟩ := count_num K (zeroT K) (Sq.rep K) (by omega) (free_po K) (2 ^ K) (free_num K)
  obtain ⟨c2, e2, hc2, hs2, hb2⟩ := count_num (J + K) (twoT J K) (two_sq J K) (by omega) (two_po J K) ((J + 1) * (K + 1)) (two_num J K)
  have hc1 := Reads.flat hc1 rfl
  have hc2 := Reads.flat hc2 rfl
  have hem := (rempty_r K (by omega))
  unfold relB rowB at *
  rw [List.length_replicate] at hem
  have hzl : (zeroT K).length = K := by simp [zeroT]
  have htl2 := (two_sq J K).len
  refine Reads.body (rs := [.tmp 4]) Tryz.func5 rfl Tryz.ntmps5 rfl (by simp) ?_
  generalize hQr : retQ _ _ _ = Qr
  -- block 1
  -- region 0
  refine AW.sg [0,1] [] trivial ?_
  refine AW.seq fun K1 hK1 => ?_
  -- region 1
  refine AW.so 0 (fun ii => if ii = 0 then some (.reads false (.bool true)) else none) [0,1,17] [] trivial ?_
  repeat with_reducible refine cj ?_ ?_
  all_goals try first | (exact ha) | omega | exact ent (by kernel_rfl)
  -- cond 1
  refine AW.cn ?_ ?_
  · intro hb
    simp at hb
  · intro hb
    refine AW.skip ?_
    refine hK1 _ _ _ ?_; clear hK1
    refine AW.seq fun K2 hK2 => ?_
    -- region 3
    refine AW.regionK 0 (fun _ => none) [0, 5] [] ?_
    simp only [go_sem, reduceIte, reduceCtorEq, Nat.reduceAdd, Nat.reduceMul, Nat.reduceEqDiff, Nat.reduceLT, Nat.reduceLeDiff, Nat.reduceSub, Nat.reducePow, Nat.reduceBEq, Int.reduceToNat, List.reduceReplicate, hnw, hnm]
    repeat with_reducible refine cj ?_ ?_
    all_goals try first | omega
    refine hK2 _ _ _ ?_; clear hK2
    -- region 4
    refine AW.sg [0,5,6] [6] trivial ?_
    refine AW.seq fun K3 hK3 => ?_
    -- region 5
    refine AW.sg [0,5,6,22,23] [6] trivial ?_
    refine AW.block ?_
    refine AW.nilCellK 6 0 0 200 2 ?_
    simp only [go_sem, reduceIte, Nat.reduceEqDiff]
    repeat refine cj ?_ ?_
    all_goals first | decide | skip
    refine AW.keep [0, 5, 6, 22, 23] [6, 200] ?_
    simp only [go_sem, reduceIte, Nat.reduceEqDiff]
    -- loop 1
    refine AW.loopE (fun mm ee ss kk => ∃ (i g6 v6 g v : Nat), K - i = mm ∧ ee = [(0, .int .u8 m), (5, .int .i64 K), (6, .ptr ⟨6, g6, none⟩ 0 0), (22, .int .i64 K), (23, .int .i64 (i : Nat))] ∧ ss = [(6, some ⟨g6, v6, 1, [[.sl ⟨200, g, none⟩ 0 i none]]⟩), (200, some ⟨g, v, 2, tabR ((zeroT K).take i)⟩)] ∧ (i ≤ K)) ?_ ?_
    -- init 1
    · exact ⟨_, 0, _, _, _, _, rfl, eD, eD, eT⟩
    rintro mm ee ss kk ⟨i, g6, v6, g, v, rfl, rfl, rfl, hI⟩
    generalize hQl1 : thenQ _ _ = Ql1
    -- region 6
    refine AW.sg [0,5,6,22,23,24] [6,200] trivial ?_
    refine AW.seq fun K4 hK4 => ?_
    -- cond 2
    refine AW.cn ?_ ?_
    · intro hb
      have hti : (zeroT K).take (i + 1) = (zeroT K).take i ++ [List.replicate K false] := by
        rw [List.take_add_one]
        congr 1
        unfold zeroT
        rw [List.getElem?_replicate, if_pos (by omega)]; rfl
      have htl : ((zeroT K).take i).length = i := by simp [hzl]; omega
      have htk : (tabR ((zeroT K).take i)).take i = tabR ((zeroT K).take i) := List.take_of_length_le (by rw [tabR_len]; omega)
      have hap : tabR ((zeroT K).take i) ++ [[.int .i64 K, .rsl 1 (words (setW (List.replicate K false) K))]] = tabR ((zeroT K).take i ++ [List.replicate K false]) := by simp [tabR, rowB]
      refine AW.skip ?_
      refine hK4 _ _ _ ?_; clear hK4
      refine AW.seq fun K5 hK5 => ?_
      refine AW.block ?_
      -- region 7
      refine AW.rd mixed 0 (fun ii => if ii = 3 then some (.upd [] (fun _ => []) (fun _ => .agg [.int .i64 K, .rsl 1 (words (setW (List.replicate K false) K))])) else none) [0,5,6,22,23] [6,200] (e4 @htk @tabR_len @htl @hap) ?_
      repeat with_reducible refine cj ?_ ?_
      all_goals try first | (exact hem.upd rfl) | omega | exact chk (by kernel_rfl) | exact ent (by kernel_rfl) | (simp [scP, scalar]; done) | exact scP_words _ | exact scP_ints _ | exact scP_bools _
      refine hK5 _ _ _ ?_; clear hK5
      -- region 8
      refine AW.rg [0,5,6,22,23] [6,200] trivial ?_
      -- again 1
      rw [← hQl1]; change Exists _
      refine ⟨_, ?hm, i + 1, ?_, ?_, ?_, ?_, rfl, ?henv, ?hstore, ?hst⟩
      case henv =>
        repeat' (first | rfl | refine env_cons ?_ ?_ | refine st_cons ?_ ?_ ?_ ?_ | refine int_eq ?_ | refine bool_eq ?_ | refine rsl_eq ?_ | refine osl_eq ?_ | refine sl_eq ?_ ?_ ?_ | refine ptr_eq ?_ ?_ ?_ | refine agg_eq ?_ | refine es_cons ?_ ?_ | refine row_cons ?_ ?_)
        all_goals (first | (simp; done) | omega | (simp; omega))
      case hstore =>
        repeat' (first | rfl | refine env_cons ?_ ?_ | refine st_cons ?_ ?_ ?_ ?_ | refine int_eq ?_ | refine bool_eq ?_ | refine rsl_eq ?_ | refine osl_eq ?_ | refine sl_eq ?_ ?_ ?_ | refine ptr_eq ?_ ?_ ?_ | refine agg_eq ?_ | refine es_cons ?_ ?_ | refine row_cons ?_ ?_)
        all_goals (rw [hti])
      case hst =>
        first | trivial | omega | (simp; done) | (simp; omega)
      case hm => omega
    · intro hb
      have hi : K = i := by omega
      subst hi
      have htk : (tabR ((zeroT K).take K)).take K = tabR (zeroT K) := by rw [List.take_of_length_le (by omega : (zeroT K).length ≤ K)]; exact List.take_of_length_le (by rw [tabR_len]; omega)
      have hsh : K ≤ 12 → bShl .i64 1 (K : Int) = ((2 ^ K : Nat) : Int) := fun h => shl64 (by omega)
      have hq1 : K ≤ 12 → c1 = bShl .i64 1 (K : Int) ∧ e1 = 0 := fun h => by
        have h1 : 2 ^ K ≤ 4096 := Nat.le_trans (Nat.pow_le_pow_right (by decide) h) (by decide)
        rw [hsh h]; exact hs1 (by omega)
      have hq2 : 12 < K → c1 = 0 ∧ e1 = 16 := fun h => by
        have h1 : 2 ^ 13 ≤ 2 ^ K := Nat.pow_le_pow_right (by decide) h
        exact hb1 (Nat.lt_of_lt_of_le (by decide) h1)
      -- exit 0
      refine AW.exit ?_
      rw [← hQl1]
      refine hK3 _ _ _ ?_; clear hK3
      refine AW.seq fun K6 hK6 => ?_
      -- region 9
      refine AW.regionK 0 (fun ii => if ii = 1 then some (.reads true (.tup [.int .i64 c1, .int .i64 e1])) else none) [0, 5, 7, 8] [] ?_
      simp only [go_sem, reduceIte, reduceCtorEq, Nat.reduceAdd, Nat.reduceMul, Nat.reduceEqDiff, Nat.reduceLT, Nat.reduceLeDiff, Nat.reduceSub, Nat.reducePow, Nat.reduceBEq, Int.reduceToNat, List.reduceReplicate, htk, vwc_tabR]
      repeat with_reducible refine cj ?_ ?_
      all_goals try first | (exact hc1) | omega | exact ent (by kernel_rfl)
      refine hK6 _ _ _ ?_; clear hK6
      refine AW.seq fun K7 hK7 => ?_
      -- region 10
      refine AW.sg [0,5,61] [] trivial ?_
      repeat with_reducible refine cj ?_ ?_
      all_goals try first | ((intro h1 h2; exact ⟨h1, h2, fun h3 => ⟨h1, h2, h3⟩⟩)) | (intros; (repeat' apply And.intro) <;> first | assumption | ((intro h1 h2; exact ⟨h1, h2, fun h3 => ⟨h1, h2, h3⟩⟩))) | omega | (intro hgd; exact absurd hgd (by decide)) | rfl | exact gD | (intro _hgd; simp_all [go_sem]; done)
      -- cond 3
      refine AW.cn ?_ ?_
      · intro hb
        exfalso; have q1 := hq1; have q2 := hq2; generalize bShl .i64 1 (K : Int) = w at *; omega
      · intro hb
        refine AW.skip ?_
        refine hK7 _ _ _ ?_; clear hK7
        refine AW.seq fun K8 hK8 => ?_
        -- region 12
        refine AW.regionK 0 (fun _ => none) [5, 9] [] ?_
        simp only [go_sem, reduceIte, reduceCtorEq, Nat.reduceAdd, Nat.reduceMul, Nat.reduceEqDiff, Nat.reduceLT, Nat.reduceLeDiff, Nat.reduceSub, Nat.reducePow, Nat.reduceBEq, Int.reduceToNat, List.reduceReplicate, hmw, hmm]
        repeat with_reducible refine cj ?_ ?_
        all_goals try first | omega
        refine hK8 _ _ _ ?_; clear hK8
        -- region 13
        refine AW.sg [5,9,10] [10] trivial ?_
        refine AW.seq fun K9 hK9 => ?_
        -- region 14
        refine AW.sg [5,9,10,68,69] [10] trivial ?_
        refine AW.block ?_
        refine AW.nilCellK 10 0 0 202 2 ?_
        simp only [go_sem, reduceIte, Nat.reduceEqDiff]
        repeat refine cj ?_ ?_
        all_goals first | decide | skip
        refine AW.keep [5, 9, 10, 68, 69] [10, 202] ?_
        simp only [go_sem, reduceIte, Nat.reduceEqDiff]
        -- loop 2
        refine AW.loopE (fun mm ee ss kk => ∃ (i g10 v10 g v : Nat), J + K - i = mm ∧ ee = [(5, .int .i64 K), (9, .int .i64 J), (10, .ptr ⟨10, g10, none⟩ 0 0), (68, .int .i64 ((J : Int) + (K : Int))), (69, .int .i64 (i : Nat))] ∧ ss = [(10, some ⟨g10, v10, 1, [[.sl ⟨202, g, none⟩ 0 i none]]⟩), (202, some ⟨g, v, 2, tabR ((twoT J K).take i)⟩)] ∧ (i ≤ J + K)) ?_ ?_
        -- init 2
        · exact ⟨_, 0, _, _, _, _, rfl, eD, eD, eT⟩
        rintro mm ee ss kk ⟨i, g10, v10, g, v, rfl, rfl, rfl, hI⟩
        generalize hQl2 : thenQ _ _ = Ql2
        -- region 15
        refine AW.sg [5,9,10,68,69,70] [10,202] trivial ?_
        refine AW.seq fun K10 hK10 => ?_
        -- cond 4
        refine AW.cn ?_ ?_
        · intro hb
          have hin : i < J + K := by omega
          have hrw := (two_sq J K).rowLen hin
          have hti : (twoT J K).take (i + 1) = (twoT J K).take i ++ [rowT (twoT J K) i] := by obtain ⟨h1, h2⟩ := List.getElem?_eq_some_iff.1 (rowT_get (t := twoT J K) (i := i) (by omega)); rw [List.take_succ_eq_append_getElem h1, h2]
          have htl : ((twoT J K).take i).length = i := by simp; omega
          have htk : (tabR ((twoT J K).take i)).take i = tabR ((twoT J K).take i) := List.take_of_length_le (by rw [tabR_len]; omega)
          have hcz := chL_zero i
          have hcr := chL_row hin
          have hof := rof2_r (J + K) (nats (chL i (max (i + 1) (endI J (J + K) i)))) (by omega) (by rw [nats_len, chL_len]; unfold endI; split <;> omega) (fun x hx => by
              obtain ⟨q, h1, rfl⟩ := List.mem_map.1 hx
              unfold chL at h1
              rw [List.mem_range'] at h1
              obtain ⟨r, h2, h3⟩ := h1
              revert h2
              unfold endI
              split <;> omega)
          rw [hcr] at hof
          generalize hb' : rowT (twoT J K) i = b at *
          unfold rowB at hof
          rw [hrw] at hof
          have hap : tabR ((twoT J K).take i) ++ [[.int .i64 ((J : Int) + (K : Int)), .rsl 1 (words (setW b (J + K)))]] = tabR ((twoT J K).take i ++ [b]) := by simp [tabR, rowB, hrw]
          rw [show (((J + K : Nat)) : Int) = (J : Int) + (K : Int) by omega] at hof
          refine AW.skip ?_
          refine hK10 _ _ _ ?_; clear hK10
          refine AW.seq fun K11 hK11 => ?_
          refine AW.block ?_
          -- region 16
          refine AW.sg [5,9,10,11,68,69] [10,202] trivial ?_
          -- region 17
          refine AW.sg [5,9,10,11,12,68,69] [10,202] trivial ?_
          -- region 18
          refine AW.sg [5,9,10,11,12,13,68,69] [10,202] trivial ?_
          refine AW.seq fun K12 hK12 => ?_
          -- region 19
          refine AW.sg [5,9,10,11,12,13,68,69,77] [10,202] trivial ?_
          -- cond 5
          refine AW.cn ?_ ?_
          · intro hb
            have hend : endI J (J + K) i = J := if_pos (by omega)
            -- region 20
            refine AW.rg [5,9,10,11,12,13,68,69] [10,202] trivial ?_
            refine hK12 _ _ _ ?_; clear hK12
            refine AW.seq fun K13 hK13 => ?_
            -- region 21
            refine AW.sg [5,9,10,12,13,14,68,69] [10,202] trivial ?_
            refine AW.block ?_
            refine AW.nilOwn 12 201 1 (by simp only [go_sem, reduceIte, Nat.reduceEqDiff]) ?_
            refine AW.keep [5, 9, 10, 12, 13, 14, 68, 69] [10, 201, 202] ?_
            simp only [go_sem, reduceIte, Nat.reduceEqDiff]
            -- loop 3
            refine AW.loopE (fun mm ee ss kk => ∃ (x g10 v10 g v g1 v1 : Nat), max (i + 1) (endI J (J + K) i) - x = mm ∧ ee = [(5, .int .i64 K), (9, .int .i64 J), (10, .ptr ⟨10, g10, none⟩ 0 0), (12, .sl ⟨201, g1, none⟩ 0 (chL i x).length none), (13, .int .i64 (endI J (J + K) i : Nat)), (14, .int .i64 (x : Nat)), (68, .int .i64 ((J : Int) + (K : Int))), (69, .int .i64 (i : Nat))] ∧ ss = [(10, some ⟨g10, v10, 1, [[.sl ⟨202, g, none⟩ 0 i none]]⟩), (201, some ⟨g1, v1, 1, ints (nats (chL i x))⟩), (202, some ⟨g, v, 2, tabR ((twoT J K).take i)⟩)] ∧ (i + 1 ≤ x ∧ x ≤ max (i + 1) (endI J (J + K) i))) ?_ ?_
            -- init 3
            · refine ⟨_, i + 1, ?_, ?_, ?_, ?_, ?_, ?_, rfl, ?henv, ?hstore, ?hst⟩
              case henv =>
                repeat' (first | rfl | refine env_cons ?_ ?_ | refine st_cons ?_ ?_ ?_ ?_ | refine int_eq ?_ | refine bool_eq ?_ | refine rsl_eq ?_ | refine osl_eq ?_ | refine sl_eq ?_ ?_ ?_ | refine ptr_eq ?_ ?_ ?_ | refine agg_eq ?_ | refine es_cons ?_ ?_ | refine row_cons ?_ ?_)
                all_goals (first | (rw [hcz]; done) | (rw [hcz]; rfl) | (rw [hend]; done) | (rw [hend]; push_cast; rfl) | (simp; done) | omega)
              case hstore =>
                repeat' (first | rfl | refine env_cons ?_ ?_ | refine st_cons ?_ ?_ ?_ ?_ | refine int_eq ?_ | refine bool_eq ?_ | refine rsl_eq ?_ | refine osl_eq ?_ | refine sl_eq ?_ ?_ ?_ | refine ptr_eq ?_ ?_ ?_ | refine agg_eq ?_ | refine es_cons ?_ ?_ | refine row_cons ?_ ?_)
                all_goals (rw [hcz]; rfl)
              case hst =>
                first | trivial | omega | (simp; done) | (simp; omega)
            rintro mm ee ss kk ⟨x, g10, v10, g, v, g1, v1, rfl, rfl, rfl, hI⟩
            generalize hQl3 : thenQ _ _ = Ql3
            refine AW.seq fun K14 hK14 => ?_
            -- region 22
            refine AW.sg [5,9,10,12,13,14,68,69,83] [10,201,202] trivial ?_
            -- cond 6
            refine AW.cn ?_ ?_
            · intro hb
              have hcs := chL_succ (i := i) (x := x) hI.1
              have hcl := chL_len i x
              have htk2 : (ints (nats (chL i x))).take (chL i x).length = ints (nats (chL i x)) := List.take_of_length_le (by rw [ints_len, nats_len]; exact Nat.le_refl _)
              generalize chL i x = M at *
              refine AW.skip ?_
              refine hK14 _ _ _ ?_; clear hK14
              refine AW.seq fun K15 hK15 => ?_
              refine AW.block ?_
              -- region 24
              refine AW.regionK 0 (fun _ => none) [5, 9, 10, 12, 13, 14, 68, 69] [10, 201, 202] ?_
              simp only [go_sem, reduceIte, reduceCtorEq, Nat.reduceAdd, Nat.reduceMul, Nat.reduceEqDiff, Nat.reduceLT, Nat.reduceLeDiff, Nat.reduceSub, Nat.reducePow, Nat.reduceBEq, Int.reduceToNat, List.reduceReplicate, htk2, ints_app, nats_app, nats_len, ints_len]
              repeat with_reducible refine cj ?_ ?_
              all_goals try first | omega | (simp [scP, scalar]; done) | exact scP_words _ | exact scP_ints _ | exact scP_bools _
              refine hK15 _ _ _ ?_; clear hK15
              -- region 23
              refine AW.rg [5,9,10,12,13,14,68,69] [10,201,202] trivial ?_
              -- again 3
              rw [← hQl3]; change Exists _
              refine ⟨_, ?hm, x + 1, ?_, ?_, ?_, ?_, ?_, ?_, rfl, ?henv, ?hstore, ?hst⟩
              case henv =>
                repeat' (first | rfl | refine env_cons ?_ ?_ | refine st_cons ?_ ?_ ?_ ?_ | refine int_eq ?_ | refine bool_eq ?_ | refine rsl_eq ?_ | refine osl_eq ?_ | refine sl_eq ?_ ?_ ?_ | refine ptr_eq ?_ ?_ ?_ | refine agg_eq ?_ | refine es_cons ?_ ?_ | refine row_cons ?_ ?_)
                all_goals (first | (rw [hcs]; done) | (rw [hcs]; simp; done) | (simp; done) | omega)
              case hstore =>
                repeat' (first | rfl | refine env_cons ?_ ?_ | refine st_cons ?_ ?_ ?_ ?_ | refine int_eq ?_ | refine bool_eq ?_ | refine rsl_eq ?_ | refine osl_eq ?_ | refine sl_eq ?_ ?_ ?_ | refine ptr_eq ?_ ?_ ?_ | refine agg_eq ?_ | refine es_cons ?_ ?_ | refine row_cons ?_ ?_)
                all_goals (rw [hcs])
              case hst =>
                first | trivial | omega | (simp; done) | (simp; omega)
              case hm => omega
            · intro hb
              have hx : x = max (i + 1) (endI J (J + K) i) := by omega
              subst hx
              generalize chL i (max (i + 1) (endI J (J + K) i)) = M at *
              have htk2 : (ints (nats M)).take M.length = ints (nats M) := List.take_of_length_le (by rw [ints_len, nats_len]; exact Nat.le_refl _)
              -- exit 4
              refine AW.exit ?_
              rw [← hQl3]
              refine hK13 _ _ _ ?_; clear hK13
              refine AW.freezeK [201] [12] [5, 9, 10, 12, 68, 69] [10, 202] ?_
              simp only [go_sem, reduceIte, Nat.reduceEqDiff, htk2, vwc_ints]
              refine AW.keep [5, 9, 10, 12, 68, 69] [10, 202] ?_
              simp only [go_sem, reduceIte, Nat.reduceEqDiff]
              -- region 25
              refine AW.rd mixed 0 (fun ii => if ii = 6 then some (.upd [] (fun _ => []) (fun _ => .agg [.int .i64 ((J : Int) + (K : Int)), .rsl 1 (words (setW b (J + K)))])) else none) [5,9,10,68,69] [10,202] (e4 @htk @tabR_len @htl @hap) ?_
              repeat with_reducible refine cj ?_ ?_
              all_goals try first | (exact hof.upd rfl) | omega | exact chk (by kernel_rfl) | exact ent (by kernel_rfl) | (simp [scP, scalar]; done) | exact scP_words _ | exact scP_ints _ | exact scP_bools _
              refine hK11 _ _ _ ?_; clear hK11
              -- region 26
              refine AW.rg [5,9,10,68,69] [10,202] trivial ?_
              -- again 2
              rw [← hQl2]; change Exists _
              refine ⟨_, ?hm, i + 1, ?_, ?_, ?_, ?_, rfl, ?henv, ?hstore, ?hst⟩
              case henv =>
                repeat' (first | rfl | refine env_cons ?_ ?_ | refine st_cons ?_ ?_ ?_ ?_ | refine int_eq ?_ | refine bool_eq ?_ | refine rsl_eq ?_ | refine osl_eq ?_ | refine sl_eq ?_ ?_ ?_ | refine ptr_eq ?_ ?_ ?_ | refine agg_eq ?_ | refine es_cons ?_ ?_ | refine row_cons ?_ ?_)
                all_goals (first | (simp; done) | omega | (simp; omega))
              case hstore =>
                repeat' (first | rfl | refine env_cons ?_ ?_ | refine st_cons ?_ ?_ ?_ ?_ | refine int_eq ?_ | refine bool_eq ?_ | refine rsl_eq ?_ | refine osl_eq ?_ | refine sl_eq ?_ ?_ ?_ | refine ptr_eq ?_ ?_ ?_ | refine agg_eq ?_ | refine es_cons ?_ ?_ | refine row_cons ?_ ?_)
                all_goals (rw [hti])
              case hst =>
                first | trivial | omega | (simp; done) | (simp; omega)
              case hm => omega
          · intro hb
            have hend : endI J (J + K) i = J + K := if_neg (by omega)
            refine AW.skip ?_
            refine hK12 _ _ _ ?_; clear hK12
            refine AW.seq fun K16 hK16 => ?_
            -- region 21
            refine AW.sg [5,9,10,12,13,14,68,69] [10,202] trivial ?_
            refine AW.block ?_
            refine AW.nilOwn 12 201 1 (by simp only [go_sem, reduceIte, Nat.reduceEqDiff]) ?_
            refine AW.keep [5, 9, 10, 12, 13, 14, 68, 69] [10, 201, 202] ?_
            simp only [go_sem, reduceIte, Nat.reduceEqDiff]
            -- loop 3
            refine AW.loopE (fun mm ee ss kk => ∃ (x g10 v10 g v g1 v1 : Nat), max (i + 1) (endI J (J + K) i) - x = mm ∧ ee = [(5, .int .i64 K), (9, .int .i64 J), (10, .ptr ⟨10, g10, none⟩ 0 0), (12, .sl ⟨201, g1, none⟩ 0 (chL i x).length none), (13, .int .i64 (endI J (J + K) i : Nat)), (14, .int .i64 (x : Nat)), (68, .int .i64 ((J : Int) + (K : Int))), (69, .int .i64 (i : Nat))] ∧ ss = [(10, some ⟨g10, v10, 1, [[.sl ⟨202, g, none⟩ 0 i none]]⟩), (201, some ⟨g1, v1, 1, ints (nats (chL i x))⟩), (202, some ⟨g, v, 2, tabR ((twoT J K).take i)⟩)] ∧ (i + 1 ≤ x ∧ x ≤ max (i + 1) (endI J (J + K) i))) ?_ ?_
            -- init 3
            · refine ⟨_, i + 1, ?_, ?_, ?_, ?_, ?_, ?_, rfl, ?henv, ?hstore, ?hst⟩
              case henv =>
                repeat' (first | rfl | refine env_cons ?_ ?_ | refine st_cons ?_ ?_ ?_ ?_ | refine int_eq ?_ | refine bool_eq ?_ | refine rsl_eq ?_ | refine osl_eq ?_ | refine sl_eq ?_ ?_ ?_ | refine ptr_eq ?_ ?_ ?_ | refine agg_eq ?_ | refine es_cons ?_ ?_ | refine row_cons ?_ ?_)
                all_goals (first | (rw [hcz]; done) | (rw [hcz]; rfl) | (rw [hend]; done) | (rw [hend]; push_cast; rfl) | (simp; done) | omega)
              case hstore =>
                repeat' (first | rfl | refine env_cons ?_ ?_ | refine st_cons ?_ ?_ ?_ ?_ | refine int_eq ?_ | refine bool_eq ?_ | refine rsl_eq ?_ | refine osl_eq ?_ | refine sl_eq ?_ ?_ ?_ | refine ptr_eq ?_ ?_ ?_ | refine agg_eq ?_ | refine es_cons ?_ ?_ | refine row_cons ?_ ?_)
                all_goals (rw [hcz]; rfl)
              case hst =>
                first | trivial | omega | (simp; done) | (simp; omega)
            rintro mm ee ss kk ⟨x, g10, v10, g, v, g1, v1, rfl, rfl, rfl, hI⟩
            generalize hQl3 : thenQ _ _ = Ql3
            refine AW.seq fun K17 hK17 => ?_
            -- region 22
            refine AW.sg [5,9,10,12,13,14,68,69,83] [10,201,202] trivial ?_
            -- cond 6
            refine AW.cn ?_ ?_
            · intro hb
              have hcs := chL_succ (i := i) (x := x) hI.1
              have hcl := chL_len i x
              have htk2 : (ints (nats (chL i x))).take (chL i x).length = ints (nats (chL i x)) := List.take_of_length_le (by rw [ints_len, nats_len]; exact Nat.le_refl _)
              generalize chL i x = M at *
              refine AW.skip ?_
              refine hK17 _ _ _ ?_; clear hK17
              refine AW.seq fun K18 hK18 => ?_
              refine AW.block ?_
              -- region 24
              refine AW.regionK 0 (fun _ => none) [5, 9, 10, 12, 13, 14, 68, 69] [10, 201, 202] ?_
              simp only [go_sem, reduceIte, reduceCtorEq, Nat.reduceAdd, Nat.reduceMul, Nat.reduceEqDiff, Nat.reduceLT, Nat.reduceLeDiff, Nat.reduceSub, Nat.reducePow, Nat.reduceBEq, Int.reduceToNat, List.reduceReplicate, htk2, ints_app, nats_app, nats_len, ints_len]
              repeat with_reducible refine cj ?_ ?_
              all_goals try first | omega | (simp [scP, scalar]; done) | exact scP_words _ | exact scP_ints _ | exact scP_bools _
              refine hK18 _ _ _ ?_; clear hK18
              -- region 23
              refine AW.rg [5,9,10,12,13,14,68,69] [10,201,202] trivial ?_
              -- again 3
              rw [← hQl3]; change Exists _
              refine ⟨_, ?hm, x + 1, ?_, ?_, ?_, ?_, ?_, ?_, rfl, ?henv, ?hstore, ?hst⟩
              case henv =>
                repeat' (first | rfl | refine env_cons ?_ ?_ | refine st_cons ?_ ?_ ?_ ?_ | refine int_eq ?_ | refine bool_eq ?_ | refine rsl_eq ?_ | refine osl_eq ?_ | refine sl_eq ?_ ?_ ?_ | refine ptr_eq ?_ ?_ ?_ | refine agg_eq ?_ | refine es_cons ?_ ?_ | refine row_cons ?_ ?_)
                all_goals (first | (rw [hcs]; done) | (rw [hcs]; simp; done) | (simp; done) | omega)
              case hstore =>
                repeat' (first | rfl | refine env_cons ?_ ?_ | refine st_cons ?_ ?_ ?_ ?_ | refine int_eq ?_ | refine bool_eq ?_ | refine rsl_eq ?_ | refine osl_eq ?_ | refine sl_eq ?_ ?_ ?_ | refine ptr_eq ?_ ?_ ?_ | refine agg_eq ?_ | refine es_cons ?_ ?_ | refine row_cons ?_ ?_)
                all_goals (rw [hcs])
              case hst =>
                first | trivial | omega | (simp; done) | (simp; omega)
              case hm => omega
            · intro hb
              have hx : x = max (i + 1) (endI J (J + K) i) := by omega
              subst hx
              generalize chL i (max (i + 1) (endI J (J + K) i)) = M at *
              have htk2 : (ints (nats M)).take M.length = ints (nats M) := List.take_of_length_le (by rw [ints_len, nats_len]; exact Nat.le_refl _)
              -- exit 4
              refine AW.exit ?_
              rw [← hQl3]
              refine hK16 _ _ _ ?_; clear hK16
              refine AW.freezeK [201] [12] [5, 9, 10, 12, 68, 69] [10, 202] ?_
              simp only [go_sem, reduceIte, Nat.reduceEqDiff, htk2, vwc_ints]
              refine AW.keep [5, 9, 10, 12, 68, 69] [10, 202] ?_
              simp only [go_sem, reduceIte, Nat.reduceEqDiff]
              -- region 25
              refine AW.rd mixed 0 (fun ii => if ii = 6 then some (.upd [] (fun _ => []) (fun _ => .agg [.int .i64 ((J : Int) + (K : Int)), .rsl 1 (words (setW b (J + K)))])) else none) [5,9,10,68,69] [10,202] (e4 @htk @tabR_len @htl @hap) ?_
              repeat with_reducible refine cj ?_ ?_
              all_goals try first | (exact hof.upd rfl) | omega | exact chk (by kernel_rfl) | exact ent (by kernel_rfl) | (simp [scP, scalar]; done) | exact scP_words _ | exact scP_ints _ | exact scP_bools _
              refine hK11 _ _ _ ?_; clear hK11
              -- region 26
              refine AW.rg [5,9,10,68,69] [10,202] trivial ?_
              -- again 2
              rw [← hQl2]; change Exists _
              refine ⟨_, ?hm, i + 1, ?_, ?_, ?_, ?_, rfl, ?henv, ?hstore, ?hst⟩
              case henv =>
                repeat' (first | rfl | refine env_cons ?_ ?_ | refine st_cons ?_ ?_ ?_ ?_ | refine int_eq ?_ | refine bool_eq ?_ | refine rsl_eq ?_ | refine osl_eq ?_ | refine sl_eq ?_ ?_ ?_ | refine ptr_eq ?_ ?_ ?_ | refine agg_eq ?_ | refine es_cons ?_ ?_ | refine row_cons ?_ ?_)
                all_goals (first | (simp; done) | omega | (simp; omega))
              case hstore =>
                repeat' (first | rfl | refine env_cons ?_ ?_ | refine st_cons ?_ ?_ ?_ ?_ | refine int_eq ?_ | refine bool_eq ?_ | refine rsl_eq ?_ | refine osl_eq ?_ | refine sl_eq ?_ ?_ ?_ | refine ptr_eq ?_ ?_ ?_ | refine agg_eq ?_ | refine es_cons ?_ ?_ | refine row_cons ?_ ?_)
                all_goals (rw [hti])
              case hst =>
                first | trivial | omega | (simp; done) | (simp; omega)
              case hm => omega
        · intro hb
          have hi : i = J + K := by omega
          subst hi
          have htk : (tabR ((twoT J K).take (J + K))).take (J + K) = tabR (twoT J K) := by rw [List.take_of_length_le (by omega : (twoT J K).length ≤ J + K)]; exact List.take_of_length_le (by rw [tabR_len]; omega)
          have hpl : (J + 1) * (K + 1) ≤ 80 * 80 := Nat.mul_le_mul (by omega) (by omega)
          have hmul : ((J : Int) + 1) * ((K : Int) + 1) = (((J + 1) * (K + 1) : Nat) : Int) := by push_cast; rfl
          generalize (J + 1) * (K + 1) = P at *
          -- exit 2
          refine AW.exit ?_
          rw [← hQl2]
          refine hK9 _ _ _ ?_; clear hK9
          refine AW.seq fun K19 hK19 => ?_
          -- region 27
          refine AW.regionK 0 (fun ii => if ii = 1 then some (.reads true (.tup [.int .i64 c2, .int .i64 e2])) else none) [5, 7, 8, 9] [] ?_
          simp only [go_sem, reduceIte, reduceCtorEq, Nat.reduceAdd, Nat.reduceMul, Nat.reduceEqDiff, Nat.reduceLT, Nat.reduceLeDiff, Nat.reduceSub, Nat.reducePow, Nat.reduceBEq, Int.reduceToNat, List.reduceReplicate, htk, vwc_tabR]
          repeat with_reducible refine cj ?_ ?_
          all_goals try first | (exact hc2) | omega | exact ent (by kernel_rfl)
          refine hK19 _ _ _ ?_; clear hK19
          refine AW.seq fun K20 hK20 => ?_
          -- region 28
          refine AW.sg [7,8,15] [] (@hmul) ?_
          -- region 29
          refine AW.sg [7,8,15,112] [] trivial ?_
          -- cond 7
          refine AW.cn ?_ ?_
          · intro hb
            -- region 30
            refine AW.sg [4] [] trivial ?_
            repeat with_reducible refine cj ?_ ?_
            all_goals try first | omega | (intros; (repeat' apply And.intro) <;> first | assumption | omega | decide) | (intro hgd; exact absurd hgd (by decide)) | rfl | exact gD | (intro _hgd; simp_all [go_sem]; done)
            -- ret 3
            rw [← hQr]
            refine AW.rt trivial ?_
            have hz := hs2 (by omega)
            rw [hz.1, hz.2]
            exact Wk.of_eq (by simp)
          · intro hb
            refine AW.skip ?_
            refine hK20 _ _ _ ?_; clear hK20
            -- region 31
            refine AW.sg [4] [] trivial ?_
            repeat with_reducible refine cj ?_ ?_
            all_goals try first | omega | (intros; (repeat' apply And.intro) <;> first | assumption | omega | decide) | (intro hgd; exact absurd hgd (by decide)) | rfl | exact gD | (intro _hgd; simp_all [go_sem]; done)
            -- ret 4
            rw [← hQr]
            refine AW.rt trivial ?_
            have hz := hb2 (by omega)
            rw [hz.1, hz.2]
            exact Wk.of_eq (by simp)
end Go.Proofs.I

/- The shapes of arguments. -/
namespace Go.AM
theorem fit_int {P : Program} {t : TypeId} {k : IntKind} (hu : P.underlying t = some (.int k)) {f : Nat} {x : List AV} (h : Fit P f t x) : ∃ n, x = [.int k n] ∧ k.min ≤ n ∧ n ≤ k.max := by
  cases f with
  | zero => exact h.elim
  | succ f => unfold Fit at h; rw [hu] at h; exact h
theorem F2.two {α β : Type} {R : α → β → Prop} {a b : α} {l : List β} (h : F2 R [a, b] l) : ∃ x y, l = [x, y] ∧ R a x ∧ R b y := by
  cases h with | cons h1 t => cases t with | cons h2 t => cases t with | nil => exact ⟨_, _, rfl, h1, h2⟩
end Go.AM

/- A laid table, as the machine's package variable. -/
namespace Go.AM
theorem rptr_of_laid {P : Program} {n : String} {g : Nat} {t e : TypeId} {k : IntKind} {L : List Int} {W : World} (hg : P.globalNamed n = some g) (ht : (P.globals[g]?).map (·.type) = some t) (hu : P.underlying t = some (.array L.length e))
    (hc : P.cellsOf e = 1) (hc2 : P.cellsOf t = L.length) (hu2 : P.underlying e = some (.int k)) (hL : L ≠ []) (h : laidMet P [(n, .agg (L.map fun i => .lit (.int k i)))] W) : RelP (immF W fun _ => False) W (.rptr (L.map (AV.int k))) (.pointer (some ⟨g, 0, none⟩)) := by
  obtain ⟨ps, ⟨g0, t0, cs0, f0, p0, q0, hg0, ht0, hv0, hd0, _, _⟩, _, _⟩ := h
  obtain rfl := Option.some.inj (hg.symm.trans hg0)
  obtain rfl := Option.some.inj (ht.symm.trans ht0)
  obtain ⟨xs, m, rfl, hx, hlen, hn, hel⟩ := DataW.trod_array hu hd0
  have hcell : ∀ j, j < L.length → W.cell? ⟨g, j, none⟩ = some (.int k (L.getD j 0)) := fun j hj => by
    have h0 := hel j hj
    rw [hc, Nat.mul_one] at h0
    have hjx : j < xs.length := by omega
    rw [List.getElem?_eq_getElem hjx] at h0
    obtain ⟨z, e1, e2, _⟩ := DataW.trod_int hu2 h0
    have hxs : xs.map (·.1) = L.map fun i => .lit (.int k i) := by
      simp only [Prod.mk.injEq, DataW.agg.injEq] at hx
      exact hx.1.symm
    have hzj : (xs.map (·.1))[j]? = (L.map fun i => (.lit (.int k i) : DataW Unit))[j]? := by rw [hxs]
    rw [List.getElem?_map, List.getElem?_map, List.getElem?_eq_getElem hjx, List.getElem?_eq_getElem hj, e2] at hzj
    simp only [Option.map_some, Option.some.injEq, DataW.lit.injEq, Lit.int.injEq] at hzj
    have hz : z = L.getD j 0 := by rw [hzj.2]; simp [List.getD_eq_getElem?_getD, hj]
    have hcs : cs0[j]? = some (.int k z) := by
      have hl : cs0.toList.length = L.length := by rw [hlen, hc2]
      have hd : cs0.toList.drop j = cs0.toList[j]'(by omega) :: cs0.toList.drop (j + 1) := List.drop_eq_getElem_cons (by omega)
      rw [hd] at e1
      simp only [List.take_succ_cons, List.take_zero, List.cons.injEq, and_true] at e1
      rw [← Array.getElem?_toList, List.getElem?_eq_getElem (by omega), e1]
    rw [World.var?_cell hg hv0 j, hcs, hz]
  have hlt : g < W.heap.size := by
    cases L with
    | nil => exact absurd rfl hL
    | cons a l =>
      have := hcell 0 (by simp)
      unfold World.cell? at this
      cases hh : W.heap[g]? with
      | none => simp [hh] at this
      | some o => exact heap_lt hh
  refine .rptr _ g 0 (fun j => .int k (L.getD j 0)) ⟨hlt, fun h => h⟩ (fun j hj => ?_) (fun j hj => ?_)
  · rw [List.length_map] at hj
    rw [Nat.zero_add]
    exact hcell j hj
  · rw [List.length_map] at hj
    have e : (L.map (AV.int k)).getD j .any = .int k (L.getD j 0) := by simp [List.getD_eq_getElem?_getD, hj]
    rw [e]
    exact .int _ _
end Go.AM

/- The shapes of the ideal laws' arguments. -/
namespace Go.AM
open Go.Proofs
theorem F2.one {α β : Type} {R : α → β → Prop} {a : α} {l : List β} (h : F2 R [a] l) : ∃ x, l = [x] ∧ R a x := by
  cases h with | cons h1 t => cases t with | nil => exact ⟨_, rfl, h1⟩
theorem laidMet_tail {P : Program} {W : World} {x : String × DataW Unit} {l : List (String × DataW Unit)} (h : laidMet P (x :: l) W) : laidMet P l W := by
  obtain ⟨ps, ⟨g, t, cs, f, p, q, hg, ht, hv, hd, hr, rfl⟩, hn, hc⟩ := h
  exact ⟨q, hr, (List.nodup_append.1 hn).2.1, fun b off hm => hc b off (List.mem_append.2 (.inr hm))⟩
theorem laidMet_head {P : Program} {W : World} {x : String × DataW Unit} {l : List (String × DataW Unit)} (h : laidMet P (x :: l) W) : laidMet P [x] W := by
  obtain ⟨ps, ⟨g, t, cs, f, p, q, hg, ht, hv, hd, hr, rfl⟩, hn, hc⟩ := h
  refine ⟨MemPlace.row ⟨g, 0, none⟩ cs.size ++ p ++ [], ⟨g, t, cs, f, p, [], hg, ht, hv, hd, rfl, rfl⟩, ?_, fun b off hm => ?_⟩
  · rw [List.append_nil]; exact (List.nodup_append.1 hn).1
  · rw [List.append_nil] at hm; exact hc b off (List.mem_append.2 (.inl hm))
theorem pgl {W : World} (h : laidMetH Tryz.prog [("math/bits.deBruijn32tab", YtloonkbfooddiaaGreatDoor.Rows.laid_math_bits_deBruijn32tab), ("math/bits.deBruijn64tab", YtloonkbfooddiaaGreatDoor.Rows.laid_math_bits_deBruijn64tab), ("internal/strconv.uint64pow10", YtloonkbfooddiaaGreatDoor.Rows.laid_internal_strconv_uint64pow10)] W) : GL (immF W fun _ => False) W := fun g cs e => by
  rw [MakeChecks.laidMetH_plain _ _ _ (by rfl)] at h
  have h2 := laidMet_head (laidMet_tail h)
  cases g with
  | zero =>
    rw [globA_aux] at e
    obtain rfl := Option.some.inj e
    exact rptr_of_laid (L := tzTab) (by kernel_rfl : Tryz.prog.globalNamed "math/bits.deBruijn64tab" = some 0) (by kernel_rfl : (Tryz.prog.globals[0]?).map (·.type) = some 98) (e := 5) Tryz.underlying98 (by kernel_rfl) (by kernel_rfl) Tryz.underlying5 (by decide) h2
  | succ g => cases e
theorem pmet (os : Os) (args : Array Value) : laidMetH Tryz.prog [("math/bits.deBruijn32tab", YtloonkbfooddiaaGreatDoor.Rows.laid_math_bits_deBruijn32tab), ("math/bits.deBruijn64tab", YtloonkbfooddiaaGreatDoor.Rows.laid_math_bits_deBruijn64tab), ("internal/strconv.uint64pow10", YtloonkbfooddiaaGreatDoor.Rows.laid_internal_strconv_uint64pow10)] ((World.doorLaid Tryz.prog 400 os).forCall (fun _ _ => 0) ⟨#[], args, []⟩).memory :=
  laidMetH_of_parts3 (fuel := 8) (laidMet_of_run' 8 (by kernel_rfl) (by kernel_rfl)) (by kernel_rfl) (by kernel_rfl)
end Go.AM

