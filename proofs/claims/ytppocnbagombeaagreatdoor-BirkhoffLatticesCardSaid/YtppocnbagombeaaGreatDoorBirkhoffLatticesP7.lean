/- Lemmas and contracts, part 7: an abstract machine over the model, and the functions that the statement reaches. -/
import Derived.Test.YtppocnbagombeaaGreatDoorBirkhoffLatticesP6
import Derived.Shelf.SlSortCmp.NoneTotal
set_option linter.unusedVariables false
set_option linter.unusedSimpArgs false
open Nat renaming reduceAdd → zA, reduceMul → zM, reduceEqDiff → zE, reduceLT → zL, reduceLeDiff → zD, reduceSub → zS, reducePow → zP, reduceBEq → zB
open Int renaming reduceToNat → zI
open List renaming reduceReplicate → zR
/- slices.SortedFunc over maps.Values. -/
namespace Go.Proofs
open Go.RowKit Go.Maps Go.Sort Go.Shelf
set_option maxRecDepth 100000
set_option maxHeartbeats 2000000
open AM (rowB cmpS RelP immF GL)
theorem Bk.collect_in (F : Fence) (n : Nat) (h8 : F.fn 128) (h11 : F.fn 136) (hro : F.round = none) (hn : 3 ≤ n) (g : Nat) (lb : Array Value) (hFg : F.fn g) (eg : ∀ args w, (callFunc g args).run Tryz.prog w = .ok (.enter g args) w)
    (S : List Bk.SetV → Prop) (N : Nat) (hN : N ≤ 1000000) (w : World) (hseq : Bk.SeqD F (n - 1 - 1) g lb S N w) :
    CallsIn F n Tryz.prog 128 #[.func (.func g) #[] lb] w fun e w' => ∃ (v : Value) (ss : List Bk.SetV), e = .returned v ∧ S ss ∧ w'.ownsRow w.heap.size 41 2 v ss.length (Bk.cells ss) ∧ (v = .slice none 0 0 ↔ ss = []) ∧ Below w.heap.size w w' ∧ w.drawn ≤ w'.drawn := by
  have h1 : 1 ≤ n := by omega
  have e11 : ∀ args w, (callFunc 136 args).run Tryz.prog w = .ok (.enter 136 args) w := enters_of Tryz.func136 (by kernel_rfl) rfl
  refine callsIn_of_wp Tryz.func128 rfl h8 ?_ hro
  simp only [Tryz.ntmps128, List.size_toArray, List.length_cons, List.length_nil, zA, zS, Array.replicate_succ, Array.replicate_zero, List.push_toArray, List.append_toArray, List.nil_append, List.cons_append]
  gi_wp2_with (gi_at_call 136; refine (Bk.appendSeq_in F (n - 1) h11 hro (by omega) g lb hFg eg S N hN _ hseq).mono ?_; rintro e w' ⟨v, ss, rfl, hS, hrow, hnil, hb, hd⟩)
  go_ret
  exact ⟨v, ss, rfl, hS, hrow, hnil, hb, hd⟩
theorem Bk.perm_lift {α β : Type} (f : α → β) : ∀ {a b : List β} (_ : a.Perm b) (ys : List α), b = ys.map f → ∃ xs : List α, xs.Perm ys ∧ xs.map f = a := by
  intro a b hp
  induction hp with
  | nil => intro ys h; exact ⟨ys, List.Perm.refl _, h.symm⟩
  | cons x _ ih =>
    intro ys h
    cases ys with
    | nil => cases h
    | cons y ys =>
      simp only [List.map_cons, List.cons.injEq] at h
      obtain ⟨xs, h1, h2⟩ := ih ys h.2
      exact ⟨y :: xs, h1.cons y, by simp [h.1, h2]⟩
  | swap x y l =>
    intro ys h
    match ys, h with
    | u :: v :: ys, h =>
      simp only [List.map_cons, List.cons.injEq] at h
      exact ⟨v :: u :: ys, List.Perm.swap .., by simp [h.1, h.2.1, h.2.2]⟩
    | [u], h => simp at h
    | [], h => simp at h
  | trans _ _ ih1 ih2 =>
    intro ys h
    obtain ⟨xs, h1, h2⟩ := ih2 ys h
    obtain ⟨zs, h3, h4⟩ := ih1 xs h2.symm
    exact ⟨zs, h3.trans h1, h4⟩
theorem Bk.enc_inj {p q : Bk.SetV} (h : Bk.enc p = Bk.enc q) : p = q := by
  obtain ⟨a, b, c, d⟩ := p
  obtain ⟨a', b', c', d'⟩ := q
  simp only [Bk.enc, Value.agg.injEq] at h
  simp at h
  simp [h]
variable {n : Nat} {F : Nat → Prop}
/-- The map's values, sorted. -/
theorem Bk.sortedFunc {w : World} (hn : n ≤ 512) (hF : ∀ b, F b → b < w.heap.size) (hgl : GL (immF w F) w) (ys : List (Bk.El n w F)) (hl : ys.length ≤ 1000000) (Bm om b : Nat) (es : Array MapEntry) (clock : Nat)
    (hst : AM.StampOk es.toList clock) (hm : w.cell? ⟨Bm, om, none⟩ = some (.map (some b))) (hmap : w.heap[b]? = some (.map es clock)) (hys : es.toList.map (·.val) = ys.map fun y => Bk.enc y.1.1) :
    Calls Tryz.prog 108 #[.func (.func 130) #[] #[.pointer (some ⟨Bm, om, none⟩)], .func (.func 110) #[] #[]] w fun e w' => ∃ (v : Value) (zs : List (Bk.El n w F)), e = .returned v ∧ zs.Perm ys ∧ zs.Pairwise (fun a b => ¬ cmpS b.1.2 a.1.2 < 0) ∧
      w'.ownsRow w.heap.size 41 2 v zs.length (Bk.cells (zs.map (·.1.1))) ∧ Below w.heap.size w w' ∧ w.drawn ≤ w'.drawn := by
  have hlen : es.size = ys.length := by have := congrArg List.length hys; simpa using this
  have hseq : Bk.SeqD Fence.wide 1 130 #[.pointer (some ⟨Bm, om, none⟩)] (fun ss => (ss.map Bk.enc).Perm (es.toList.map (·.val))) es.size w := fun l J W hW hJ hY h0 => by
    have hBm : Bm < w.heap.size := by
      have := World.block_lt_of_cell? _ _ hm
      exact this
    exact Bk.values_in Fence.wide 1 trivial rfl (Nat.le_refl _) l Bm om b es clock hst (fun e he => by
      have : e.val ∈ es.toList.map (·.val) := List.mem_map.2 ⟨e, he, rfl⟩
      rw [hys] at this
      obtain ⟨y, _, hy⟩ := List.mem_map.1 this
      exact ⟨_, hy.symm⟩) J hY W hJ ((hW.cell (p := ⟨Bm, om, none⟩) hBm).trans hm) ((hW.block b (Array.getElem?_eq_some_iff.1 hmap).1).trans hmap) h0
  have hC := callsIn_wide.1 (Bk.collect_in Fence.wide 3 trivial trivial rfl (Nat.le_refl _) 130 #[.pointer (some ⟨Bm, om, none⟩)] trivial (enters_of Tryz.func130 (by kernel_rfl) rfl) _ es.size (by omega) w hseq)
  have HC : Hid (Calls Tryz.prog 128 #[.func (.func 130) #[] #[.pointer (some ⟨Bm, om, none⟩)]] w fun e w' => ∃ (v : Value) (ss : List Bk.SetV), e = .returned v ∧ (ss.map Bk.enc).Perm (es.toList.map (·.val)) ∧ w'.ownsRow w.heap.size 41 2 v ss.length (Bk.cells ss) ∧ (v = .slice none 0 0 ↔ ss = []) ∧ Below w.heap.size w w' ∧ w.drawn ≤ w'.drawn) := hC
  have HY : Hid (es.toList.map (·.val) = ys.map fun y => Bk.enc y.1.1) := hys
  have HM : Hid (w.heap[b]? = some (.map es clock)) := hmap
  have HL : Hid (es.size = ys.length) := hlen
  clear hseq hC hys hmap hm hlen
  go_enter Tryz.func108, Tryz.ntmps108
  go_wp2_with (go_at_call 128; refine HC.out.mono ?_; rintro e W ⟨v, ss, rfl, hS, hrow, hnil, hb, hd⟩)
  rw [HY.out] at hS
  have hS2 : ss.Perm (ys.map (·.1.1)) := by
    obtain ⟨xs, h1, h2⟩ := Bk.perm_lift Bk.enc hS.symm ss rfl
    have : xs = ys.map (·.1.1) := by
      refine List.map_inj_right (fun {x y} h => Bk.enc_inj h) |>.1 ?_
      rw [h2, List.map_map]; rfl
    rw [← this]; exact h1.symm
  obtain ⟨xs, hxs, rfl⟩ := Bk.perm_lift (fun y : Bk.El n w F => y.1.1) hS2 ys rfl
  have HX : Hid (xs.Perm ys) := hxs
  have hxl : xs.length ≤ 1000000 := by rw [hxs.length_eq]; exact hl
  clear hS hS2 hxs
  rw [List.length_map] at hrow
  rcases hrow.2 with ⟨rfl, hz⟩ | ⟨blk, cap, cur, rfl, hbase, hgb, r1, r2, r3, r4⟩
  · have hx0 : xs = [] := List.eq_nil_of_length_eq_zero hz
    subst hx0
    have hs := AnyF.slices_SortFunc_none Bk.sortL none 0 (.func (.func 110) #[] #[]) W
    change Calls Tryz.prog 129 _ _ _ at hs
    go_wp2_with (go_at_call 129; refine hs.mono ?_; rintro e w' ⟨rfl, rfl⟩)
    go_ret
    exact ⟨_, rfl, [], HX.out, List.Pairwise.nil, by simpa using hrow, hb, hd⟩
  · by_cases hx0 : xs = []
    · exfalso
      subst hx0
      have := hnil.2 rfl
      cases this
    · have hs := Bk.sortFunc hn hF hgl hb hbase xs hx0 hxl hgb (by rw [r3]; exact Nat.mul_le_mul_right _ r1) (cap := cap) r4
      have HS : Hid (Calls Tryz.prog 129 #[.slice (some ⟨blk, 0, none⟩) xs.length cap, .func (.func 110) #[] #[]] W fun e W' => e = .returned (.tuple #[]) ∧ ∃ zs : List (Bk.El n w F), zs.Perm xs ∧ zs.Pairwise (fun a b => ¬ cmpS b.1.2 a.1.2 < 0) ∧
        (∃ cur' : Array Value, W'.heap[blk]? = some (.cells cur' 41 (0, 0)) ∧ cur'.size = cur.size ∧ cur'.toList.take (zs.length * 2) = Bk.cells (zs.map (·.1.1))) ∧ W.grownBy W' (some blk) ∧ W.drawn ≤ W'.drawn) := hs
      clear hs hgb r4
      go_wp2_with (go_at_call 129; refine HS.out.mono ?_; rintro e W2 ⟨rfl, zs, hp, hsd, ⟨cur', g1, g2, g3⟩, hgr, hd2⟩)
      go_ret
      have hzl := hp.length_eq
      refine ⟨_, rfl, zs, hp.trans HX.out, hsd, ⟨by rw [Bk.cells_len, List.length_map], .inr ⟨blk, cap, cur', by rw [hzl]; rfl, hbase, g1, by rw [hzl]; exact r1, r2, by rw [g2]; exact r3, g3⟩⟩, hb.grown hgr hb.size (fun k e => by cases e; exact hbase), Nat.le_trans hd hd2⟩
end Go.Proofs

/- The contract of SortedFunc over Values, in the abstract machine. -/
namespace Go.Proofs.B
open Go.AM Go
set_option maxRecDepth 100000
set_option maxHeartbeats 2000000
def mapS (kv : List (ByteArray × List Bool)) : List (List AV) := kv.map fun p => [.str p.1, .agg (rowB p.2)]
theorem el_of {n : Nat} {x : Cx} (hF' : Nat → Prop) (hFi : ∀ b, x.imm b → immF x.w hF' b) : ∀ (kv : List (ByteArray × List Bool)) (l : List MapEntry), (∀ p ∈ kv, p.2.length = n) → RowsM x l (mapS kv) →
    ∃ ys : List (Bk.El n x.w hF'), l.map (·.val) = ys.map (fun y => Bk.enc y.1.1) ∧ ys.map (·.1.2) = kv.map (·.2)
  | [], [], _, _ => ⟨[], rfl, rfl⟩
  | p :: kv, e :: l, hn, h => by
    obtain ⟨⟨k, v, e1, h1, h2⟩, h3⟩ := h
    simp only [List.cons.injEq, and_true] at e1
    obtain ⟨rfl, rfl⟩ := e1
    obtain ⟨ys, g1, g2⟩ := el_of hF' hFi kv l (fun p hp => hn p (by simp [hp])) h3
    have hp : RelP x.imm x.w (.agg (rowB p.2)) e.val := pureA_rel h2 rfl
    have hp' : RelP (immF x.w hF') x.w (.agg (rowB p.2)) e.val := hp.mono fun b hb => ⟨hFi b hb, rfl⟩
    have hp2 := hp'
    unfold rowB at hp2
    obtain ⟨a, cap, he, _⟩ := set_inv hp2
    refine ⟨⟨((p.2.length, a, (setW p.2 p.2.length).length, cap), p.2), hn p (by simp), by rw [he] at hp'; exact hp'⟩ :: ys, ?_, ?_⟩
    · simp only [List.map_cons, g1, he]
    · simp only [List.map_cons, g2]
  | [], _ :: _, _, h => h.elim
  | _ :: _, [], _, h => h.elim
theorem sorted_u (n : Nat) (hn : n ≤ 512) (kv : List (ByteArray × List Bool)) (hlen : ∀ p ∈ kv, p.2.length = n) (hnd : (kv.map (·.2)).Nodup) (hl : kv.length ≤ 1000000) (g0 v0 g1 v1 : Nat) :
    Upd Tryz.prog 108 [(0, some ⟨g0, v0, 1, [[.mp ⟨1, g1, none⟩]]⟩), (1, some ⟨g1, v1, mapSz, mapS kv⟩)] [.fn 130 [.ptr ⟨0, g0, none⟩ 0 0], .fn 110 []] (fun _ => .rsl 2 ((sortS (kv.map (·.2))).map rowB)) (fun _ => []) := by
  intro c B k ρ w F us _ _ _ hst hul hrel
  match us, hul with
  | [u0, u1], _ =>
  have r0 := hrel 0 (by simp)
  have r1 := hrel 1 (by simp)
  simp only [List.getD_cons_zero, List.getD_cons_succ] at r0 r1
  obtain ⟨vs, rfl, hvl, hvr⟩ := r0.fn_inv
  obtain ⟨vs1, rfl, hvl1, _⟩ := r1.fn_inv
  obtain rfl : vs1 = [] := List.eq_nil_of_length_eq_zero (by simpa using hvl1.symm)
  match vs, hvl with
  | [up], _ =>
  have rp := hvr 0 (by simp)
  simp only [List.getD_cons_zero] at rp
  obtain ⟨ad, rfl, _, hp⟩ := rp.ptr_inv
  obtain ⟨_, b0, base0, hρ0, rfl⟩ := hp 1 [[.mp ⟨1, g1, none⟩]] (by simp [content, rcontent, noMap, mapSz, sget])
  have hp0 : pcontent [(0, some ⟨g0, v0, 1, [[.mp ⟨1, g1, none⟩]]⟩), (1, some ⟨g1, v1, mapSz, mapS kv⟩)] (0, none) = some (1, [[.mp ⟨1, g1, none⟩]]) := by simp [pcontent, sget]
  have hp1 : pcontent [(0, some ⟨g0, v0, 1, [[.mp ⟨1, g1, none⟩]]⟩), (1, some ⟨g1, v1, mapSz, mapS kv⟩)] (1, none) = some (mapSz, mapS kv) := by simp [pcontent, sget]
  change ρ (0, none) = some (b0, base0) at hρ0
  obtain ⟨cs, T, hc1, hc2, hc3⟩ := (hst.rows (0, none) _ _ b0 base0 hp0 hρ0).cells (by decide)
  obtain ⟨um, hm1, hm2⟩ := hc3 0 0 (by simp) (by omega)
  have hm2 : Rel ⟨ρ, [(0, some ⟨g0, v0, 1, [[.mp ⟨1, g1, none⟩]]⟩), (1, some ⟨g1, v1, mapSz, mapS kv⟩)], c, w, F⟩ (.mp ⟨1, g1, none⟩) um := hm2
  obtain ⟨m, rfl, _, hmm⟩ := hm2.mp_inv
  obtain ⟨b1, base1, hρ1, rfl⟩ := hmm (mapS kv) (by simp [mcontent, rcontent, sget])
  change ρ (1, none) = some (b1, base1) at hρ1
  obtain ⟨_, _, l, clock, hmap, hrows, hstamp⟩ := (hst.rows (1, none) _ _ b1 base1 hp1 hρ1).map rfl
  let x : Cx := ⟨ρ, [(0, some ⟨g0, v0, 1, [[.mp ⟨1, g1, none⟩]]⟩), (1, some ⟨g1, v1, mapSz, mapS kv⟩)], c, w, F⟩
  let F' : Nat → Prop := fun b => F b ∨ x.owned b
  have hFi : ∀ b, x.imm b → immF w F' b := fun b hb => ⟨hb.1, fun h => h.elim hb.2.2 hb.2.1⟩
  have hF' : ∀ b, F' b → b < w.heap.size := fun b hb => by
    rcases hb with hb | ⟨π, y, base, h1, h2⟩
    · exact (hst.apart b hb).1
    · exact hst.live_lt h1 h2
  obtain ⟨ys, hy1, hy2⟩ := el_of (n := n) (x := x) F' hFi kv l.toList hlen hrows
  have hyl : ys.length = kv.length := by have := congrArg List.length hy2; simpa using this
  have hcell : w.cell? ⟨b0, base0 + 0 * 1 + 0, none⟩ = some (.map (some b1)) := by
    simp only [World.cell?, hc1]
    simpa using hm1
  refine (Bk.sortedFunc hn hF' (hst.gl.mono fun b hb => ⟨hFi b hb, rfl⟩) ys (by omega) b0 (base0 + 0 * 1 + 0) b1 l clock hstamp hcell hmap hy1).mono ?_
  rintro e w' ⟨v, zs, he, hperm, hsort, hrow, hb, hd⟩
  have hext : Ext (fun _ => False) w w' := ⟨hb.os, hb.tape, hb.output, hb.size, fun k hk _ => hb.block k hk, hd⟩
  have hgo := hst.goes_grow (s' := []) (c' := fun g => c g ∨ g = k ∨ g = k + 1) (w' := w') (fun id R e => by simp [sget] at e) (fun g hg => .inl hg) hext
  refine ⟨v, ρ, he, hgo, .pure _ _ ?_⟩
  have hz : zs.map (·.1.2) = sortS (kv.map (·.2)) := by
    have hmem : ∀ a, a ∈ zs.map (·.1.2) ↔ a ∈ kv.map (·.2) := fun a => by rw [(hperm.map _).mem_iff, hy2]
    have hl1 : ∀ a ∈ kv.map (·.2), a.length = n := fun a ha => by obtain ⟨p, hp, rfl⟩ := List.mem_map.1 ha; exact hlen p hp
    refine StrS.unique (n := n) (fun a ha => hl1 a ((hmem a).1 ha)) (fun a ha => hl1 a ((sortS_mem _ a).1 ha)) ?_ (sortS_str hl1) (fun a => by rw [hmem, sortS_mem])
    have hnz : (zs.map (·.1.2)).Nodup := by rw [(hperm.map _).nodup_iff, hy2]; exact hnd
    unfold StrS
    rw [List.pairwise_map]
    have h1 : zs.Pairwise fun a b => a.1.2 ≠ b.1.2 := List.pairwise_map.1 hnz
    exact (h1.and hsort).imp fun {a b} ⟨e, h⟩ => by
      rcases cmpS_total (a := a.1.2) (b := b.1.2) (by rw [a.2.1, b.2.1]) e with h2 | h2
      · exact h2
      · exact absurd h2 h
  rw [← hz, List.map_map]
  have himm : ∀ b, immF w F' b → Cx.imm ⟨ρ, [], fun g => c g ∨ g = k ∨ g = k + 1, w', F⟩ b ∧ w'.heap[b]? = w.heap[b]? := fun b hb' =>
    ⟨⟨Nat.lt_of_lt_of_le hb'.1 hb.size, fun ⟨π, y, base, e1, _⟩ => by simp [pcontent, sget] at e1, fun h => hb'.2 (.inl h)⟩, hb.block b hb'.1⟩
  rcases hrow.2 with ⟨rfl, hz0⟩ | ⟨blk, cap, cur, rfl, hbase, hgb, q1, q2, q3, q4⟩
  · have : zs = [] := List.eq_nil_of_length_eq_zero hz0
    subst this
    exact .rnil 2 none 0
  · have hlz : (zs.map ((fun b => rowB b) ∘ fun x => x.1.2)).length = zs.length := by simp
    rw [show zs.length = (zs.map (rowB ∘ fun x => x.1.2)).length by simp]
    refine .rsl 2 _ blk 0 cap (fun i j => ((Bk.encC (((zs[i]?).map (·.1.1)).getD default)).getD j undef)) (by simpa using q1) ⟨(Array.getElem?_eq_some_iff.1 hgb).1, fun ⟨π, y, base, e1, _⟩ => by simp [pcontent, sget] at e1, fun h => ?_⟩ (fun e he => by obtain ⟨z, _, rfl⟩ := List.mem_map.1 he; rfl) (fun i j hi hj => ?_) (fun i j hi hj => ?_)
    · have := (hst.apart blk h).1
      simp only at this
      omega
    · have hi : i < zs.length := by simpa using hi
      have hcur : cur[i * 2 + j]? = some ((Bk.encC (((zs[i]?).map (·.1.1)).getD default)).getD j undef) := by
        have h1 : (cur.toList.take (zs.length * 2))[i * 2 + j]? = (Bk.cells (zs.map (·.1.1)))[i * 2 + j]? := by rw [q4]
        rw [List.getElem?_take_of_lt (by omega), Array.getElem?_toList] at h1
        haveI : Inhabited Bk.SetV := ⟨(0, none, 0, 0)⟩
        rw [h1, Bk.cells, Bk.flat_get Bk.encC (fun _ => rfl) (zs.map (·.1.1)) (i * 2 + j) (by simp; omega), show (i * 2 + j) / 2 = i by omega, show (i * 2 + j) % 2 = j by omega]
        match j, hj with
        | 0, _ => simp [List.getD_eq_getElem?_getD, List.getElem?_map, hi]
        | 1, _ => simp [List.getD_eq_getElem?_getD, List.getElem?_map, hi]
      simp only [World.cell?, hgb, Nat.zero_add]
      simpa using hcur
    · have hi : i < zs.length := by simpa using hi
      have hz := (zs[i]).2.2.mono himm
      have hrow' : (zs.map (rowB ∘ fun x => x.1.2)).getD i [] = rowB (zs[i]).1.2 := by simp [List.getD_eq_getElem?_getD, List.getElem?_map, hi]
      rw [hrow']
      have hg : ((zs[i]?).map (·.1.1)).getD default = (zs[i]).1.1 := by simp [hi]
      rw [hg]
      unfold rowB at hz ⊢
      cases hz with
      | agg _ vs hl hr =>
        have h1 := hr j (by simp; omega)
        exact h1
end Go.Proofs.B

/- The ideals of an order, plainly. -/
namespace Go.AM
/-- The elements that can be added, given the rows of what lies below. -/
def nextU (u : List (List Bool)) (b : List Bool) (k : Nat) : List Nat := (List.range k).filter fun i => !b.getD i false && subB (u.getD i []) b
theorem nextU_succ (u : List (List Bool)) (b : List Bool) (k : Nat) : nextU u b (k + 1) = if (!b.getD k false && subB (u.getD k []) b) = true then nextU u b k ++ [k] else nextU u b k := by
  unfold nextU; rw [List.range_succ, List.filter_append]; simp only [List.filter_cons, List.filter_nil]; split <;> simp
theorem nextU_le (u : List (List Bool)) (b : List Bool) (k : Nat) : (nextU u b k).length ≤ k := by
  unfold nextU; have := List.length_filter_le (fun i => !b.getD i false && subB (u.getD i []) b) (List.range k); simpa using this
theorem nextU_lt {u : List (List Bool)} {b : List Bool} {k i : Nat} (h : i ∈ nextU u b k) : i < k := by
  unfold nextU at h; simpa using (List.mem_filter.1 h).1
/-- A list with one member more, if it is new. -/
def addB (l : List (List Bool)) (b : List Bool) : List (List Bool) := if b ∈ l then l else l ++ [b]
def dedF (l : List (List Bool)) : List (List Bool) := l.foldl addB []
theorem dedF_snoc (l : List (List Bool)) (b : List Bool) : dedF (l ++ [b]) = addB (dedF l) b := by simp [dedF]
theorem addB_mem (l : List (List Bool)) (b a : List Bool) : a ∈ addB l b ↔ a ∈ l ∨ a = b := by
  unfold addB
  split
  · rename_i h
    exact ⟨.inl, fun h' => h'.elim id fun e => by rw [e]; exact h⟩
  · simp
theorem addB_len (l : List (List Bool)) (b : List Bool) : (addB l b).length ≤ l.length + 1 := by
  unfold addB; split <;> simp
theorem addB_nodup {l : List (List Bool)} (h : l.Nodup) (b : List Bool) : (addB l b).Nodup := by
  unfold addB
  split
  · exact h
  · rename_i hn
    refine List.nodup_append.2 ⟨h, List.nodup_cons.2 ⟨by simp, List.nodup_nil⟩, fun a ha c hc e => ?_⟩
    simp only [List.mem_singleton] at hc
    subst hc; subst e
    exact hn ha
theorem foldl_add_mem : ∀ (l m : List (List Bool)) (a : List Bool), a ∈ l.foldl addB m ↔ a ∈ m ∨ a ∈ l
  | [], m, a => by simp
  | b :: l, m, a => by
    rw [List.foldl_cons, foldl_add_mem l, addB_mem, List.mem_cons]
    constructor
    · rintro ((h | h) | h)
      · exact .inl h
      · exact .inr (.inl h)
      · exact .inr (.inr h)
    · rintro (h | h | h)
      · exact .inl (.inl h)
      · exact .inl (.inr h)
      · exact .inr h
theorem foldl_add_nodup : ∀ (l m : List (List Bool)), m.Nodup → (l.foldl addB m).Nodup
  | [], _, h => h
  | b :: l, m, h => foldl_add_nodup l _ (addB_nodup h b)
theorem dedF_mem (l : List (List Bool)) (a : List Bool) : a ∈ dedF l ↔ a ∈ l := by unfold dedF; rw [foldl_add_mem]; simp
theorem dedF_nodup (l : List (List Bool)) : (dedF l).Nodup := foldl_add_nodup l [] List.nodup_nil
def kids (u : List (List Bool)) (b : List Bool) : List (List Bool) := (nextU u b b.length).map fun i => b.set i true
theorem kids_len {u : List (List Bool)} {b c : List Bool} (h : c ∈ kids u b) : c.length = b.length := by
  obtain ⟨i, _, rfl⟩ := List.mem_map.1 h; simp
/-- What is found from the first sets of a level, and the first children of the next one. -/
def fnd (u : List (List Bool)) (L : List (List Bool)) (i : Nat) : List (List Bool) := dedF ((L.take i).flatMap (kids u))
def fnd2 (u : List (List Bool)) (L : List (List Bool)) (i j : Nat) (b : List Bool) : List (List Bool) := dedF ((L.take i).flatMap (kids u) ++ (kids u b).take j)
theorem fnd2_zero (u L : List (List Bool)) (i : Nat) (b : List Bool) : fnd2 u L i 0 b = fnd u L i := by simp [fnd2, fnd]
theorem fnd2_succ {u L : List (List Bool)} {i j : Nat} {b c : List Bool} (h : (kids u b)[j]? = some c) : fnd2 u L i (j + 1) b = addB (fnd2 u L i j b) c := by
  unfold fnd2
  rw [List.take_add_one, h, Option.toList_some, ← List.append_assoc, dedF_snoc]
theorem fnd2_end {u L : List (List Bool)} {i j : Nat} {b : List Bool} (hb : L[i]? = some b) (hj : (kids u b).length ≤ j) : fnd2 u L i j b = fnd u L (i + 1) := by
  unfold fnd2 fnd
  rw [List.take_of_length_le hj, List.take_add_one, hb]
  simp
theorem fnd_len {n : Nat} {u L : List (List Bool)} (hL : ∀ b ∈ L, b.length = n) (i : Nat) : ∀ a ∈ fnd u L i, a.length = n := fun a ha => by
  obtain ⟨b, hb, h⟩ := List.mem_flatMap.1 ((dedF_mem _ a).1 ha)
  rw [kids_len h, hL b (List.mem_of_mem_take hb)]
theorem fnd2_len {n : Nat} {u L : List (List Bool)} (hL : ∀ b ∈ L, b.length = n) (i j : Nat) {b : List Bool} (hb : b.length = n) : ∀ a ∈ fnd2 u L i j b, a.length = n := fun a ha => by
  rcases List.mem_append.1 ((dedF_mem _ a).1 ha) with h | h
  · obtain ⟨b, hb, h⟩ := List.mem_flatMap.1 h
    rw [kids_len h, hL b (List.mem_of_mem_take hb)]
  · rw [kids_len (List.mem_of_mem_take h), hb]
/-- The next level. -/
def lvlN (u L : List (List Bool)) : List (List Bool) := sortS (fnd u L L.length)
def lvlK (u : List (List Bool)) (n : Nat) : Nat → List (List Bool)
  | 0 => [List.replicate n false]
  | k + 1 => lvlN u (lvlK u n k)
def outK (u : List (List Bool)) (n k : Nat) : List (List Bool) := (List.range k).flatMap (lvlK u n)
theorem outK_succ (u : List (List Bool)) (n k : Nat) : outK u n (k + 1) = outK u n k ++ lvlK u n k := by simp [outK, List.range_succ]
theorem sortS_length {n : Nat} {l : List (List Bool)} (hl : ∀ a ∈ l, a.length = n) (hn : l.Nodup) : (sortS l).length = l.length := by
  have h1 : (sortS l).Nodup := (sortS_str hl).imp fun {a b} h e => by subst e; rw [cmpS_self] at h; omega
  exact ((List.perm_ext_iff_of_nodup h1 hn).2 fun a => sortS_mem l a).length_eq
theorem lvlK_len (u : List (List Bool)) (n : Nat) : ∀ k, ∀ b ∈ lvlK u n k, b.length = n
  | 0, b, h => by simp [lvlK] at h; subst h; simp
  | k + 1, b, h => fnd_len (lvlK_len u n k) _ b ((sortS_mem _ b).1 h)
theorem fnd_nodup (u L : List (List Bool)) (i : Nat) : (fnd u L i).Nodup := dedF_nodup _
theorem lvlN_length {n : Nat} {u L : List (List Bool)} (hL : ∀ b ∈ L, b.length = n) : (lvlN u L).length = (fnd u L L.length).length := sortS_length (fnd_len hL _) (fnd_nodup _ _ _)
theorem fnd2_sub {u L : List (List Bool)} {i j : Nat} {b : List Bool} (hb : L[i]? = some b) : ∀ a ∈ fnd2 u L i j b, a ∈ fnd u L L.length := fun a ha => by
  unfold fnd
  rw [dedF_mem, List.take_of_length_le (Nat.le_refl _)]
  rcases List.mem_append.1 ((dedF_mem _ a).1 ha) with h | h
  · obtain ⟨c, hc, h⟩ := List.mem_flatMap.1 h
    exact List.mem_flatMap.2 ⟨c, List.mem_of_mem_take hc, h⟩
  · exact List.mem_flatMap.2 ⟨b, List.mem_of_getElem? hb, List.mem_of_mem_take h⟩
theorem subL_len {l m : List (List Bool)} (hl : l.Nodup) (h : ∀ a ∈ l, a ∈ m) : l.length ≤ m.length := by
  induction l generalizing m with
  | nil => simp
  | cons x l ih =>
    obtain ⟨h1, h2⟩ := List.nodup_cons.1 hl
    have hx := h x (by simp)
    have := ih (m := m.erase x) h2 fun a ha => (List.mem_erase_of_ne (fun e => h1 (by rw [← e]; exact ha))).2 (h a (by simp [ha]))
    rw [List.length_erase_of_mem hx] at this
    have := List.length_pos_of_mem hx
    rw [List.length_cons]; omega
theorem fnd2_le {n : Nat} {u : List (List Bool)} {k i j : Nat} {b : List Bool} (hb : (lvlK u n k)[i]? = some b) : (fnd2 u (lvlK u n k) i j b).length ≤ (lvlK u n (k + 1)).length := by
  show _ ≤ (lvlN u (lvlK u n k)).length
  rw [lvlN_length (lvlK_len u n k)]
  exact subL_len (dedF_nodup _) (fnd2_sub hb)
theorem cnt_set {b : List Bool} {i : Nat} (hi : i < b.length) (h : b.getD i false = false) : (memB (b.set i true)).length = (memB b).length + 1 := by
  have e : ∀ c : List Bool, (memB c).length = c.count true := by
    intro c
    unfold memB
    induction c with
    | nil => rfl
    | cons x c ih =>
      rw [List.length_cons, List.range_succ_eq_map, List.filter_cons]
      have : (List.filter ((fun i => (x :: c).getD i false) ∘ Nat.succ) (List.range c.length)).length = c.count true := by
        rw [← ih]; rfl
      rw [List.filter_map, List.count_cons, ← this]
      cases x <;> simp
  rw [e, e]
  have hg : b[i] = false := by simpa [List.getD_eq_getElem?_getD, hi] using h
  rw [List.count_set (h := hi)]
  simp [hg]
theorem kids_cnt {u : List (List Bool)} {b c : List Bool} (h : c ∈ kids u b) : (memB c).length = (memB b).length + 1 := by
  obtain ⟨i, hi, rfl⟩ := List.mem_map.1 h
  have hlt := nextU_lt hi
  refine cnt_set hlt ?_
  unfold nextU at hi
  have := (List.mem_filter.1 hi).2
  simp at this
  simpa using this.1
theorem lvlK_cnt (u : List (List Bool)) (n : Nat) : ∀ k, ∀ b ∈ lvlK u n k, (memB b).length = k
  | 0, b, h => by
    simp [lvlK] at h
    subst h
    unfold memB
    rw [List.length_eq_zero_iff, List.filter_eq_nil_iff]
    intro i hi
    simp only [List.getD_eq_getElem?_getD, List.getElem?_replicate]
    split <;> simp
  | k + 1, b, h => by
    have h := (dedF_mem _ b).1 ((sortS_mem _ b).1 h)
    obtain ⟨c, hc, h⟩ := List.mem_flatMap.1 h
    rw [kids_cnt h, lvlK_cnt u n k c (List.mem_of_mem_take hc)]
theorem lvlK_le {u : List (List Bool)} {n k : Nat} {b : List Bool} (h : b ∈ lvlK u n k) : k ≤ n := by
  have h1 := lvlK_cnt u n k b h
  have h2 := lvlK_len u n k b h
  have : (memB b).length ≤ b.length := by unfold memB; have := List.length_filter_le (fun i => b.getD i false) (List.range b.length); simpa using this
  omega
theorem lvlK_nil {u : List (List Bool)} {n k : Nat} (h : n < k) : lvlK u n k = [] := by
  cases hl : lvlK u n k with
  | nil => rfl
  | cons b l =>
    have := lvlK_le (u := u) (n := n) (k := k) (b := b) (by rw [hl]; simp)
    omega
theorem lvlK_stop {u : List (List Bool)} {n k : Nat} (h : lvlK u n k = []) : ∀ j, lvlK u n (k + j) = []
  | 0 => h
  | j + 1 => by
    show lvlN u (lvlK u n (k + j)) = []
    rw [lvlK_stop h j]; rfl
theorem outK_stop {u : List (List Bool)} {n k : Nat} (h : lvlK u n k = []) : ∀ j, outK u n (k + j) = outK u n k
  | 0 => rfl
  | j + 1 => by rw [← Nat.add_assoc, outK_succ, outK_stop h j, lvlK_stop h j, List.append_nil]
theorem outK_mono (u : List (List Bool)) (n : Nat) {j k : Nat} (h : j ≤ k) : (outK u n j).length ≤ (outK u n k).length := by
  induction h with
  | refl => exact Nat.le_refl _
  | step _ ih => rw [outK_succ, List.length_append]; omega
/-- All that the search gives. -/
def allU (u : List (List Bool)) (n : Nat) : List (List Bool) := outK u n (n + 1)
theorem allU_ge (u : List (List Bool)) (n k : Nat) : (outK u n k).length ≤ (allU u n).length := by
  unfold allU
  rcases Nat.le_total k (n + 1) with h | h
  · exact outK_mono u n h
  · obtain ⟨j, rfl⟩ := Nat.exists_eq_add_of_le h
    rw [outK_stop (lvlK_nil (Nat.lt_succ_self n))]
    exact Nat.le_refl _
theorem allU_stop {u : List (List Bool)} {n k : Nat} (h : lvlK u n k = []) : outK u n k = allU u n := by
  unfold allU
  rcases Nat.le_total k (n + 1) with hk | hk
  · obtain ⟨j, hj⟩ := Nat.exists_eq_add_of_le hk
    rw [hj, outK_stop h]
  · obtain ⟨j, rfl⟩ := Nat.exists_eq_add_of_le hk
    rw [outK_stop (lvlK_nil (Nat.lt_succ_self n))]
theorem scP_tabS (t : List (List Bool)) : scP (tabR t) := fun cs h a ha => by
  simp only [tabR, List.mem_map] at h
  obtain ⟨b, _, rfl⟩ := h
  simp only [rowB, List.mem_cons, List.not_mem_nil, or_false] at ha
  rcases ha with rfl | rfl <;> rfl
end Go.AM

namespace Go.Proofs.B
open Go.AM Go
set_option maxRecDepth 100000
set_option maxHeartbeats 4000000
theorem rowN_r (b : List Bool) (hb : b.length ≤ 512) (i : Nat) (hi : i < b.length) : Reads Tryz.prog 90 false [.agg (rowB b), .int .i64 i] (.bool (b.getD i false)) := by
 have h := rowH_r b hb (i : Int)
 rwa [show (decide (0 ≤ (i : Int)) && decide ((i : Int) < b.length) && b.getD (i : Int).toNat false) = b.getD i false by simp; intro; omega] at h
theorem interf_r (a b : Int) : Reads Tryz.prog 63 false [.int .u64 a, .int .u64 b] (.int .u64 (bAnd .u64 a b)) := by
 refine Reads.body (rs := [.tmp 4]) Tryz.func63 rfl Tryz.ntmps63 rfl (by simp) ?_
 generalize hQr : retQ _ _ _ = Qr
 refine AW.sg [0,1] [] trivial ?_
 refine AW.sg [4] [] trivial ?_
 rw [← hQr]
 refine AW.rt trivial ?_
 exact Wk.of_eq rfl
theorem inter_r (a b : List Bool) (ha : a.length ≤ 512) (hl : b.length = a.length) : Reads Tryz.prog 20 false [.agg (rowB a), .agg (rowB b)] (.tup [.agg (rowB (List.zipWith (· && ·) a b)), .int .i64 ((0 : Nat) : Int)]) := by
 have hz := zipW_setW bitOp_and (a := a) (b := b) hl.symm
 have h := combined_r a.length b.length (setW a a.length) (setW b b.length) 63 (bAnd .u64) (setB_len ha) (setB_len (by omega)) (by rw [setW_len', setW_len', hl]) (by rw [validS_setW ha, validS_setW (by omega), hl]; simp) (by kernel_rfl) interf_r
 have e : (List.zipWith (· && ·) a b).length = a.length := by simp [hl]
 rw [hz] at h
 unfold rowB
 rw [e]
 refine Reads.body (rs := [.cell 4 41, .tmp 5]) Tryz.func20 rfl Tryz.ntmps20 rfl (by simp) ?_
 generalize hQr : retQ _ _ _ = Qr
 refine AW.sg [2,3,4] [2,3,4] trivial ?_
 refine AW.so 0 (fun ii => if ii = 2 then some (.reads false (.tup [.agg [.int .i64 a.length, .rsl 1 (words (setW (List.zipWith (· && ·) a b) a.length))], .int .i64 ((0 : Nat) : Int)])) else none) [4,5] [4] trivial ?_
 repeat with_reducible refine cj ?_ ?_
 all_goals try first | (exact h) | omega | exact ent (by kernel_rfl)
 rw [← hQr]
 refine AW.rt trivial ?_
 exact Wk.refl _
theorem below_r (n : Nat) (t : List (List Bool)) (hs : Sq n t) (hn : n ≤ 512) : Reads Tryz.prog 104 false [relB t] (.rsl 2 (tabR (invT n t))) := by
 have h := inverse_g n t hs hn
 unfold relB at *
 refine Reads.body (rs := [.tmp 2]) Tryz.func104 rfl Tryz.ntmps104 rfl (by simp) ?_
 generalize hQr : retQ _ _ _ = Qr
 refine AW.sg [1] [1] trivial ?_
 refine AW.so 0 (fun ii => if ii = 1 then some (.reads false (.tup [.agg [.rsl 2 (tabR (invT n t))], .int .i64 ((0 : Nat) : Int)])) else none) [3] [3] trivial ?_
 repeat with_reducible refine cj ?_ ?_
 all_goals try first | (exact h) | omega | exact ent (by kernel_rfl)
 refine AW.sg [2] [] trivial ?_
 rw [← hQr]
 refine AW.rt trivial ?_
 exact Wk.refl _
theorem next_r (u : List (List Bool)) (b : List Bool) (hb : b.length ≤ 512) (hu : u.length = b.length) (hr : ∀ i, i < b.length → (u.getD i []).length = b.length) : Reads Tryz.prog 105 false [.rsl 2 (tabR u), .agg (rowB b)] (.rsl 1 (ints (nats (nextU u b b.length)))) := by
 have hul := tabR_len u
 have hget : ∀ i, i < b.length → (tabR u).getD i [] = rowB (u.getD i []) := fun i hi => by rw [tabR_get (by omega)]; rfl
 have hh := rowN_r b hb
 have hsub : ∀ i, i < b.length → Reads Tryz.prog 52 false [.agg (rowB (u.getD i [])), .agg (rowB b)] (.bool (subB (u.getD i []) b)) := fun i hi => subset_r _ b (by rw [hr i hi]; exact hb) (by rw [hr i hi])
 unfold rowB at *
 refine Reads.body (rs := [.tmp 4]) Tryz.func105 rfl Tryz.ntmps105 rfl (by simp) ?_
 generalize hQr : retQ _ _ _ = Qr
 refine AW.sg [0,3] [3] trivial ?_
 refine AW.sg [0,3,5] [3] trivial ?_
 refine AW.seq fun K1 hK1 => ?_
 refine AW.sg [3,5,8,9,10] [3] trivial ?_
 refine AW.block ?_
 refine AW.nilOwn 5 200 1 (by simp only [go_sem, reduceIte, zE]) ?_
 refine AW.keep [3, 5, 8, 9, 10] [3, 200] ?_
 simp only [go_sem, reduceIte, zE]
 refine AW.loopE (fun mm ee ss kk => ∃ (i g3 v3 g v : Nat), b.length - i = mm ∧ ee = [(3, .ptr ⟨3, g3, none⟩ 0 0), (5, .sl ⟨200, g, none⟩ 0 (nextU u b i).length none), (8, .rsl 2 (tabR u)), (9, .int .i64 b.length), (10, .int .i64 (i : Nat))] ∧ ss = [(3, some ⟨g3, v3, 2, [[.int .i64 b.length, .rsl 1 (words (setW b b.length))]]⟩), (200, some ⟨g, v, 1, ints (nats (nextU u b i))⟩)] ∧ (i ≤ b.length)) ?_ ?_
 ·exact ⟨_, 0, _, _, _, _, rfl, eD, eD, eT⟩
 rintro mm ee ss kk ⟨i, g3, v3, g, v, rfl, rfl, rfl, hI⟩
 generalize hQl1 : thenQ _ _ = Ql1
 refine AW.sg [3,5,8,9,10,11] [3,200] trivial ?_
 refine AW.seq fun K2 hK2 => ?_
 refine AW.cn ?_ ?_
 ·intro hb
  have hbr := hh i (by omega)
  have hsr := hsub i (by omega)
  have hg := hget i (by omega)
  have hms := nextU_succ u b i
  have hml := nextU_le u b i
  have htk : (ints (nats (nextU u b i))).take (nextU u b i).length = ints (nats (nextU u b i)) := List.take_of_length_le (by rw [ints_len, nats_len]; exact Nat.le_refl _)
  generalize nextU u b i = M at *
  refine AW.skip ?_
  refine hK2 _ _ _ ?_; clear hK2
  refine AW.seq fun K3 hK3 => ?_
  refine AW.block ?_
  refine AW.sg [3,5,6,7,8,9,10] [3,7,200] (e3 @hg @hul @hu) ?_
  refine AW.so 0 (fun ii => if ii = 2 then some (.reads false (.bool (b.getD i false))) else if ii = 7 then some (.reads false (.bool (subB (u.getD i []) b))) else none) [3,5,6,8,9,10,23] [3,200] trivial ?_
  repeat with_reducible refine cj ?_ ?_
  all_goals try first | (first | exact hbr | exact hsr | (intro hq; exact ⟨hq, hsr⟩)) | (intros; (repeat' apply And.intro) <;> first | assumption | (first | exact hbr | exact hsr | (intro hq; exact ⟨hq, hsr⟩))) | omega | exact ent (by kernel_rfl) | (intro hgd; exact absurd hgd (by decide)) | rfl | exact gD | (intro _hgd; simp_all [go_sem]; done)
  refine AW.cn ?_ ?_
  ·intro hb
   rw [if_pos (by simpa using hb)] at hms
   refine AW.regionK 0 (fun _ => none) [3, 5, 8, 9, 10] [3, 200] ?_
   simp only [go_sem, reduceIte, reduceCtorEq, zA, zM, zE, zL, zD, zS, zP, zB, zI, zR, htk, ints_app, nats_app, nats_len, ints_len]
   repeat with_reducible refine cj ?_ ?_
   all_goals try first | omega | (simp [scP, scalar]; done) | exact scP_words _ | exact scP_ints _ | exact scP_bools _
   refine hK3 _ _ _ ?_; clear hK3
   refine AW.rg [3,5,8,9,10] [3,200] trivial ?_
   rw [← hQl1]; change Exists _
   refine ⟨_, ?hm, i + 1, ?_, ?_, ?_, ?_, rfl, ?henv, ?hstore, ?hst⟩
   case henv =>
    repeat' (first | rfl | apply env_cons | apply st_cons | apply int_eq | apply bool_eq | apply rsl_eq | apply osl_eq | apply sl_eq | apply ptr_eq | apply agg_eq | apply es_cons | apply row_cons)
    all_goals (rw [hms]; try simp)
   case hstore =>
    repeat' (first | rfl | apply env_cons | apply st_cons | apply int_eq | apply bool_eq | apply rsl_eq | apply osl_eq | apply sl_eq | apply ptr_eq | apply agg_eq | apply es_cons | apply row_cons)
    all_goals (rw [hms])
   case hst =>
    first | trivial | omega | (simp; done) | (simp; omega)
   case hm => omega
  ·intro hb
   rw [if_neg (by cases h1 : b.getD i false <;> cases h2 : subB (u.getD i []) b <;> simp_all)] at hms
   refine AW.skip ?_
   refine hK3 _ _ _ ?_; clear hK3
   refine AW.rg [3,5,8,9,10] [3,200] trivial ?_
   rw [← hQl1]; change Exists _
   refine ⟨_, ?hm, i + 1, ?_, ?_, ?_, ?_, rfl, ?henv, ?hstore, ?hst⟩
   case henv =>
    repeat' (first | rfl | apply env_cons | apply st_cons | apply int_eq | apply bool_eq | apply rsl_eq | apply osl_eq | apply sl_eq | apply ptr_eq | apply agg_eq | apply es_cons | apply row_cons)
    all_goals (rw [hms]; try simp)
   case hstore =>
    repeat' (first | rfl | apply env_cons | apply st_cons | apply int_eq | apply bool_eq | apply rsl_eq | apply osl_eq | apply sl_eq | apply ptr_eq | apply agg_eq | apply es_cons | apply row_cons)
    all_goals (rw [hms])
   case hst =>
    first | trivial | omega | (simp; done) | (simp; omega)
   case hm => omega
 ·intro hb
  refine AW.exit ?_
  rw [← hQl1]
  refine hK1 _ _ _ ?_; clear hK1
  refine AW.sg [4] [200] trivial ?_
  rw [← hQr]
  refine AW.rt trivial ?_
  have hi : i = b.length := by omega
  subst hi
  have htk : (ints (nats (nextU u b b.length))).take (nextU u b b.length).length = ints (nats (nextU u b b.length)) := List.take_of_length_le (by rw [ints_len, nats_len]; exact Nat.le_refl _)
  refine Wk.of_eq ?_
  rw [List.take_of_length_le (by rw [nats_len]; exact Nat.le_refl _)]
end Go.Proofs.B

namespace Go.Proofs.B
open Go.AM Go
set_option maxRecDepth 100000
set_option maxHeartbeats 2000000
end Go.Proofs.B

/- A set's text belongs to it alone. -/
namespace Go.Proofs.B
open Go.AM Go
theorem hexc_inj : ∀ a b : Fin 16, Bk.hexc a.1 = Bk.hexc b.1 → a = b := by decide
theorem hexc_ne : ∀ a : Fin 16, Bk.hexc a.1 ≠ 46 := by decide
theorem hexL_val : ∀ (k x y : Nat), x < 16 ^ (k + 1) → y < 16 ^ (k + 1) → (∀ j, j ≤ k → x / 16 ^ j % 16 = y / 16 ^ j % 16) → x = y
  | 0, x, y, hx, hy, h => by
    have := h 0 (Nat.le_refl _)
    simp at hx hy this
    omega
  | k + 1, x, y, hx, hy, h => by
    have h0 := h 0 (Nat.zero_le _)
    have ih := hexL_val k (x / 16) (y / 16) (by rw [Nat.pow_succ] at hx; omega) (by rw [Nat.pow_succ] at hy; omega) fun j hj => by
      have := h (j + 1) (by omega)
      rwa [Nat.pow_succ, Nat.mul_comm, ← Nat.div_div_eq_div_mul, ← Nat.div_div_eq_div_mul] at this
    simp at h0
    omega
theorem hexK_lt : ∀ (n x : Nat), x < 16 ^ n → x < 16 ^ (Bk.hexK n x + 1)
  | 0, x, h => by simp at h; subst h; simp [Bk.hexK]
  | n + 1, x, h => by
    unfold Bk.hexK
    split
    · simpa
    · have := hexK_lt n (x / 16) (by rw [Nat.pow_succ] at h; omega)
      rw [Nat.pow_succ]
      omega
theorem hexT_inj {x y : Nat} (hx : x < 18446744073709551616) (hy : y < 18446744073709551616) (h : Bk.hexT x = Bk.hexT y) : x = y := by
  unfold Bk.hexT at h
  have h1 := hexK_lt 17 x (Nat.lt_of_lt_of_le hx (by decide))
  have h2 := hexK_lt 17 y (Nat.lt_of_lt_of_le hy (by decide))
  have hl := congrArg List.length h
  simp only [Bk.hexL, List.length_map, List.length_range] at hl
  have hk : Bk.hexK 17 x = Bk.hexK 17 y := by omega
  rw [← hk] at h h2
  generalize Bk.hexK 17 x = k at *
  refine hexL_val k x y h1 h2 fun j hj => ?_
  have := congrArg (fun l => l[k - j]?) h
  simp only [Bk.hexL, List.getElem?_map, List.getElem?_range (show k - j < k + 1 by omega), Option.map_some, Option.some.injEq, show k - (k - j) = j by omega] at this
  have := hexc_inj ⟨x / 16 ^ j % 16, Nat.mod_lt _ (by decide)⟩ ⟨y / 16 ^ j % 16, Nat.mod_lt _ (by decide)⟩ this
  exact congrArg Fin.val this
theorem hexT_dot (x : Nat) : ∀ c ∈ Bk.hexT x, c ≠ 46 := fun c hc => by
  unfold Bk.hexT Bk.hexL at hc
  obtain ⟨j, _, rfl⟩ := List.mem_map.1 hc
  exact hexc_ne ⟨_, Nat.mod_lt _ (by decide)⟩
theorem dot_split : ∀ {a b r s : List UInt8} (_ : ∀ c ∈ a, c ≠ 46) (_ : ∀ c ∈ b, c ≠ 46), a ++ 46 :: r = b ++ 46 :: s → a = b ∧ r = s
  | [], [], r, s, _, _, h => by simp at h; exact ⟨rfl, h⟩
  | [], y :: b, r, s, _, hb, h => by simp at h; exact absurd h.1.symm (hb y (by simp))
  | x :: a, [], r, s, ha, _, h => by simp at h; exact absurd h.1 (ha x (by simp))
  | x :: a, y :: b, r, s, ha, hb, h => by
    simp only [List.cons_append, List.cons.injEq] at h
    obtain ⟨h1, h2⟩ := dot_split (fun c hc => ha c (by simp [hc])) (fun c hc => hb c (by simp [hc])) h.2
    exact ⟨by rw [h.1, h1], h2⟩
theorem textL_cons (x : Nat) (ws : List Nat) : Bk.textL (x :: ws) = Bk.hexT x ++ 46 :: Bk.textL ws := by simp [Bk.textL]
theorem textL_inj : ∀ {ws vs : List Nat} (_ : ∀ x ∈ ws, x < 18446744073709551616) (_ : ∀ x ∈ vs, x < 18446744073709551616), Bk.textL ws = Bk.textL vs → ws = vs
  | [], [], _, _, _ => rfl
  | [], y :: vs, _, _, h => by rw [textL_cons] at h; simp [Bk.textL] at h
  | x :: ws, [], _, _, h => by rw [textL_cons] at h; simp [Bk.textL] at h
  | x :: ws, y :: vs, hw, hv, h => by
    rw [textL_cons, textL_cons] at h
    obtain ⟨h1, h2⟩ := dot_split (hexT_dot x) (hexT_dot y) h
    rw [hexT_inj (hw x (by simp)) (hv y (by simp)) h1, textL_inj (fun z hz => hw z (by simp [hz])) (fun z hz => hv z (by simp [hz])) h2]
def keyB (b : List Bool) : ByteArray := ⟨(Bk.textL ((setW b b.length).map Int.toNat)).toArray⟩
theorem keyB_inj {a b : List Bool} (hl : b.length = a.length) (h : keyB a = keyB b) : a = b := by
  unfold keyB at h
  have h1 : Bk.textL ((setW a a.length).map Int.toNat) = Bk.textL ((setW b b.length).map Int.toNat) := by
    have := congrArg (fun z : ByteArray => z.data.toList) h
    simpa using this
  have hlt : ∀ c : List Bool, ∀ x ∈ (setW c c.length).map Int.toNat, x < 18446744073709551616 := fun c x hx => by
    obtain ⟨y, hy, rfl⟩ := List.mem_map.1 hx
    have := okW_mem (setW_ok c) hy
    omega
  have h2 := textL_inj (hlt a) (hlt b) h1
  refine row_words hl (List.ext_getElem (by have := congrArg List.length h2; simpa using this) fun i h3 h4 => ?_)
  have h5 := congrArg (fun l => l[i]?) h2
  simp only [List.getElem?_map, List.getElem?_eq_getElem h3, List.getElem?_eq_getElem h4, Option.map_some, Option.some.injEq] at h5
  have := okW_mem (setW_ok a) (List.getElem_mem h3)
  have := okW_mem (setW_ok b) (List.getElem_mem h4)
  omega
def kvS (fs : List (List Bool)) : List (ByteArray × List Bool) := fs.map fun b => (keyB b, b)
def foundT (fs : List (List Bool)) : List (List AV) := mapS (kvS fs)
theorem foundT_put {n : Nat} {b : List Bool} (hb : b.length = n) : ∀ {fs : List (List Bool)} (_ : ∀ a ∈ fs, a.length = n), mapPut (foundT fs) (.str (keyB b)) (.agg (rowB b)) = foundT (addB fs b)
  | [], _ => by simp [foundT, mapS, kvS, mapPut, addB]
  | a :: fs, h => by
    have ha := h a (by simp)
    have ih := foundT_put hb (fs := fs) fun x hx => h x (by simp [hx])
    show (if keyEq (.str (keyB b)) (.str (keyB a)) = true then _ else _) = _
    by_cases e : a = b
    · subst e
      rw [if_pos (show keyEq (.str (keyB a)) (.str (keyB a)) = true from (MapKept.bytes_beq _ _).2 rfl)]
      simp [foundT, mapS, kvS, addB]
    · have hk : keyEq (.str (keyB b)) (.str (keyB a)) = false := by
        show (keyB b == keyB a) = false
        cases hk : keyB b == keyB a
        · rfl
        · exact absurd (keyB_inj (by omega) ((MapKept.bytes_beq _ _).1 hk).symm) e
      rw [hk, if_neg (by simp)]
      have e2 : addB (a :: fs) b = a :: addB fs b := by
        unfold addB
        by_cases hm : b ∈ fs
        · rw [if_pos (by simp [hm]), if_pos hm]
        · rw [if_neg (by simp [hm]; exact fun h => e h.symm), if_neg hm]; rfl
      rw [e2]
      show _ :: _ = _ :: _
      congr 1
theorem foundT_len (fs : List (List Bool)) : (foundT fs).length = fs.length := by simp [foundT, mapS, kvS]
theorem foundT_keys (fs : List (List Bool)) : keysWf Tryz.prog 9 (foundT fs) := by
  have h9 : Tryz.prog.underlying 9 = some .string := by kernel_rfl
  intro row hr
  obtain ⟨p, _, rfl⟩ := List.mem_map.1 hr
  exact ⟨_, _, rfl, by simp [keyOk, h9]⟩
theorem kvS_snd (fs : List (List Bool)) : (kvS fs).map (·.2) = fs := by simp [kvS, Function.comp_def]
end Go.Proofs.B

namespace Go.Proofs.B
open Go.AM Go
set_option maxRecDepth 100000
set_option maxHeartbeats 4000000
theorem flt_found (fs : List (List Bool)) : (foundT fs).map (fun row => row.map flt) = foundT fs := map_flt fun row hr c hc => by
 obtain ⟨p, _, rfl⟩ := List.mem_map.1 hr
 simp only [List.mem_cons, List.not_mem_nil, or_false] at hc
 rcases hc with rfl | rfl
 ·rfl
 ·unfold rowB; simp [isMv, isMv1]
theorem values_u (fs : List (List Bool)) (g v : Nat) : Upd Tryz.prog 109 [(0, some ⟨g, v, mapSz, foundT fs⟩)] [.mp ⟨0, g, none⟩] (fun k => .fn 130 [.ptr ⟨1, k, none⟩ 0 0])
  (fun k => [(0, some ⟨g, k, mapSz, foundT fs⟩), (1, some ⟨k, k, 1, [[.mp ⟨0, g, none⟩]]⟩)]) := by
 refine Upd.of_body (rs := [.tmp 2]) Tryz.func109 rfl Tryz.ntmps109 rfl (by simp) ?_
 intro k0 k hk0 hk1
 generalize hQr : retQ _ _ _ = Qr
 refine AW.so 100 (fun _ => none) [1] [0,101] trivial ?_
 refine AW.so 100 (fun _ => none) [2] [0,101] trivial ?_
 rw [← hQr]
 refine AW.rt trivial ?_
 refine ⟨[(0, 0, false), (101, 1, true)], ?_⟩
 simp only [go_sem, reduceIte, zE, flt_found]
 exact ⟨rfl, rfl⟩
theorem textB_r (b : List Bool) (hb : b.length ≤ 512) : Reads Tryz.prog 107 false [.agg (rowB b)] (.str (keyB b)) := by
 have h := text_r b.length (setW b b.length) (setW_ok b) (by rw [setW_len']; have := wordsN_rng (n := (b.length : Int)) (by omega); omega)
 exact h
/-- All ideals, level by level; none if there are more than 5000. -/
def levV (u : List (List Bool)) (n : Nat) : AV := if (allU u n).length ≤ 5000 then .tup [.rsl 2 (tabR (allU u n)), .bool true] else .tup [.nilsl, .bool false]
theorem sortedF_u (n : Nat) (hn : n ≤ 512) (fs : List (List Bool)) (hlen : ∀ b ∈ fs, b.length = n) (hnd : fs.Nodup) (hl : fs.length ≤ 1000000) (g0 v0 g1 v1 : Nat) :
  Upd Tryz.prog 108 [(0, some ⟨g0, v0, 1, [[.mp ⟨1, g1, none⟩]]⟩), (1, some ⟨g1, v1, mapSz, foundT fs⟩)] [.fn 130 [.ptr ⟨0, g0, none⟩ 0 0], .fn 110 []] (fun _ => .rsl 2 (tabR (sortS fs))) (fun _ => []) := by
 have h := sorted_u n hn (kvS fs) (fun p hp => by obtain ⟨b, hb, rfl⟩ := List.mem_map.1 hp; exact hlen b hb) (by rw [kvS_snd]; exact hnd) (by simpa [kvS] using hl) g0 v0 g1 v1
 rw [kvS_snd] at h
 exact h
theorem levels_r (n : Nat) (t : List (List Bool)) (hs : Sq n t) (hn : n ≤ 512) : Reads Tryz.prog 80 false [relB t] (levV (invT n t) n) := by
 have hbel := below_r n t hs hn
 have hu : Sq n (invT n t) := Sq.inv
 have hul := hu.len
 have htl := tabR_len t
 have htn := hs.len
 have h0 := (ofRow_r n [] hn (by simp) (by simp)).wk (args := [.int .i64 n, .nilsl]) (.cons (Wk.refl _) (.cons (Wk.nil 1) .nil)) (Wk.refl _)
 rw [rowL_nil] at h0
 have hur : ∀ i, i < n → ((invT n t).getD i []).length = n := fun i hi => hu.rowLen hi
 generalize invT n t = u at *
 have hlL := lvlK_len u n
 unfold relB at *
 unfold rowB at h0
 rw [List.length_replicate] at h0
 refine Reads.body (rs := [.tmp 2, .tmp 3]) Tryz.func80 rfl Tryz.ntmps80 rfl (by simp) ?_
 generalize hQr : retQ _ _ _ = Qr
 refine AW.sg [1] [1] trivial ?_
 refine AW.so 0 (fun ii => if ii = 1 then some (.reads false (.rsl 2 (tabR u))) else none) [1,4] [1] trivial ?_
 repeat with_reducible refine cj ?_ ?_
 all_goals try first | (exact hbel) | omega | exact ent (by kernel_rfl)
 refine AW.so 0 (fun ii => if ii = 3 then some (.reads true (.tup [.agg [.int .i64 n, .rsl 1 (words (setW (List.replicate n false) n))], .int .i64 ((0 : Nat) : Int)])) else none) [4,5] [5] (e2 @htl @htn) ?_
 repeat with_reducible refine cj ?_ ?_
 all_goals try first | (exact h0) | omega | exact ent (by kernel_rfl)
 refine AW.sg [4,7] [26] trivial ?_
 refine AW.sg [4,7,8] [26] trivial ?_
 refine AW.seq fun K1 hK1 => ?_
 refine AW.block ?_
 refine AW.nilOwn 8 200 2 (by simp only [go_sem, reduceIte, zE]) ?_
 refine AW.freezeK [26] [7] [4, 7, 8] [200] ?_
 simp only [go_sem, reduceIte, zE]
 refine AW.keep [4, 7, 8] [200] ?_
 simp only [go_sem, reduceIte, zE]
 refine AW.loopE (fun mm ee ss kk => ∃ (k g v : Nat), n + 1 - k = mm ∧ ee = [(4, .rsl 2 (tabR u)), (7, .rsl 2 (tabR (lvlK u n k))), (8, .sl ⟨200, g, none⟩ 0 (outK u n k).length none)] ∧ ss = [(200, some ⟨g, v, 2, tabR (outK u n k)⟩)] ∧ ((outK u n (k + 1)).length ≤ 5000)) ?_ ?_
 ·refine ⟨_, 0, ?_, ?_, rfl, ?henv, ?hstore, ?hst⟩
  case henv =>
   repeat' (first | rfl | apply env_cons | apply st_cons | apply int_eq | apply bool_eq | apply rsl_eq | apply osl_eq | apply sl_eq | apply ptr_eq | apply agg_eq | apply es_cons | apply row_cons)
   all_goals (first | (simp [lvlK, tabR, rowB, outK]; done) | skip)
  case hstore =>
   repeat' (first | rfl | apply env_cons | apply st_cons | apply int_eq | apply bool_eq | apply rsl_eq | apply osl_eq | apply sl_eq | apply ptr_eq | apply agg_eq | apply es_cons | apply row_cons)
   all_goals (first | (simp; done) | omega | (simp; omega))
  case hst =>
   simp [outK, lvlK]
 rintro mm ee ss kk ⟨k, g, v, rfl, rfl, rfl, hI⟩
 generalize hQl1 : thenQ _ _ = Ql1
 have hLl := tabR_len (lvlK u n k)
 have hok := outK_succ u n k
 have hkl := congrArg List.length hok
 rw [List.length_append] at hkl
 have hOl := tabR_len (outK u n k)
 have htk : (tabR (outK u n k)).take (outK u n k).length = tabR (outK u n k) := List.take_of_length_le (by rw [hOl]; exact Nat.le_refl _)
 have hap : tabR (outK u n k) ++ tabR (lvlK u n k) = tabR (outK u n (k + 1)) := by rw [hok]; simp [tabR]
 refine AW.seq fun K2 hK2 => ?_
 refine AW.sg [4,7,8,29] [200] (@hLl) ?_
 refine AW.cn ?_ ?_
 ·intro hb
  obtain ⟨b0, hb0⟩ := List.exists_mem_of_length_pos (l := lvlK u n k) (by omega)
  have hkn : k ≤ n := lvlK_le hb0
  have hge := allU_ge u n (k + 2)
  rw [outK_succ, List.length_append] at hge
  have hO1 := tabR_len (outK u n (k + 1))
  refine AW.skip ?_
  refine hK2 _ _ _ ?_; clear hK2
  refine AW.block ?_
  refine AW.sg [4,7,8] [200] (e3 @htk @hap @hLl) ?_
  repeat with_reducible refine cj ?_ ?_
  all_goals try first | (exact scP_tabS _) | omega | (simp [scP, scalar]; done) | exact scP_words _ | exact scP_ints _ | exact scP_bools _
  refine AW.sg [4,7,8,9] [33,200] trivial ?_
  refine AW.seq fun K3 hK3 => ?_
  refine AW.sg [4,8,9,34,35,36] [33,200] (@hLl) ?_
  refine AW.block ?_
  refine AW.loopE (fun mm ee ss kk => ∃ (i g v m mv : Nat), (lvlK u n k).length - i = mm ∧ ee = [(4, .rsl 2 (tabR u)), (8, .sl ⟨200, g, none⟩ 0 (outK u n (k + 1)).length none), (9, .mp ⟨33, m, none⟩), (34, .rsl 2 (tabR (lvlK u n k))), (35, .int .i64 (lvlK u n k).length), (36, .int .i64 (i : Nat))] ∧ ss = [(33, some ⟨m, mv, mapSz, foundT (fnd u (lvlK u n k) i)⟩), (200, some ⟨g, v, 2, tabR (outK u n (k + 1))⟩)] ∧ (i ≤ (lvlK u n k).length ∧ (outK u n (k + 1)).length + (fnd u (lvlK u n k) i).length ≤ 5000)) ?_ ?_
  ·refine ⟨_, 0, ?_, ?_, ?_, ?_, rfl, ?henv, ?hstore, ?hst⟩
   case henv =>
    repeat' (first | rfl | apply env_cons | apply st_cons | apply int_eq | apply bool_eq | apply rsl_eq | apply osl_eq | apply sl_eq | apply ptr_eq | apply agg_eq | apply es_cons | apply row_cons)
    all_goals (first | omega | (simp; omega))
   case hstore =>
    repeat' (first | rfl | apply env_cons | apply st_cons | apply int_eq | apply bool_eq | apply rsl_eq | apply osl_eq | apply sl_eq | apply ptr_eq | apply agg_eq | apply es_cons | apply row_cons)
    all_goals (first | (simp; done) | omega | (simp; omega))
   case hst =>
    refine ⟨Nat.zero_le _, ?_⟩; simp [fnd, dedF]; exact hI
  rintro mm ee ss kk ⟨i, g, v, m, mv, rfl, rfl, rfl, hI⟩
  generalize hQl2 : thenQ _ _ = Ql2
  refine AW.sg [4,8,9,34,35,36,37] [33,200] trivial ?_
  refine AW.seq fun K4 hK4 => ?_
  refine AW.cn ?_ ?_
  ·intro hb
   obtain ⟨b, hbi⟩ : ∃ b, (lvlK u n k)[i]? = some b := ⟨_, List.getElem?_eq_getElem (by omega)⟩
   have hbn : b.length = n := lvlK_len u n k b (List.mem_of_getElem? hbi)
   have hgi : (tabR (lvlK u n k)).getD i [] = rowB b := by rw [tabR_get (by omega)]; show rowB ((lvlK u n k).getD i []) = _; rw [List.getD_eq_getElem?_getD, hbi]; rfl
   have hnx := next_r u b (by omega) (by omega) (by rw [hbn]; exact hur)
   have hil : i < (lvlK u n k).length := by omega
   unfold rowB at *
   refine AW.skip ?_
   refine hK4 _ _ _ ?_; clear hK4
   refine AW.seq fun K5 hK5 => ?_
   refine AW.block ?_
   refine AW.sg [4,8,9,11,34,35,36] [11,33,200] (e2 @hgi @hLl) ?_
   refine AW.so 0 (fun ii => if ii = 2 then some (.reads false (.rsl 1 (ints (nats (nextU u b b.length))))) else none) [4,8,9,11,34,35,36,42,43,44] [11,33,200] (e2 @nats_len @ints_len) ?_
   repeat with_reducible refine cj ?_ ?_
   all_goals try first | (exact hnx) | omega | exact ent (by kernel_rfl)
   refine AW.block ?_
   refine AW.loopE (fun mm ee ss kk => ∃ (j g v m mv p pv : Nat), (nextU u b b.length).length - j = mm ∧ ee = [(4, .rsl 2 (tabR u)), (8, .sl ⟨200, g, none⟩ 0 (outK u n (k + 1)).length none), (9, .mp ⟨33, m, none⟩), (11, .ptr ⟨11, p, none⟩ 0 0), (34, .rsl 2 (tabR (lvlK u n k))), (35, .int .i64 (lvlK u n k).length), (36, .int .i64 (i : Nat)), (42, .rsl 1 (ints (nats (nextU u b b.length)))), (43, .int .i64 (nextU u b b.length).length), (44, .int .i64 (j : Nat))] ∧ ss = [(11, some ⟨p, pv, 2, [[.int .i64 b.length, .rsl 1 (words (setW b b.length))]]⟩), (33, some ⟨m, mv, mapSz, foundT (fnd2 u (lvlK u n k) i j b)⟩), (200, some ⟨g, v, 2, tabR (outK u n (k + 1))⟩)] ∧ (j ≤ (nextU u b b.length).length ∧ (outK u n (k + 1)).length + (fnd2 u (lvlK u n k) i j b).length ≤ 5000)) ?_ ?_
   ·refine ⟨_, 0, ?_, ?_, ?_, ?_, ?_, ?_, rfl, ?henv, ?hstore, ?hst⟩
    case henv =>
     repeat' (first | rfl | apply env_cons | apply st_cons | apply int_eq | apply bool_eq | apply rsl_eq | apply osl_eq | apply sl_eq | apply ptr_eq | apply agg_eq | apply es_cons | apply row_cons)
     all_goals (first | (simp; done) | omega | (simp; omega))
    case hstore =>
     repeat' (first | rfl | apply env_cons | apply st_cons | apply int_eq | apply bool_eq | apply rsl_eq | apply osl_eq | apply sl_eq | apply ptr_eq | apply agg_eq | apply es_cons | apply row_cons)
     all_goals (rw [fnd2_zero])
    case hst =>
     refine ⟨Nat.zero_le _, ?_⟩; rw [fnd2_zero]; exact hI.2
   rintro mm ee ss kk ⟨j, g, v, m, mv, p, pv, rfl, rfl, rfl, hI⟩
   generalize hQl3 : thenQ _ _ = Ql3
   refine AW.sg [4,8,9,11,34,35,36,42,43,44,45] [11,33,200] trivial ?_
   refine AW.seq fun K6 hK6 => ?_
   refine AW.cn ?_ ?_
   ·intro hb
    obtain ⟨e, hej⟩ : ∃ e, (nextU u b b.length)[j]? = some e := ⟨_, List.getElem?_eq_getElem (by omega)⟩
    have hel : e < b.length := nextU_lt (List.mem_of_getElem? hej)
    have hgj : (ints (nats (nextU u b b.length))).getD j [] = [.int .i64 (e : Nat)] := by simp [ints, nats, List.getD_eq_getElem?_getD, hej]
    have hw := with_r b (by omega) e hel
    have hcl : (b.set e true).length = n := by rw [List.length_set]; exact hbn
    have hfl := fnd2_len (u := u) (lvlK_len u n k) i j hbn
    have hput := foundT_put hcl hfl
    have hkw := foundT_keys (fnd2 u (lvlK u n k) i j b)
    have hte := textB_r (b.set e true) (by omega)
    have hs2 : fnd2 u (lvlK u n k) i (j + 1) b = addB (fnd2 u (lvlK u n k) i j b) (b.set e true) := fnd2_succ (by unfold kids; rw [List.getElem?_map, hej]; rfl)
    have hle2 := fnd2_le (u := u) (n := n) (k := k) (j := j + 1) hbi
    rw [hs2] at hle2
    have hadl := addB_len (fnd2 u (lvlK u n k) i j b) (b.set e true)
    have hnl := nextU_le u b b.length
    have hfl2 := foundT_len (addB (fnd2 u (lvlK u n k) i j b) (b.set e true))
    rw [show (b.set e true).length = b.length from List.length_set] at *
    unfold rowB at *
    rw [show (b.set e true).length = b.length from List.length_set] at *
    refine AW.skip ?_
    refine hK6 _ _ _ ?_; clear hK6
    refine AW.seq fun K7 hK7 => ?_
    refine AW.block ?_
    refine AW.sg [4,8,9,11,13,34,35,36,42,43,44] [11,33,200] (e3 @hgj @ints_len @nats_len) ?_
    refine AW.so 0 (fun ii => if ii = 2 then some (.reads true (.tup [.agg [.int .i64 b.length, .rsl 1 (words (setW (b.set e true) b.length))], .int .i64 ((0 : Nat) : Int)])) else none) [4,8,9,11,14,34,35,36,42,43,44] [11,14,33,200] trivial ?_
    repeat with_reducible refine cj ?_ ?_
    all_goals try first | (exact hw) | omega | exact ent (by kernel_rfl)
    refine AW.sd mixed 0 (fun ii => if ii = 2 then some (.reads false (.str (keyB (b.set e true)))) else none) [4,8,9,11,34,35,36,42,43,44] [11,33,200] (@hput) ?_
    repeat with_reducible refine cj ?_ ?_
    all_goals try first | (first | exact hte | exact hkw) | omega | exact chk (by kernel_rfl) | exact ent (by kernel_rfl)
    refine AW.sg [4,8,9,11,34,35,36,42,43,44,63] [11,33,200] (@hfl2) ?_
    refine AW.cn ?_ ?_
    ·intro hb
     refine AW.sg [2,3] [] trivial ?_
     rw [← hQl3, ← hQl2, ← hQl1, ← hQr]
     refine AW.rt trivial ?_
     unfold levV
     rw [if_neg (by omega)]
     exact Wk.refl _
    ·intro hb
     refine AW.skip ?_
     refine hK7 _ _ _ ?_; clear hK7
     refine AW.rg [4,8,9,11,34,35,36,42,43,44] [11,33,200] trivial ?_
     rw [← hQl3]; change Exists _
     refine ⟨_, ?hm, j + 1, ?_, ?_, ?_, ?_, ?_, ?_, rfl, ?henv, ?hstore, ?hst⟩
     case henv =>
      repeat' (first | rfl | apply env_cons | apply st_cons | apply int_eq | apply bool_eq | apply rsl_eq | apply osl_eq | apply sl_eq | apply ptr_eq | apply agg_eq | apply es_cons | apply row_cons)
      all_goals (try simp)
     case hstore =>
      repeat' (first | rfl | apply env_cons | apply st_cons | apply int_eq | apply bool_eq | apply rsl_eq | apply osl_eq | apply sl_eq | apply ptr_eq | apply agg_eq | apply es_cons | apply row_cons)
      all_goals (rw [hs2])
     case hst =>
      refine ⟨by omega, ?_⟩; rw [hs2]; omega
     case hm => omega
   ·intro hb
    have hj : (kids u b).length ≤ j := by unfold kids; rw [List.length_map]; omega
    have hend := fnd2_end (u := u) hbi hj
    have hI3 := hI.2
    rw [hend] at hI3 ⊢
    refine AW.kx [4,8,9,34,35,36] [33,200] ?_
    rw [← hQl3]
    refine hK5 _ _ _ ?_; clear hK5
    refine AW.rg [4,8,9,34,35,36] [33,200] trivial ?_
    rw [← hQl2]; change Exists _
    exact ⟨_, eO, i + 1, _, _, _, _, rfl, eD, eD, eT⟩
  ·intro hb
   have hi : i = (lvlK u n k).length := by omega
   subst hi
   have hfn := fnd_nodup u (lvlK u n k) (lvlK u n k).length
   have hfl := fnd_len (u := u) (lvlK_len u n k) (lvlK u n k).length
   have hsu := sortedF_u n hn _ hfl hfn (by omega)
   refine AW.kx [4,8,9] [33,200] ?_
   rw [← hQl2]
   refine hK3 _ _ _ ?_; clear hK3
   refine AW.ro 0 (fun ii => if ii = 1 then some (.upd [33] (fun kk => [(0, some ⟨m, kk, mapSz, foundT (fnd u (lvlK u n k) (lvlK u n k).length)⟩), (1, some ⟨kk, kk, 1, [[.mp ⟨0, m, none⟩]]⟩)]) (fun kk => .fn 130 [.ptr ⟨1, kk, none⟩ 0 0])) else if ii = 2 then some (.upd [67, 33] (fun _ => []) (fun _ => .rsl 2 (tabR (sortS (fnd u (lvlK u n k) (lvlK u n k).length))))) else none) [4,7,8] [200] (@flt_found) ?_
   repeat with_reducible refine cj ?_ ?_
   all_goals try first | (first | exact values_u _ _ _ | exact hsu _ _ _ _) | omega | exact ent (by kernel_rfl)
   rw [← hQl1]; change Exists _
   refine ⟨_, eO, k + 1, _, _, rfl, eD, eD, ?_⟩
   show (outK u n (k + 2)).length ≤ 5000; rw [outK_succ, List.length_append]; show _ + (lvlN u (lvlK u n k)).length ≤ _; rw [lvlN_length (lvlK_len u n k)]; omega
 ·intro hb
  refine AW.kx [8] [200] ?_
  rw [← hQl1]
  refine hK1 _ _ _ ?_; clear hK1
  refine AW.sg [2,3] [200] trivial ?_
  rw [← hQr]
  refine AW.rt trivial ?_
  have hnil : lvlK u n k = [] := List.eq_nil_of_length_eq_zero (by omega)
  have hall := allU_stop hnil
  unfold levV
  rw [if_pos (by rw [← hall]; omega), ← hall]
  exact Wk.of_eq (by simp only [go_sem, reduceIte, zE, htk, vwc_tabR])
end Go.Proofs.B

/- Frontiers, plainly. -/
namespace Go.AM
/-- Is the set an ideal? -/
def idB (n : Nat) (t : List (List Bool)) (b : List Bool) : Bool := decide (upT n (invT n t) b = b)
theorem idB_iff {n : Nat} {t : List (List Bool)} {b : List Bool} (hb : b.length = n) : idB n t b = true ↔ ∀ i, i < n → ∀ j, j < n → b.getD j false = true → atT t i j = true → b.getD i false = true := by
  unfold idB
  rw [decide_eq_true_eq]
  constructor
  · intro h i hi j hj h1 h2
    rw [← h]
    exact (upT_iff hi).2 (.inr ⟨j, hj, h1, by rw [atT_inv hj hi]; exact h2⟩)
  · intro h
    refine List.ext_getElem (by rw [Go.AM.upT_len, hb]) fun i h1 h2 => ?_
    have hi : i < n := by omega
    have e : (upT n (invT n t) b).getD i false = b.getD i false := by
      rw [Bool.eq_iff_iff, upT_iff hi]
      constructor
      · rintro (h3 | ⟨j, hj, h3, h4⟩)
        · exact h3
        · exact h i hi j hj h3 (by rw [atT_inv hj hi] at h4; exact h4)
      · exact .inl
    simpa [List.getD_eq_getElem?_getD, h1, h2] using e
/-- May the element be added, by what is known of the first elements? -/
def nxP (t : List (List Bool)) (b : List Bool) (j i : Nat) : Bool := !b.getD j false && (List.range i).all fun i => !atT t i j || b.getD i false
def bkP (t : List (List Bool)) (b : List Bool) (i j : Nat) : Bool := b.getD i false && (List.range j).all fun j => !(atT t i j && b.getD j false)
def nxL (t : List (List Bool)) (b : List Bool) (n k : Nat) : List Nat := (List.range k).filter fun j => nxP t b j n
def bkL (t : List (List Bool)) (b : List Bool) (n k : Nat) : List Nat := (List.range k).filter fun i => bkP t b i n
theorem nextU_nx {n : Nat} {t : List (List Bool)} {b : List Bool} : nextU (invT n t) b n = nxL t b n n := by
  have hu : Sq n (invT n t) := Sq.inv
  unfold nextU nxL nxP
  refine List.filter_congr fun j hj => ?_
  have hjn := List.mem_range.1 hj
  congr 1
  unfold subB
  rw [show ((invT n t).getD j []).length = n from hu.rowLen hjn]
  rw [Bool.eq_iff_iff, List.all_eq_true, List.all_eq_true]
  refine forall_congr' fun i => forall_congr' fun hi => ?_
  rw [show ((invT n t).getD j []).getD i false = atT (invT n t) j i from rfl, atT_inv hjn (List.mem_range.1 hi)]
end Go.AM

namespace Go.Proofs.B
open Go.AM Go
set_option maxRecDepth 100000
set_option maxHeartbeats 4000000
theorem upT_len (n : Nat) (t : List (List Bool)) (b : List Bool) : (upT n t b).length = n := setR_len ..
theorem list_ok (n : Nat) (t : List (List Bool)) (hs : Sq n t) (hn : n ≤ 512) (hp : poB n t = true) (hb : (allU (invT n t) n).length ≤ 5000) : Reads Tryz.prog 51 false [relB t] (.tup [.rsl 2 (tabR (allU (invT n t) n)), .int .i64 ((0 : Nat) : Int)]) := by
 have h := pvalid_g n t hs hn
 have hl := levels_r n t hs hn
 rw [hp] at h
 unfold levV at hl
 rw [if_pos hb] at hl
 unfold relB at *
 refine Reads.body (rs := [.tmp 2, .tmp 3]) Tryz.func51 rfl Tryz.ntmps51 rfl (by simp) ?_
 generalize hQr : retQ _ _ _ = Qr
 refine AW.sg [1] [1] trivial ?_
 refine AW.seq fun K1 hK1 => ?_
 refine AW.so 0 (fun ii => if ii = 1 then some (.reads false (.bool true)) else none) [1,8] [1] trivial ?_
 repeat with_reducible refine cj ?_ ?_
 all_goals try first | (exact h) | omega | exact ent (by kernel_rfl)
 refine AW.cn ?_ ?_
 ·intro hb
  simp at hb
 ·intro hb
  refine AW.skip ?_
  refine hK1 _ _ _ ?_; clear hK1
  refine AW.so 0 (fun ii => if ii = 1 then some (.reads false (.tup [.rsl 2 (tabR (allU (invT n t) n)), .bool true])) else none) [4,5] [] trivial ?_
  repeat with_reducible refine cj ?_ ?_
  all_goals try first | (exact hl) | omega | exact ent (by kernel_rfl)
  refine AW.seq fun K2 hK2 => ?_
  refine AW.sg [4,15] [] trivial ?_
  refine AW.cn ?_ ?_
  ·intro hb
   simp at hb
  ·intro hb
   refine AW.skip ?_
   refine hK2 _ _ _ ?_; clear hK2
   refine AW.sg [2,3] [] trivial ?_
   rw [← hQr]
   refine AW.rt trivial ?_
   exact Wk.refl _
theorem list_big (n : Nat) (t : List (List Bool)) (hs : Sq n t) (hn : n ≤ 512) (hp : poB n t = true) (hb : ¬ (allU (invT n t) n).length ≤ 5000) : Reads Tryz.prog 51 false [relB t] (.tup [.nilsl, .int .i64 ((16 : Nat) : Int)]) := by
 have h := pvalid_g n t hs hn
 have hl := levels_r n t hs hn
 rw [hp] at h
 unfold levV at hl
 rw [if_neg hb] at hl
 unfold relB at *
 refine Reads.body (rs := [.tmp 2, .tmp 3]) Tryz.func51 rfl Tryz.ntmps51 rfl (by simp) ?_
 generalize hQr : retQ _ _ _ = Qr
 refine AW.sg [1] [1] trivial ?_
 refine AW.seq fun K1 hK1 => ?_
 refine AW.so 0 (fun ii => if ii = 1 then some (.reads false (.bool true)) else none) [1,8] [1] trivial ?_
 repeat with_reducible refine cj ?_ ?_
 all_goals try first | (exact h) | omega | exact ent (by kernel_rfl)
 refine AW.cn ?_ ?_
 ·intro hb
  simp at hb
 ·intro hb
  refine AW.skip ?_
  refine hK1 _ _ _ ?_; clear hK1
  refine AW.so 0 (fun ii => if ii = 1 then some (.reads false (.tup [.nilsl, .bool false])) else none) [4,5] [] trivial ?_
  repeat with_reducible refine cj ?_ ?_
  all_goals try first | (exact hl) | omega | exact ent (by kernel_rfl)
  refine AW.seq fun K2 hK2 => ?_
  refine AW.sg [4,15] [] trivial ?_
  refine AW.cn ?_ ?_
  ·intro hb
   refine AW.sg [2,3] [] trivial ?_
   rw [← hQr]
   refine AW.rt trivial ?_
   exact Wk.refl _
  ·intro hb
   simp at hb
theorem countI_ok (es : List (List AV)) (L : List (List Bool)) (e : Int) (h : Reads Tryz.prog 51 false [.agg [.rsl 2 es]] (.tup [.rsl 2 (tabR L), .int .i64 e])) : Reads Tryz.prog 50 false [.agg [.rsl 2 es]] (.tup [.int .i64 L.length, .int .i64 e]) := by
 have hl := tabR_len L
 refine Reads.body (rs := [.tmp 2, .tmp 3]) Tryz.func50 rfl Tryz.ntmps50 rfl (by simp) ?_
 generalize hQr : retQ _ _ _ = Qr
 refine AW.sg [1] [1] trivial ?_
 refine AW.so 0 (fun ii => if ii = 1 then some (.reads false (.tup [.rsl 2 (tabR L), .int .i64 e])) else none) [4,5] [] trivial ?_
 repeat with_reducible refine cj ?_ ?_
 all_goals try first | (exact h) | omega | exact ent (by kernel_rfl)
 refine AW.sg [2,3] [] (@hl) ?_
 rw [← hQr]
 refine AW.rt trivial ?_
 exact Wk.refl _
theorem countI_nil (es : List (List AV)) (e : Int) (h : Reads Tryz.prog 51 false [.agg [.rsl 2 es]] (.tup [.nilsl, .int .i64 e])) : Reads Tryz.prog 50 false [.agg [.rsl 2 es]] (.tup [.int .i64 0, .int .i64 e]) := by
 refine Reads.body (rs := [.tmp 2, .tmp 3]) Tryz.func50 rfl Tryz.ntmps50 rfl (by simp) ?_
 generalize hQr : retQ _ _ _ = Qr
 refine AW.sg [1] [1] trivial ?_
 refine AW.so 0 (fun ii => if ii = 1 then some (.reads false (.tup [.nilsl, .int .i64 e])) else none) [4,5] [] trivial ?_
 repeat with_reducible refine cj ?_ ?_
 all_goals try first | (exact h) | omega | exact ent (by kernel_rfl)
 refine AW.sg [2,3] [] trivial ?_
 rw [← hQr]
 refine AW.rt trivial ?_
 exact Wk.refl _
end Go.Proofs.B

namespace Go.Proofs.B
open Go.AM Go
set_option maxRecDepth 100000
set_option maxHeartbeats 4000000
theorem merge_p (n : Nat) (t : List (List Bool)) (hs : Sq n t) (hn : n ≤ 512) (i : Nat) (hi : i < n) (b : List Bool) (hb : b.length = n) (g v : Nat) (kc : Option Nat) :
  Upd Tryz.prog 132 [(0, some ⟨g, v, 2, tabO t⟩)] [.agg [.int .i64 n, .sl ⟨0, g, some (i, 1, v)⟩ 0 (wordsN n).toNat kc], .agg (rowB b)] (fun _ => .tup []) (fun k => [(0, some ⟨g, k, 2, tabO (t.set i (List.zipWith (· || ·) (rowT t i) b))⟩)]) := by
 have hrl := hs.rowLen hi
 have hlen := hs.len
 have hts := tabO_set t i
 have htl := tabO_len t
 have hz := zipW_setW bitOp_or (a := rowT t i) (b := b) (by omega)
 generalize ha : rowT t i = a at *
 have hla := setW_len' a
 have hlb := setW_len' b
 have hwn := wordsN_rng (n := (n : Int)) (by omega)
 have hro : ∀ W, rowO (List.zipWith (· || ·) a b) = [.int .i64 n, .osl 1 (words W)] ↔ words (setW (List.zipWith (· || ·) a b) a.length) = words W := fun W => by
  have e : (List.zipWith (· || ·) a b).length = a.length := by simp; omega
  unfold rowO; rw [e, hrl]; simp
 rw [show (a.length : Int) = n by omega] at hla
 rw [show (b.length : Int) = n by omega] at hlb
 generalize hA : setW a a.length = A at *
 generalize hB : setW b b.length = B at *
 have hAB : A.length = B.length := by omega
 have hg0 : (tabO t).getD i [] = [.int .i64 n, .osl 1 (words A)] := by rw [tabO_get (by omega), ha, rowO, hA, hrl]
 have hset : ∀ W, ((tabO t).set i [.int .i64 n, .osl 1 (words W)]).getD i [] = [.int .i64 n, .osl 1 (words W)] := fun W => Go.AM.getD_set_eq (by omega) _ _
 have hfix : (tabO t).set i [.int .i64 n, .osl 1 (words A)] = tabO t := by
  rw [← hg0]; exact set_getD_self _ _ _
 unfold rowB
 rw [hB]
 refine Upd.of_body (rs := []) Tryz.func132 rfl Tryz.ntmps132 rfl (by simp) ?_
 intro k0 k hk0 hk1
 generalize hQr : retQ _ _ _ = Qr
 refine AW.so 100 (fun _ => none) [2,3] [0,102,103] trivial ?_
 refine AW.so 100 (fun _ => none) [2,7,8,9] [0,102] trivial ?_
 refine AW.block ?_
 refine AW.loopE (fun mm ee ss kk => ∃ (j g2 v2 : Nat), B.length - j = mm ∧ ee = [(2, .ptr ⟨102, g2, none⟩ 0 0), (7, .rsl 1 (words B)), (8, .int .i64 B.length), (9, .int .i64 (j : Nat))] ∧ ss = [(0, some ⟨g, v, 2, (tabO t).set i [.int .i64 n, .osl 1 (words (orUpto A B j))]⟩), (102, some ⟨g2, v2, 2, [[.int .i64 n, .sl ⟨0, g, some (i, 1, v)⟩ 0 (wordsN n).toNat kc]]⟩)] ∧ (j ≤ B.length)) ?_ ?_
 ·refine ⟨_, 0, ?_, ?_, rfl, ?henv, ?hstore, ?hst⟩
  case henv =>
   repeat' (first | rfl | apply env_cons | apply st_cons | apply int_eq | apply bool_eq | apply rsl_eq | apply osl_eq | apply sl_eq | apply ptr_eq | apply agg_eq | apply es_cons | apply row_cons)
   all_goals (first | (simp; done) | omega | (simp; omega))
  case hstore =>
   repeat' (first | rfl | apply env_cons | apply st_cons | apply int_eq | apply bool_eq | apply rsl_eq | apply osl_eq | apply sl_eq | apply ptr_eq | apply agg_eq | apply es_cons | apply row_cons)
   all_goals (first | (rw [orUpto_zero, hfix]; done) | (simp; done))
  case hst =>
   first | trivial | omega | (simp; done) | (simp; omega)
 rintro mm ee ss kk ⟨j, g2, v2, rfl, rfl, rfl, hI⟩
 generalize hQl1 : thenQ _ _ = Ql1
 refine AW.so 100 (fun _ => none) [2,7,8,9,10] [0,102] trivial ?_
 refine AW.seq fun K1 hK1 => ?_
 refine AW.cn ?_ ?_
 ·intro hb
  have hgb := words_getD (l := B) (i := j) (by omega)
  have hol := orUpto_len hAB j
  have hgo := words_getD (l := orUpto A B j) (i := j) (by omega)
  rw [orUpto_get hAB (Nat.le_refl _)] at hgo
  have hos := orUpto_succ hAB (j := j) (by omega)
  refine AW.skip ?_
  refine hK1 _ _ _ ?_; clear hK1
  refine AW.seq fun K2 hK2 => ?_
  refine AW.block ?_
  refine AW.so 100 (fun _ => none) [2,4,5,7,8,9] [0,102] (@hgb) ?_
  refine AW.ro 100 (fun _ => none) [2,7,8,9] [0,102] (e3 @hset @hgo @List.set_set.{0}) ?_
  refine hK2 _ _ _ ?_; clear hK2
  refine AW.ro 100 (fun _ => none) [2,7,8,9] [0,102] trivial ?_
  rw [← hQl1]; change Exists _
  refine ⟨_, ?hm, j + 1, ?_, ?_, rfl, ?henv, ?hstore, ?hst⟩
  case henv =>
   repeat' (first | rfl | apply env_cons | apply st_cons | apply int_eq | apply bool_eq | apply rsl_eq | apply osl_eq | apply sl_eq | apply ptr_eq | apply agg_eq | apply es_cons | apply row_cons)
   all_goals (first | (simp; done) | omega | (simp; omega))
  case hstore =>
   repeat' (first | rfl | apply env_cons | apply st_cons | apply int_eq | apply bool_eq | apply rsl_eq | apply osl_eq | apply sl_eq | apply ptr_eq | apply agg_eq | apply es_cons | apply row_cons)
   all_goals (rw [hos])
  case hst =>
   first | trivial | omega | (simp; done) | (simp; omega)
  case hm => omega
 ·intro hb
  have hj : j = B.length := by omega
  subst hj
  have hoa := orUpto_all hAB (j := B.length) (by omega)
  rw [hoa]
  have hfin : (tabO t).set i [.int .i64 n, .osl 1 (words (List.zipWith (bOr .u64) A B))] = tabO (t.set i (List.zipWith (· || ·) a b)) := by
   rw [← hts, (hro (List.zipWith (bOr .u64) A B)).2 (by rw [hz])]
  rw [hfin]
  refine AW.kx [] [0] ?_
  rw [← hQl1]
  rw [← hQr]
  simp only [go_sem, reduceIte, reduceCtorEq, zA, zM, zE, zL, zD, zS, zP, zB, zI, zR]
  refine ⟨[(0, 0, false)], ?_⟩
  simp only [go_sem, reduceIte, zE, renC_tabO]
theorem merge_s (n : Nat) (t : List (List Bool)) (hs : Sq n t) (hn : n ≤ 512) (i q : Nat) (hi : i < n) (hq : q < n) (g v : Nat) (kc kd : Option Nat) :
  Upd Tryz.prog 132 [(0, some ⟨g, v, 2, tabO t⟩)] [.agg [.int .i64 n, .sl ⟨0, g, some (i, 1, v)⟩ 0 (wordsN n).toNat kc], .agg [.int .i64 n, .sl ⟨0, g, some (q, 1, v)⟩ 0 (wordsN n).toNat kd]] (fun _ => .tup []) (fun k => [(0, some ⟨g, k, 2, tabO (t.set i (List.zipWith (· || ·) (rowT t i) (rowT t q)))⟩)]) := by
 have hrl := hs.rowLen hi
 have hrq := hs.rowLen hq
 have hlen := hs.len
 have hts := tabO_set t i
 have htl := tabO_len t
 have hz := zipW_setW bitOp_or (a := rowT t i) (b := rowT t q) (by omega)
 generalize ha : rowT t i = a at *
 generalize hb' : rowT t q = b at *
 have hla := setW_len' a
 have hlb := setW_len' b
 have hwn := wordsN_rng (n := (n : Int)) (by omega)
 have hro : ∀ W, rowO (List.zipWith (· || ·) a b) = [.int .i64 n, .osl 1 (words W)] ↔ words (setW (List.zipWith (· || ·) a b) a.length) = words W := fun W => by
  have e : (List.zipWith (· || ·) a b).length = a.length := by simp; omega
  unfold rowO; rw [e, hrl]; simp
 have hiq : i = q → a = b := fun e => by rw [← ha, ← hb', e]
 rw [show (a.length : Int) = n by omega] at hla
 rw [show (b.length : Int) = n by omega] at hlb
 have hAB' : a = b → setW a a.length = setW b b.length := fun e => by rw [e]
 have hgq0 : (tabO t).getD q [] = [.int .i64 n, .osl 1 (words (setW b b.length))] := by rw [tabO_get (by omega), hb', rowO, hrq]
 have hg0 : (tabO t).getD i [] = [.int .i64 n, .osl 1 (words (setW a a.length))] := by rw [tabO_get (by omega), ha, rowO, hrl]
 generalize hA : setW a a.length = A at *
 generalize hB : setW b b.length = B at *
 have hAB : A.length = B.length := by omega
 have hset : ∀ W, ((tabO t).set i [.int .i64 n, .osl 1 (words W)]).getD i [] = [.int .i64 n, .osl 1 (words W)] := fun W => Go.AM.getD_set_eq (by omega) _ _
 have hfix : (tabO t).set i [.int .i64 n, .osl 1 (words A)] = tabO t := by
  rw [← hg0]; exact set_getD_self _ _ _
 have hC : ∀ j, j < B.length → ∃ C : List Int, ((tabO t).set i [.int .i64 n, .osl 1 (words (orUpto A B j))]).getD q [] = [.int .i64 n, .osl 1 (words C)] ∧ C.length = B.length ∧ C.getD j 0 = B.getD j 0 := fun j hj => by
  by_cases e : i = q
  ·refine ⟨orUpto A B j, by rw [← e]; exact hset _, by rw [orUpto_len hAB]; exact hAB, ?_⟩
   rw [orUpto_get hAB (Nat.le_refl _), hAB' (hiq e)]
  ·exact ⟨B, by rw [Go.AM.getD_set_ne e, hgq0], rfl, rfl⟩
 have hgq1 : ((tabO t).set i [.int .i64 n, .osl 1 (words (orUpto A B 0))]).getD q [] = [.int .i64 n, .osl 1 (words B)] := by rw [orUpto_zero, hfix, hgq0]
 refine Upd.of_body (rs := []) Tryz.func132 rfl Tryz.ntmps132 rfl (by simp) ?_
 intro k0 k hk0 hk1
 generalize hQr : retQ _ _ _ = Qr
 refine AW.so 100 (fun _ => none) [2,3] [0,102,103] trivial ?_
 refine AW.so 100 (fun _ => none) [2,7,8,9] [0,102] (@hgq0) ?_
 refine AW.block ?_
 refine AW.loopE (fun mm ee ss kk => ∃ (j g2 v2 : Nat), B.length - j = mm ∧ ee = [(2, .ptr ⟨102, g2, none⟩ 0 0), (7, .sl ⟨0, g, some (q, 1, v)⟩ 0 (wordsN n).toNat kd), (8, .int .i64 (wordsN n).toNat), (9, .int .i64 (j : Nat))] ∧ ss = [(0, some ⟨g, v, 2, (tabO t).set i [.int .i64 n, .osl 1 (words (orUpto A B j))]⟩), (102, some ⟨g2, v2, 2, [[.int .i64 n, .sl ⟨0, g, some (i, 1, v)⟩ 0 (wordsN n).toNat kc]]⟩)] ∧ (j ≤ B.length)) ?_ ?_
 ·refine ⟨_, 0, ?_, ?_, rfl, ?henv, ?hstore, ?hst⟩
  case henv =>
   repeat' (first | rfl | apply env_cons | apply st_cons | apply int_eq | apply bool_eq | apply rsl_eq | apply osl_eq | apply sl_eq | apply ptr_eq | apply agg_eq | apply es_cons | apply row_cons)
   all_goals (first | (simp; done) | omega | (simp; omega))
  case hstore =>
   repeat' (first | rfl | apply env_cons | apply st_cons | apply int_eq | apply bool_eq | apply rsl_eq | apply osl_eq | apply sl_eq | apply ptr_eq | apply agg_eq | apply es_cons | apply row_cons)
   all_goals (first | (rw [orUpto_zero, hfix]; done) | (simp; done))
  case hst =>
   first | trivial | omega | (simp; done) | (simp; omega)
 rintro mm ee ss kk ⟨j, g2, v2, rfl, rfl, rfl, hI⟩
 generalize hQl1 : thenQ _ _ = Ql1
 refine AW.so 100 (fun _ => none) [2,7,8,9,10] [0,102] trivial ?_
 refine AW.seq fun K1 hK1 => ?_
 refine AW.cn ?_ ?_
 ·intro hb
  obtain ⟨C, hC1, hC2, hC3⟩ := hC j (by omega)
  have hgb := words_getD (l := C) (i := j) (by omega)
  rw [hC3] at hgb
  have hol := orUpto_len hAB j
  have hgo := words_getD (l := orUpto A B j) (i := j) (by omega)
  rw [orUpto_get hAB (Nat.le_refl _)] at hgo
  have hos := orUpto_succ hAB (j := j) (by omega)
  refine AW.skip ?_
  refine hK1 _ _ _ ?_; clear hK1
  refine AW.seq fun K2 hK2 => ?_
  refine AW.block ?_
  refine AW.so 100 (fun _ => none) [2,4,5,7,8,9] [0,102] (e2 @hC1 @hgb) ?_
  refine AW.ro 100 (fun _ => none) [2,7,8,9] [0,102] (e3 @hset @hgo @List.set_set.{0}) ?_
  refine hK2 _ _ _ ?_; clear hK2
  refine AW.ro 100 (fun _ => none) [2,7,8,9] [0,102] trivial ?_
  rw [← hQl1]; change Exists _
  refine ⟨_, ?hm, j + 1, ?_, ?_, rfl, ?henv, ?hstore, ?hst⟩
  case henv =>
   repeat' (first | rfl | apply env_cons | apply st_cons | apply int_eq | apply bool_eq | apply rsl_eq | apply osl_eq | apply sl_eq | apply ptr_eq | apply agg_eq | apply es_cons | apply row_cons)
   all_goals (first | (simp; done) | omega | (simp; omega))
  case hstore =>
   repeat' (first | rfl | apply env_cons | apply st_cons | apply int_eq | apply bool_eq | apply rsl_eq | apply osl_eq | apply sl_eq | apply ptr_eq | apply agg_eq | apply es_cons | apply row_cons)
   all_goals (rw [hos])
  case hst =>
   first | trivial | omega | (simp; done) | (simp; omega)
  case hm => omega
 ·intro hb
  have hj : j = B.length := by omega
  subst hj
  have hoa := orUpto_all hAB (j := B.length) (by omega)
  rw [hoa]
  have hfin : (tabO t).set i [.int .i64 n, .osl 1 (words (List.zipWith (bOr .u64) A B))] = tabO (t.set i (List.zipWith (· || ·) a b)) := by
   rw [← hts, (hro (List.zipWith (bOr .u64) A B)).2 (by rw [hz])]
  rw [hfin]
  refine AW.kx [] [0] ?_
  rw [← hQl1]
  rw [← hQr]
  simp only [go_sem, reduceIte, reduceCtorEq, zA, zM, zE, zL, zD, zS, zP, zB, zI, zR]
  refine ⟨[(0, 0, false)], ?_⟩
  simp only [go_sem, reduceIte, zE, renC_tabO]
theorem closure_r (n : Nat) (t : List (List Bool)) (hs : Sq n t) (hn : n ≤ 512) : Reads Tryz.prog 117 true [relB t] (relB (warsh n t)) := by
 have hlen := hs.len
 have htl := tabR_len t
 have hemp := empty_u n hn
 have hwn := wordsN_rng (n := (n : Int)) (by omega)
 unfold relB at *
 refine Reads.bodyF (rs := [.cell 2 24]) Tryz.func117 rfl Tryz.ntmps117 rfl (by simp) ?_
 generalize hQr : retQ _ _ _ = Qr
 refine AW.sg [1,2] [1,2] (e3 @htl @hlen @renC_tabO) ?_
 refine AW.so 0 (fun ii => if ii = 3 then some (.upd [] (fun k => [(0, some ⟨k, k, 2, tabO (List.replicate n (List.replicate n false))⟩)]) (fun k => .agg [.sl ⟨0, k, none⟩ 0 n none])) else none) [1,2,3] [1,2,3,11] (e3 @htl @hlen @renC_tabO) ?_
 repeat with_reducible refine cj ?_ ?_
 all_goals try first | (exact hemp) | omega | exact ent (by kernel_rfl)
 refine AW.seq fun K1 hK1 => ?_
 refine AW.sg [2,3,13,14,15] [2,3,11] (e3 @htl @hlen @renC_tabO) ?_
 refine AW.block ?_
 refine AW.loopE (fun mm ee ss kk => ∃ (i g2 v2 g3 v3 g v : Nat), n - i = mm ∧ ee = [(2, .ptr ⟨2, g2, none⟩ 0 0), (3, .ptr ⟨3, g3, none⟩ 0 0), (13, .rsl 2 (tabR t)), (14, .int .i64 n), (15, .int .i64 (i : Nat))] ∧ ss = [(2, some ⟨g2, v2, 1, [[.nilsl]]⟩), (3, some ⟨g3, v3, 1, [[.sl ⟨11, g, none⟩ 0 n none]]⟩), (11, some ⟨g, v, 2, tabO (fillT t n i)⟩)] ∧ (i ≤ n)) ?_ ?_
 ·refine ⟨_, 0, ?_, ?_, ?_, ?_, ?_, ?_, rfl, ?henv, ?hstore, ?hst⟩
  case henv =>
   repeat' (first | rfl | apply env_cons | apply st_cons | apply int_eq | apply bool_eq | apply rsl_eq | apply osl_eq | apply sl_eq | apply ptr_eq | apply agg_eq | apply es_cons | apply row_cons)
   all_goals (first | (simp; done) | omega | (simp; omega))
  case hstore =>
   repeat' (first | rfl | apply env_cons | apply st_cons | apply int_eq | apply bool_eq | apply rsl_eq | apply osl_eq | apply sl_eq | apply ptr_eq | apply agg_eq | apply es_cons | apply row_cons)
   all_goals (rw [fillT_zero]; rfl)
  case hst =>
   first | trivial | omega | (simp; done) | (simp; omega)
 rintro mm ee ss kk ⟨i, g2, v2, g3, v3, g, v, rfl, rfl, rfl, hI⟩
 generalize hQl1 : thenQ _ _ = Ql1
 refine AW.sg [2,3,13,14,15,16] [2,3,11] (e3 @htl @hlen @renC_tabO) ?_
 refine AW.seq fun K2 hK2 => ?_
 refine AW.cn ?_ ?_
 ·intro hb
  have hsf := fillT_sq hs (i := i) (by omega)
  have hgr := tabR_get (t := t) (i := i) (by omega)
  have hgo := tabO_get (t := fillT t n i) (i := i) (by rw [hsf.len]; omega)
  rw [fillT_row hs (by omega)] at hgo
  have hto := tabO_len (fillT t n i)
  have hsl := hsf.len
  have hrl := hs.rowLen (i := i) (by omega)
  have hfs := fillT_succ hs (i := i) (by omega)
  have hts := tabO_set (fillT t n i) i (rowT t i)
  have hwl := setW_len' (rowT t i)
  have hwz := setW_len' (List.replicate n false)
  rw [hrl] at hwl
  rw [List.length_replicate] at hwz
  have hmin : min (setW (rowT t i) n).length (setW (List.replicate n false) n).length = (setW (rowT t i) n).length := by omega
  have hdr : (words (setW (List.replicate n false) n)).drop (setW (rowT t i) n).length = [] := List.drop_of_length_le (by rw [words_len]; omega)
  have hro : [AV.int .i64 n, .osl 1 (words (setW (rowT t i) n))] = rowO (rowT t i) := by rw [rowO, hrl]
  refine AW.skip ?_
  refine hK2 _ _ _ ?_; clear hK2
  refine AW.seq fun K3 hK3 => ?_
  refine AW.block ?_
  refine AW.sg [2,3,4,5,13,14,15] [2,3,5,11] (e2 @htl (e5 @hlen @renC_tabO @hgr @rowB.eq_1 @hrl)) ?_
  refine AW.rd mixed 0 (fun _ => none) [2,3,13,14,15] [2,3,11] (e5 @htl @hlen @renC_tabO @hgo (e5 @rowO.eq_1 @List.length_replicate.{0} @hmin @hdr @List.append_nil.{0})) ?_
  refine hK3 _ _ _ ?_; clear hK3
  refine AW.rg [2,3,13,14,15] [2,3,11] (e3 @htl @hlen @renC_tabO) ?_
  rw [← hQl1]; change Exists _
  refine ⟨_, ?hm, i + 1, ?_, ?_, ?_, ?_, ?_, ?_, rfl, ?henv, ?hstore, ?hst⟩
  case henv =>
   repeat' (first | rfl | apply env_cons | apply st_cons | apply int_eq | apply bool_eq | apply rsl_eq | apply osl_eq | apply sl_eq | apply ptr_eq | apply agg_eq | apply es_cons | apply row_cons)
   all_goals (first | (simp; done) | omega | (simp; omega))
  case hstore =>
   repeat' (first | rfl | apply env_cons | apply st_cons | apply int_eq | apply bool_eq | apply rsl_eq | apply osl_eq | apply sl_eq | apply ptr_eq | apply agg_eq | apply es_cons | apply row_cons)
   all_goals (rw [← hfs, ← hts, ← hro])
  case hst =>
   first | trivial | omega | (simp; done) | (simp; omega)
  case hm => omega
 ·intro hb
  have hi : i = n := by omega
  subst hi
  rw [fillT_all hs]
  refine AW.kx [2,3] [2,3,11] ?_
  rw [← hQl1]
  refine hK1 _ _ _ ?_; clear hK1
  refine AW.seq fun K4 hK4 => ?_
  refine AW.sg [2,3,32,33] [2,3,11] (e3 @htl @hlen @renC_tabO) ?_
  refine AW.block ?_
  refine AW.loopE (fun mm ee ss kk => ∃ (k g2 v2 g3 v3 g v : Nat), i - k = mm ∧ ee = [(2, .ptr ⟨2, g2, none⟩ 0 0), (3, .ptr ⟨3, g3, none⟩ 0 0), (32, .int .i64 i), (33, .int .i64 (k : Nat))] ∧ ss = [(2, some ⟨g2, v2, 1, [[.nilsl]]⟩), (3, some ⟨g3, v3, 1, [[.sl ⟨11, g, none⟩ 0 i none]]⟩), (11, some ⟨g, v, 2, tabO (iter (warshK i) k t)⟩)] ∧ (k ≤ i)) ?_ ?_
  ·exact ⟨_, 0, _, _, _, _, _, _, rfl, eD, eD, eT⟩
  rintro mm ee ss kk ⟨k, g2, v2, g3, v3, g, v, rfl, rfl, rfl, hI⟩
  generalize hQl2 : thenQ _ _ = Ql2
  refine AW.sg [2,3,32,33,34] [2,3,11] (e3 @htl @hlen @renC_tabO) ?_
  refine AW.seq fun K5 hK5 => ?_
  refine AW.cn ?_ ?_
  ·intro hb
   refine AW.skip ?_
   refine hK5 _ _ _ ?_; clear hK5
   refine AW.seq fun K6 hK6 => ?_
   refine AW.block ?_
   refine AW.sg [2,3,6,32,33] [2,3,11] (e3 @htl @hlen @renC_tabO) ?_
   refine AW.sg [2,3,6,32,33,38,39] [2,3,11] (e3 @htl @hlen @renC_tabO) ?_
   refine AW.block ?_
   refine AW.loopE (fun mm ee ss kk => ∃ (q g2 v2 g3 v3 g v : Nat), i - q = mm ∧ ee = [(2, .ptr ⟨2, g2, none⟩ 0 0), (3, .ptr ⟨3, g3, none⟩ 0 0), (6, .int .i64 (k : Nat)), (32, .int .i64 i), (33, .int .i64 (k : Nat)), (38, .int .i64 i), (39, .int .i64 (q : Nat))] ∧ ss = [(2, some ⟨g2, v2, 1, [[.nilsl]]⟩), (3, some ⟨g3, v3, 1, [[.sl ⟨11, g, none⟩ 0 i none]]⟩), (11, some ⟨g, v, 2, tabO (iter (warshI k) q (iter (warshK i) k t))⟩)] ∧ (q ≤ i)) ?_ ?_
   ·exact ⟨_, 0, _, _, _, _, _, _, rfl, eD, eD, eT⟩
   rintro mm ee ss kk ⟨q, g2, v2, g3, v3, g, v, rfl, rfl, rfl, hI⟩
   generalize hQl3 : thenQ _ _ = Ql3
   refine AW.sg [2,3,6,32,33,38,39,40] [2,3,11] (e3 @htl @hlen @renC_tabO) ?_
   refine AW.seq fun K7 hK7 => ?_
   refine AW.cn ?_ ?_
   ·intro hb
    have hsu : Sq i (iter (warshI k) q (iter (warshK i) k t)) := (hs.warsh' (by omega)).warshK' (by omega) (by omega)
    have hus : iter (warshI k) (q + 1) (iter (warshK i) k t) = warshI k q (iter (warshI k) q (iter (warshK i) k t)) := rfl
    rw [warshI_eq] at hus
    generalize hU : iter (warshI k) q (iter (warshK i) k t) = U at *
    have hhr := Reads.flat (rhas_r i U hsu hn q k (by omega) (by omega)) rfl
    have hto := tabO_len U
    have hsl := hsu.len
    have htk : (tabO U).take i = tabO U := List.take_of_length_le (by omega)
    have hgq := tabO_get (t := U) (i := q) (by omega)
    have hgk := tabO_get (t := U) (i := k) (by omega)
    have hrq := hsu.rowLen (i := q) (by omega)
    have hrk := hsu.rowLen (i := k) (by omega)
    have hwq := setW_len' (rowT U q)
    have hwk := setW_len' (rowT U k)
    rw [hrq] at hwq
    rw [hrk] at hwk
    have hm := fun g v => merge_s i U hsu hn q k (by omega) (by omega) g v none none
    refine AW.skip ?_
    refine hK7 _ _ _ ?_; clear hK7
    refine AW.seq fun K8 hK8 => ?_
    refine AW.block ?_
    refine AW.sg [2,3,6,7,32,33,38,39] [2,3,11] (e3 @htl @hlen @renC_tabO) ?_
    refine AW.so 0 (fun ii => if ii = 3 then some (.reads true (.bool (atT U q k))) else none) [2,3,6,7,32,33,38,39,45] [2,3,11] (e5 @htl @hlen @renC_tabO @htk @vwc_tabO) ?_
    repeat with_reducible refine cj ?_ ?_
    all_goals try first | (exact hhr) | omega | exact ent (by kernel_rfl)
    refine AW.cn ?_ ?_
    ·intro hb
     rw [if_pos hb] at hus
     unfold orRow at hus
     refine AW.rd mixed 0 (fun ii => if ii = 10 then some (.upd [11] (fun kk => [(0, some ⟨g, kk, 2, tabO (U.set q (List.zipWith (· || ·) (rowT U q) (rowT U k)))⟩)]) (fun _ => .tup [])) else none) [2,3,6,32,33,38,39] [2,3,11] (e3 @htl @hlen (e5 @renC_tabO @hgq @hgk @rowO.eq_1 (e5 @hrq @hrk @hwq @hwk @renC_tabO))) ?_
     repeat with_reducible refine cj ?_ ?_
     all_goals try first | (exact hm _ _) | omega | exact chk (by kernel_rfl) | exact ent (by kernel_rfl)
     refine hK8 _ _ _ ?_; clear hK8
     refine AW.rg [2,3,6,32,33,38,39] [2,3,11] (e3 @htl @hlen @renC_tabO) ?_
     rw [← hQl3]; change Exists _
     refine ⟨_, ?hm, q + 1, ?_, ?_, ?_, ?_, ?_, ?_, rfl, ?henv, ?hstore, ?hst⟩
     case henv =>
      repeat' (first | rfl | apply env_cons | apply st_cons | apply int_eq | apply bool_eq | apply rsl_eq | apply osl_eq | apply sl_eq | apply ptr_eq | apply agg_eq | apply es_cons | apply row_cons)
      all_goals (first | (simp; done) | omega | (simp; omega))
     case hstore =>
      repeat' (first | rfl | apply env_cons | apply st_cons | apply int_eq | apply bool_eq | apply rsl_eq | apply osl_eq | apply sl_eq | apply ptr_eq | apply agg_eq | apply es_cons | apply row_cons)
      all_goals (rw [hus])
     case hst =>
      first | trivial | omega | (simp; done) | (simp; omega)
     case hm => omega
    ·intro hb
     rw [if_neg (by rw [hb]; simp)] at hus
     refine AW.skip ?_
     refine hK8 _ _ _ ?_; clear hK8
     refine AW.rg [2,3,6,32,33,38,39] [2,3,11] (e3 @htl @hlen @renC_tabO) ?_
     rw [← hQl3]; change Exists _
     refine ⟨_, ?hm, q + 1, ?_, ?_, ?_, ?_, ?_, ?_, rfl, ?henv, ?hstore, ?hst⟩
     case henv =>
      repeat' (first | rfl | apply env_cons | apply st_cons | apply int_eq | apply bool_eq | apply rsl_eq | apply osl_eq | apply sl_eq | apply ptr_eq | apply agg_eq | apply es_cons | apply row_cons)
      all_goals (first | (simp; done) | omega | (simp; omega))
     case hstore =>
      repeat' (first | rfl | apply env_cons | apply st_cons | apply int_eq | apply bool_eq | apply rsl_eq | apply osl_eq | apply sl_eq | apply ptr_eq | apply agg_eq | apply es_cons | apply row_cons)
      all_goals (rw [hus])
     case hst =>
      first | trivial | omega | (simp; done) | (simp; omega)
     case hm => omega
   ·intro hb
    have hq : q = i := by omega
    subst hq
    refine AW.kx [2,3,32,33] [2,3,11] ?_
    rw [← hQl3]
    refine hK6 _ _ _ ?_; clear hK6
    refine AW.rg [2,3,32,33] [2,3,11] (e3 @htl @hlen @renC_tabO) ?_
    rw [← hQl2]; change Exists _
    refine ⟨_, ?hm, k + 1, ?_, ?_, ?_, ?_, ?_, ?_, rfl, ?henv, ?hstore, ?hst⟩
    case henv =>
     repeat' (first | rfl | apply env_cons | apply st_cons | apply int_eq | apply bool_eq | apply rsl_eq | apply osl_eq | apply sl_eq | apply ptr_eq | apply agg_eq | apply es_cons | apply row_cons)
     all_goals (first | (simp; done) | omega | (simp; omega))
    case hstore =>
     repeat' (first | rfl | apply env_cons | apply st_cons | apply int_eq | apply bool_eq | apply rsl_eq | apply osl_eq | apply sl_eq | apply ptr_eq | apply agg_eq | apply es_cons | apply row_cons)
     all_goals rfl
    case hst =>
     first | trivial | omega | (simp; done) | (simp; omega)
    case hm => omega
  ·intro hb
   refine AW.kx [2,3] [2,3,11] ?_
   rw [← hQl2]
   refine hK4 _ _ _ ?_; clear hK4
   refine AW.sg [2] [2,11] (e3 @htl @hlen @renC_tabO) ?_
   rw [← hQr]
   refine AW.rt (e3 @htl @hlen @renC_tabO) ?_
   have hk : k = i := by omega
   subst hk
   refine Wk.of_eq ?_
   rw [List.take_of_length_le (by rw [tabO_len, (hs.warsh' (Nat.le_refl _)).len]; exact Nat.le_refl _), vwcF_tabO]
   rfl
theorem compose_r (n : Nat) (a b : List (List Bool)) (ha : Sq n a) (hb0 : Sq n b) (hn : n ≤ 512) : Reads Tryz.prog 116 true [relB a, relB b] (relB (compT n a b)) := by
 have hla := ha.len
 have hlb := hb0.len
 have htla := tabR_len a
 have htlb := tabR_len b
 have hemp := empty_u n hn
 have hwn := wordsN_rng (n := (n : Int)) (by omega)
 have hh := fun i j hi hj => rhas_r n a ha hn i j hi hj
 unfold relB at *
 refine Reads.bodyF (rs := [.cell 4 24]) Tryz.func116 rfl Tryz.ntmps116 rfl (by simp) ?_
 generalize hQr : retQ _ _ _ = Qr
 refine AW.sg [2,3,4] [2,3,4] (e5 @htla @hla @htlb @hlb @renC_tabO) ?_
 refine AW.so 0 (fun ii => if ii = 3 then some (.upd [] (fun k => [(0, some ⟨k, k, 2, tabO (List.replicate n (List.replicate n false))⟩)]) (fun k => .agg [.sl ⟨0, k, none⟩ 0 n none])) else none) [2,3,4,5] [2,3,4,5,11] (e5 @htla @hla @htlb @hlb @renC_tabO) ?_
 repeat with_reducible refine cj ?_ ?_
 all_goals try first | (exact hemp) | omega | exact ent (by kernel_rfl)
 refine AW.seq fun K1 hK1 => ?_
 refine AW.sg [2,3,4,5,14,15] [2,3,4,5,11] (e5 @htla @hla @htlb @hlb @renC_tabO) ?_
 refine AW.block ?_
 refine AW.loopE (fun mm ee ss kk => ∃ (i g2 v2 g3 v3 g4 v4 g5 v5 g v : Nat), n - i = mm ∧ ee = [(2, .ptr ⟨2, g2, none⟩ 0 0), (3, .ptr ⟨3, g3, none⟩ 0 0), (4, .ptr ⟨4, g4, none⟩ 0 0), (5, .ptr ⟨5, g5, none⟩ 0 0), (14, .int .i64 n), (15, .int .i64 (i : Nat))] ∧ ss = [(2, some ⟨g2, v2, 1, [[.rsl 2 (tabR a)]]⟩), (3, some ⟨g3, v3, 1, [[.rsl 2 (tabR b)]]⟩), (4, some ⟨g4, v4, 1, [[.nilsl]]⟩), (5, some ⟨g5, v5, 1, [[.sl ⟨11, g, none⟩ 0 n none]]⟩), (11, some ⟨g, v, 2, tabO (iter (fun i t => iter (compI a b i) n t) i (zeroT n))⟩)] ∧ (i ≤ n)) ?_ ?_
 ·exact ⟨_, 0, _, _, _, _, _, _, _, _, _, _, rfl, eD, eD, eT⟩
 rintro mm ee ss kk ⟨i, g2, v2, g3, v3, g4, v4, g5, v5, g, v, rfl, rfl, rfl, hI⟩
 generalize hQl1 : thenQ _ _ = Ql1
 refine AW.sg [2,3,4,5,14,15,16] [2,3,4,5,11] (e5 @htla @hla @htlb @hlb @renC_tabO) ?_
 refine AW.seq fun K2 hK2 => ?_
 refine AW.cn ?_ ?_
 ·intro hb
  refine AW.skip ?_
  refine hK2 _ _ _ ?_; clear hK2
  refine AW.seq fun K3 hK3 => ?_
  refine AW.block ?_
  refine AW.sg [2,3,4,5,6,14,15] [2,3,4,5,11] (e5 @htla @hla @htlb @hlb @renC_tabO) ?_
  refine AW.sg [2,3,4,5,6,14,15,20,21] [2,3,4,5,11] (e5 @htla @hla @htlb @hlb @renC_tabO) ?_
  refine AW.block ?_
  refine AW.loopE (fun mm ee ss kk => ∃ (q g2 v2 g3 v3 g4 v4 g5 v5 g v : Nat), n - q = mm ∧ ee = [(2, .ptr ⟨2, g2, none⟩ 0 0), (3, .ptr ⟨3, g3, none⟩ 0 0), (4, .ptr ⟨4, g4, none⟩ 0 0), (5, .ptr ⟨5, g5, none⟩ 0 0), (6, .int .i64 (i : Nat)), (14, .int .i64 n), (15, .int .i64 (i : Nat)), (20, .int .i64 n), (21, .int .i64 (q : Nat))] ∧ ss = [(2, some ⟨g2, v2, 1, [[.rsl 2 (tabR a)]]⟩), (3, some ⟨g3, v3, 1, [[.rsl 2 (tabR b)]]⟩), (4, some ⟨g4, v4, 1, [[.nilsl]]⟩), (5, some ⟨g5, v5, 1, [[.sl ⟨11, g, none⟩ 0 n none]]⟩), (11, some ⟨g, v, 2, tabO (iter (compI a b i) q (iter (fun i t => iter (compI a b i) n t) i (zeroT n)))⟩)] ∧ (q ≤ n)) ?_ ?_
  ·exact ⟨_, 0, _, _, _, _, _, _, _, _, _, _, rfl, eD, eD, eT⟩
  rintro mm ee ss kk ⟨q, g2, v2, g3, v3, g4, v4, g5, v5, g, v, rfl, rfl, rfl, hI⟩
  generalize hQl2 : thenQ _ _ = Ql2
  refine AW.sg [2,3,4,5,6,14,15,20,21,22] [2,3,4,5,11] (e5 @htla @hla @htlb @hlb @renC_tabO) ?_
  refine AW.seq fun K4 hK4 => ?_
  refine AW.cn ?_ ?_
  ·intro hb
   have hsu : Sq n (iter (compI a b i) q (iter (fun i t => iter (compI a b i) n t) i (zeroT n))) := Sq.compK hb0 (Sq.comp' hb0 (by omega)) (by omega) (by omega)
   have hus : iter (compI a b i) (q + 1) (iter (fun i t => iter (compI a b i) n t) i (zeroT n)) = compI a b i q (iter (compI a b i) q (iter (fun i t => iter (compI a b i) n t) i (zeroT n))) := rfl
   rw [compI_eq] at hus
   generalize hU : iter (compI a b i) q (iter (fun i t => iter (compI a b i) n t) i (zeroT n)) = U at *
   have hhr := hh i q (by omega) (by omega)
   have hto := tabO_len U
   have hsl := hsu.len
   have hgq := tabO_get (t := U) (i := i) (by omega)
   have hgk := tabR_get (t := b) (i := q) (by omega)
   have hrq := hsu.rowLen (i := i) (by omega)
   have hrk := hb0.rowLen (i := q) (by omega)
   have hwq := setW_len' (rowT U i)
   rw [hrq] at hwq
   have hm := fun g v => merge_p n U hsu hn i (by omega) (rowT b q) hrk g v none
   unfold rowB at hm
   rw [hrk] at hm
   refine AW.skip ?_
   refine hK4 _ _ _ ?_; clear hK4
   refine AW.seq fun K5 hK5 => ?_
   refine AW.block ?_
   refine AW.sg [2,3,4,5,6,7,14,15,20,21] [2,3,4,5,11] (e5 @htla @hla @htlb @hlb @renC_tabO) ?_
   refine AW.so 0 (fun ii => if ii = 3 then some (.reads false (.bool (atT a i q))) else none) [2,3,4,5,6,7,14,15,20,21,27] [2,3,4,5,11] (e5 @htla @hla @htlb @hlb @renC_tabO) ?_
   repeat with_reducible refine cj ?_ ?_
   all_goals try first | (exact hhr) | omega | exact ent (by kernel_rfl)
   refine AW.cn ?_ ?_
   ·intro hb
    rw [if_pos hb] at hus
    unfold orRow at hus
    refine AW.rd mixed 0 (fun ii => if ii = 10 then some (.upd [11] (fun kk => [(0, some ⟨g, kk, 2, tabO (U.set i (List.zipWith (· || ·) (rowT U i) (rowT b q)))⟩)]) (fun _ => .tup [])) else none) [2,3,4,5,6,14,15,20,21] [2,3,4,5,11] (e5 @htla @hla @htlb @hlb (e5 @renC_tabO @hgq @hgk @rowO.eq_1 (e5 @rowB.eq_1 @hrq @hrk @hwq @renC_tabO))) ?_
    repeat with_reducible refine cj ?_ ?_
    all_goals try first | (exact hm _ _) | omega | exact chk (by kernel_rfl) | exact ent (by kernel_rfl)
    refine hK5 _ _ _ ?_; clear hK5
    refine AW.rg [2,3,4,5,6,14,15,20,21] [2,3,4,5,11] (e5 @htla @hla @htlb @hlb @renC_tabO) ?_
    rw [← hQl2]; change Exists _
    refine ⟨_, ?hm, q + 1, ?_, ?_, ?_, ?_, ?_, ?_, ?_, ?_, ?_, ?_, rfl, ?henv, ?hstore, ?hst⟩
    case henv =>
     repeat' (first | rfl | apply env_cons | apply st_cons | apply int_eq | apply bool_eq | apply rsl_eq | apply osl_eq | apply sl_eq | apply ptr_eq | apply agg_eq | apply es_cons | apply row_cons)
     all_goals (first | (simp; done) | omega | (simp; omega))
    case hstore =>
     repeat' (first | rfl | apply env_cons | apply st_cons | apply int_eq | apply bool_eq | apply rsl_eq | apply osl_eq | apply sl_eq | apply ptr_eq | apply agg_eq | apply es_cons | apply row_cons)
     all_goals (rw [hus])
    case hst =>
     first | trivial | omega | (simp; done) | (simp; omega)
    case hm => omega
   ·intro hb
    rw [if_neg (by rw [hb]; simp)] at hus
    refine AW.skip ?_
    refine hK5 _ _ _ ?_; clear hK5
    refine AW.rg [2,3,4,5,6,14,15,20,21] [2,3,4,5,11] (e5 @htla @hla @htlb @hlb @renC_tabO) ?_
    rw [← hQl2]; change Exists _
    refine ⟨_, ?hm, q + 1, ?_, ?_, ?_, ?_, ?_, ?_, ?_, ?_, ?_, ?_, rfl, ?henv, ?hstore, ?hst⟩
    case henv =>
     repeat' (first | rfl | apply env_cons | apply st_cons | apply int_eq | apply bool_eq | apply rsl_eq | apply osl_eq | apply sl_eq | apply ptr_eq | apply agg_eq | apply es_cons | apply row_cons)
     all_goals (first | (simp; done) | omega | (simp; omega))
    case hstore =>
     repeat' (first | rfl | apply env_cons | apply st_cons | apply int_eq | apply bool_eq | apply rsl_eq | apply osl_eq | apply sl_eq | apply ptr_eq | apply agg_eq | apply es_cons | apply row_cons)
     all_goals (rw [hus])
    case hst =>
     first | trivial | omega | (simp; done) | (simp; omega)
    case hm => omega
  ·intro hb
   have hq : q = n := by omega
   subst hq
   refine AW.kx [2,3,4,5,14,15] [2,3,4,5,11] ?_
   rw [← hQl2]
   refine hK3 _ _ _ ?_; clear hK3
   refine AW.rg [2,3,4,5,14,15] [2,3,4,5,11] (e5 @htla @hla @htlb @hlb @renC_tabO) ?_
   rw [← hQl1]; change Exists _
   refine ⟨_, ?hm, i + 1, ?_, ?_, ?_, ?_, ?_, ?_, ?_, ?_, ?_, ?_, rfl, ?henv, ?hstore, ?hst⟩
   case henv =>
    repeat' (first | rfl | apply env_cons | apply st_cons | apply int_eq | apply bool_eq | apply rsl_eq | apply osl_eq | apply sl_eq | apply ptr_eq | apply agg_eq | apply es_cons | apply row_cons)
    all_goals (first | (simp; done) | omega | (simp; omega))
   case hstore =>
    repeat' (first | rfl | apply env_cons | apply st_cons | apply int_eq | apply bool_eq | apply rsl_eq | apply osl_eq | apply sl_eq | apply ptr_eq | apply agg_eq | apply es_cons | apply row_cons)
    all_goals rfl
   case hst =>
    first | trivial | omega | (simp; done) | (simp; omega)
   case hm => omega
 ·intro hb
  refine AW.kx [4,5] [4,5,11] ?_
  rw [← hQl1]
  refine hK1 _ _ _ ?_; clear hK1
  refine AW.sg [4] [4,11] (e5 @htla @hla @htlb @hlb @renC_tabO) ?_
  rw [← hQr]
  refine AW.rt (e5 @htla @hla @htlb @hlb @renC_tabO) ?_
  have hk : i = n := by omega
  subst hk
  refine Wk.of_eq ?_
  rw [List.take_of_length_le (by rw [tabO_len, (Sq.comp' hb0 (Nat.le_refl _)).len]; exact Nat.le_refl _), vwcF_tabO]
  rfl
theorem acyclic_g (n : Nat) (t : List (List Bool)) (hs : Sq n t) (hn : n ≤ 512) : Reads Tryz.prog 115 false [relB t] (.bool (acyc n t)) := by
 have h := valid_g n t hs hn
 have ha := closure_r n t hs hn
 have hsw := hs.warsh
 have hlw : (tabR (warsh n t)).length = n := by rw [tabR_len, hsw.len]
 have hh := fun j hj => rhas_r n (warsh n t) hsw hn j j hj hj
 have hac : acyc n t = (List.range n).all fun i => !atT (warsh n t) i i := rfl
 generalize warsh n t = c at *
 unfold relB at *
 refine Reads.body (rs := [.tmp 2]) Tryz.func115 rfl Tryz.ntmps115 rfl (by simp) ?_
 generalize hQr : retQ _ _ _ = Qr
 refine AW.sg [1] [1] (@hlw) ?_
 refine AW.seq fun K1 hK1 => ?_
 refine AW.so 0 (fun ii => if ii = 1 then some (.reads false (.bool true)) else none) [1,7] [1] (@hlw) ?_
 repeat with_reducible refine cj ?_ ?_
 all_goals try first | (exact h) | omega | exact ent (by kernel_rfl)
 refine AW.cn ?_ ?_
 ·intro hb
  simp at hb
 ·intro hb
  refine AW.skip ?_
  refine hK1 _ _ _ ?_; clear hK1
  refine AW.so 0 (fun ii => if ii = 1 then some (.reads true (.agg [.rsl 2 (tabR c)])) else none) [3] [3] (@hlw) ?_
  repeat with_reducible refine cj ?_ ?_
  all_goals try first | (exact ha) | omega | exact ent (by kernel_rfl)
  refine AW.seq fun K2 hK2 => ?_
  refine AW.sg [3,12,13] [3] (@hlw) ?_
  refine AW.block ?_
  refine AW.loopE (fun mm ee ss kk => ∃ (j g3 v3 : Nat), n - j = mm ∧ ee = [(3, .ptr ⟨3, g3, none⟩ 0 0), (12, .int .i64 n), (13, .int .i64 (j : Nat))] ∧ ss = [(3, some ⟨g3, v3, 1, [[.rsl 2 (tabR c)]]⟩)] ∧ (j ≤ n ∧ ((List.range j).all fun i => !atT c i i) = true)) ?_ ?_
  ·exact ⟨_, 0, _, _, rfl, eD, eD, (⟨Nat.zero_le _, rfl⟩)⟩
  rintro mm ee ss kk ⟨j, g3, v3, rfl, rfl, rfl, hI⟩
  generalize hQl1 : thenQ _ _ = Ql1
  obtain ⟨hj, hall⟩ := hI
  refine AW.sg [3,12,13,14] [3] (@hlw) ?_
  refine AW.seq fun K3 hK3 => ?_
  refine AW.cn ?_ ?_
  ·intro hb
   have hhj := hh j (by omega)
   have hrs := range_all_succ (p := fun i => !atT c i i) j
   rw [hall] at hrs
   refine AW.skip ?_
   refine hK3 _ _ _ ?_; clear hK3
   refine AW.seq fun K4 hK4 => ?_
   refine AW.block ?_
   refine AW.sg [3,4,12,13] [3] (@hlw) ?_
   refine AW.so 0 (fun ii => if ii = 3 then some (.reads false (.bool (atT c j j))) else none) [3,12,13,19] [3] (@hlw) ?_
   repeat with_reducible refine cj ?_ ?_
   all_goals try first | (exact hhj) | omega | exact ent (by kernel_rfl)
   refine AW.cn ?_ ?_
   ·intro hb
    refine AW.sg [2] [] (@hlw) ?_
    rw [← hQl1, ← hQr]
    refine AW.rt (@hlw) ?_
    exact Wk.of_eq (by rw [hac, range_all_false (j := j) (by omega) (by rw [hb]; rfl)])
   ·intro hb
    refine AW.skip ?_
    refine hK4 _ _ _ ?_; clear hK4
    refine AW.rg [3,12,13] [3] (@hlw) ?_
    rw [← hQl1]; change Exists _
    exact ⟨_, eO, j + 1, _, _, rfl, eD, eD, (⟨by omega, by rw [hrs, hb]; rfl⟩)⟩
  ·intro hb
   refine AW.kx [] [] ?_
   rw [← hQl1]
   refine hK2 _ _ _ ?_; clear hK2
   refine AW.sg [2] [] (@hlw) ?_
   rw [← hQr]
   refine AW.rt (@hlw) ?_
   have hj2 : j = n := by omega
   subst hj2
   exact Wk.of_eq (by rw [hac, hall])
theorem reduction_g (n : Nat) (t : List (List Bool)) (hs : Sq n t) (hn : n ≤ 512) (hac : acyc n t = true) : Reads Tryz.prog 86 false [relB t] (.tup [relB (redT n t (compT n t (warsh n t))), .int .i64 ((0 : Nat) : Int)]) := by
 have h := valid_g n t hs hn
 have h2 := acyclic_g n t hs hn
 rw [hac] at h2
 have hcl := (closure_r n t hs hn).old
 have hco := (compose_r n t (warsh n t) hs hs.warsh hn).old
 have hsl : Sq n (compT n t (warsh n t)) := Sq.comp hs.warsh
 have hemp := empty_u n hn
 have hlt : (tabR t).length = n := by rw [tabR_len, hs.len]
 have hwn := wordsN_rng (n := (n : Int)) (by omega)
 generalize hl : compT n t (warsh n t) = l at *
 have hsr := Sq.red hs hsl
 have hll : (tabR l).length = n := by rw [tabR_len, hsl.len]
 unfold relB at *
 refine Reads.body (rs := [.cell 2 24, .tmp 3]) Tryz.func86 rfl Tryz.ntmps86 rfl (by simp) ?_
 generalize hQr : retQ _ _ _ = Qr
 refine AW.sg [1,2] [1,2] (e2 @hlt @renC_tabO) ?_
 refine AW.seq fun K1 hK1 => ?_
 refine AW.block ?_
 refine AW.so 0 (fun ii => if ii = 1 then some (.reads false (.bool true)) else none) [1,2,10] [1,2] (e2 @hlt @renC_tabO) ?_
 repeat with_reducible refine cj ?_ ?_
 all_goals try first | (exact h) | omega | exact ent (by kernel_rfl)
 refine AW.cn ?_ ?_
 ·intro hb
  simp at hb
 ·intro hb
  refine AW.so 0 (fun ii => if ii = 1 then some (.reads false (.bool true)) else none) [1,2,15] [1,2] (e2 @hlt @renC_tabO) ?_
  repeat with_reducible refine cj ?_ ?_
  all_goals try first | (exact h2) | omega | exact ent (by kernel_rfl)
  refine AW.cn ?_ ?_
  ·intro hb
   simp at hb
  ·intro hb
   refine AW.skip ?_
   refine hK1 _ _ _ ?_; clear hK1
   refine AW.sd mixed 0 (fun ii => if ii = 2 then some (.reads false (.agg [.rsl 2 (tabR (warsh n t))])) else if ii = 3 then some (.reads false (.agg [.rsl 2 (tabR l)])) else none) [1,2,4] [1,2,4] (e2 @hlt @renC_tabO) ?_
   repeat with_reducible refine cj ?_ ?_
   all_goals try first | (first | exact hcl | exact hco) | omega | exact chk (by kernel_rfl) | exact ent (by kernel_rfl)
   refine AW.so 0 (fun ii => if ii = 3 then some (.upd [] (fun k => [(0, some ⟨k, k, 2, tabO (List.replicate n (List.replicate n false))⟩)]) (fun k => .agg [.sl ⟨0, k, none⟩ 0 n none])) else none) [1,2,4,5] [1,2,4,5,27] (e2 @hlt @renC_tabO) ?_
   repeat with_reducible refine cj ?_ ?_
   all_goals try first | (exact hemp) | omega | exact ent (by kernel_rfl)
   refine AW.seq fun K2 hK2 => ?_
   refine AW.sg [2,4,5,29,30,31] [2,4,5,27] (e2 @hlt @renC_tabO) ?_
   refine AW.block ?_
   refine AW.loopE (fun mm ee ss kk => ∃ (i g2 v2 g4 v4 g5 v5 g v : Nat), n - i = mm ∧ ee = [(2, .ptr ⟨2, g2, none⟩ 0 0), (4, .ptr ⟨4, g4, none⟩ 0 0), (5, .ptr ⟨5, g5, none⟩ 0 0), (29, .rsl 2 (tabR t)), (30, .int .i64 n), (31, .int .i64 (i : Nat))] ∧ ss = [(2, some ⟨g2, v2, 1, [[.nilsl]]⟩), (4, some ⟨g4, v4, 1, [[.rsl 2 (tabR l)]]⟩), (5, some ⟨g5, v5, 1, [[.sl ⟨27, g, none⟩ 0 n none]]⟩), (27, some ⟨g, v, 2, tabO (fillT (redT n t l) n i)⟩)] ∧ (i ≤ n)) ?_ ?_
   ·refine ⟨_, 0, ?_, ?_, ?_, ?_, ?_, ?_, ?_, ?_, rfl, ?henv, ?hstore, ?hst⟩
    case henv =>
     repeat' (first | rfl | apply env_cons | apply st_cons | apply int_eq | apply bool_eq | apply rsl_eq | apply osl_eq | apply sl_eq | apply ptr_eq | apply agg_eq | apply es_cons | apply row_cons)
     all_goals (first | (simp; done) | omega | (simp; omega))
    case hstore =>
     repeat' (first | rfl | apply env_cons | apply st_cons | apply int_eq | apply bool_eq | apply rsl_eq | apply osl_eq | apply sl_eq | apply ptr_eq | apply agg_eq | apply es_cons | apply row_cons)
     all_goals (rw [fillT_zero]; rfl)
    case hst =>
     first | trivial | omega | (simp; done) | (simp; omega)
   rintro mm ee ss kk ⟨i, g2, v2, g4, v4, g5, v5, g, v, rfl, rfl, rfl, hI⟩
   generalize hQl1 : thenQ _ _ = Ql1
   refine AW.sg [2,4,5,29,30,31,32] [2,4,5,27] (e2 @hlt @renC_tabO) ?_
   refine AW.seq fun K3 hK3 => ?_
   refine AW.cn ?_ ?_
   ·intro hb
    have hsf := fillT_sq hsr (i := i) (by omega)
    have hgr := tabR_get (t := t) (i := i) (by rw [hs.len]; omega)
    have hgl := tabR_get (t := l) (i := i) (by rw [hsl.len]; omega)
    have hgo := tabO_get (t := fillT (redT n t l) n i) (i := i) (by rw [hsf.len]; omega)
    rw [fillT_row hsr (by omega), rowO, List.length_replicate] at hgo
    have hto := tabO_len (fillT (redT n t l) n i)
    have hfl := hsf.len
    have hrl := hs.rowLen (i := i) (by omega)
    have hrl2 := hsl.rowLen (i := i) (by omega)
    have hfs := fillT_succ hsr (i := i) (by omega)
    have hrr := hsr.rowLen (i := i) (by omega)
    have hts := tabO_set (fillT (redT n t l) n i) i (rowT (redT n t l) i)
    have hwl := setW_len' (rowT t i)
    have hwl2 := setW_len' (rowT l i)
    have hwz := setW_len' (List.replicate n false)
    have hzz := zipW_setW bitOp_andNot (a := rowT t i) (b := rowT l i) (by rw [hrl, hrl2])
    rw [hrl] at hwl
    rw [hrl2] at hwl2
    rw [List.length_replicate] at hwz
    rw [hrl, hrl2] at hzz
    have hro : rowO (rowT (redT n t l) i) = [.int .i64 n, .osl 1 (words (List.zipWith (bAndNot .u64) (setW (rowT t i) n) (setW (rowT l i) n)))] := by rw [rowO, hrr, redT_row (by omega), hzz]; rfl
    have hfg := fillO_get (fillT (redT n t l) n i)
    generalize hF : fillT (redT n t l) n i = F at *
    have hfix : (tabO F).set i [.int .i64 n, .osl 1 (words (setW (List.replicate n false) n))] = tabO F := by rw [← hgo]; exact set_getD_self _ _ _
    generalize hA : setW (rowT t i) n = A at *
    generalize hB : setW (rowT l i) n = B at *
    generalize hZ : setW (List.replicate n false) n = Z at *
    have hAB : A.length = B.length := by omega
    have hZA : Z.length = A.length := by omega
    refine AW.skip ?_
    refine hK3 _ _ _ ?_; clear hK3
    refine AW.seq fun K4 hK4 => ?_
    refine AW.block ?_
    refine AW.sg [2,4,5,6,7,29,30,31] [2,4,5,7,27] (e2 @hlt (e5 @renC_tabO @hgr @rowB.eq_1 @hrl @hA)) ?_
    refine AW.sg [2,4,5,6,29,30,31,37,38,39] [2,4,5,27] (e2 @hlt @renC_tabO) ?_
    refine AW.block ?_
    refine AW.loopE (fun mm ee ss kk => ∃ (k g2 v2 g4 v4 g5 v5 : Nat), A.length - k = mm ∧ ee = [(2, .ptr ⟨2, g2, none⟩ 0 0), (4, .ptr ⟨4, g4, none⟩ 0 0), (5, .ptr ⟨5, g5, none⟩ 0 0), (6, .int .i64 (i : Nat)), (29, .rsl 2 (tabR t)), (30, .int .i64 n), (31, .int .i64 (i : Nat)), (37, .rsl 1 (words A)), (38, .int .i64 A.length), (39, .int .i64 (k : Nat))] ∧ ss = [(2, some ⟨g2, v2, 1, [[.nilsl]]⟩), (4, some ⟨g4, v4, 1, [[.rsl 2 (tabR l)]]⟩), (5, some ⟨g5, v5, 1, [[.sl ⟨27, g, none⟩ 0 n none]]⟩), (27, some ⟨g, v, 2, (tabO F).set i [.int .i64 n, .osl 1 (words (mixW (bAndNot .u64) A B Z k))]⟩)] ∧ (k ≤ A.length)) ?_ ?_
    ·refine ⟨_, 0, ?_, ?_, ?_, ?_, ?_, ?_, rfl, ?henv, ?hstore, ?hst⟩
     case henv =>
      repeat' (first | rfl | apply env_cons | apply st_cons | apply int_eq | apply bool_eq | apply rsl_eq | apply osl_eq | apply sl_eq | apply ptr_eq | apply agg_eq | apply es_cons | apply row_cons)
      all_goals (first | (simp; done) | omega | (simp; omega))
     case hstore =>
      repeat' (first | rfl | apply env_cons | apply st_cons | apply int_eq | apply bool_eq | apply rsl_eq | apply osl_eq | apply sl_eq | apply ptr_eq | apply agg_eq | apply es_cons | apply row_cons)
      all_goals (first | (rw [mixW_zero, hfix]; done) | rfl)
     case hst =>
      first | trivial | omega | (simp; done) | (simp; omega)
    rintro mm ee ss kk ⟨k, g2, v2, g4, v4, g5, v5, rfl, rfl, rfl, hI⟩
    generalize hQl2 : thenQ _ _ = Ql2
    refine AW.sg [2,4,5,6,29,30,31,37,38,39,40] [2,4,5,27] (e2 @hlt @renC_tabO) ?_
    refine AW.seq fun K5 hK5 => ?_
    refine AW.cn ?_ ?_
    ·intro hb
     have hga := words_getD (l := A) (i := k) (by omega)
     have hgb := words_getD (l := B) (i := k) (by omega)
     have hml := mixW_len (f := bAndNot .u64) hAB hZA k
     have hms := mixW_succ (f := bAndNot .u64) hAB hZA (j := k) (by omega)
     have hgm := words_getD (l := mixW (bAndNot .u64) A B Z k) (i := k) (by omega)
     have hfg2 := fun x => hfg x i (by omega)
     refine AW.skip ?_
     refine hK5 _ _ _ ?_; clear hK5
     refine AW.seq fun K6 hK6 => ?_
     refine AW.block ?_
     refine AW.sg [2,4,5,6,8,9,29,30,31,37,38,39] [2,4,5,27] (e3 @hlt @renC_tabO @hga) ?_
     refine AW.rd mixed 0 (fun _ => none) [2,4,5,6,29,30,31,37,38,39] [2,4,5,27] (e2 @hlt (e5 @renC_tabO @hfg2 @hgl @rowB.eq_1 (e5 @hrl2 @hB @hgb @hgm @List.set_set.{0}))) ?_
     refine hK6 _ _ _ ?_; clear hK6
     refine AW.rg [2,4,5,6,29,30,31,37,38,39] [2,4,5,27] (e2 @hlt @renC_tabO) ?_
     rw [← hQl2]; change Exists _
     refine ⟨_, ?hm, k + 1, ?_, ?_, ?_, ?_, ?_, ?_, rfl, ?henv, ?hstore, ?hst⟩
     case henv =>
      repeat' (first | rfl | apply env_cons | apply st_cons | apply int_eq | apply bool_eq | apply rsl_eq | apply osl_eq | apply sl_eq | apply ptr_eq | apply agg_eq | apply es_cons | apply row_cons)
      all_goals (first | (simp; done) | omega | (simp; omega))
     case hstore =>
      repeat' (first | rfl | apply env_cons | apply st_cons | apply int_eq | apply bool_eq | apply rsl_eq | apply osl_eq | apply sl_eq | apply ptr_eq | apply agg_eq | apply es_cons | apply row_cons)
      all_goals (rw [hms])
     case hst =>
      first | trivial | omega | (simp; done) | (simp; omega)
     case hm => omega
    ·intro hb
     have hk : k = A.length := by omega
     subst hk
     rw [mixW_all hAB hZA (Nat.le_refl _)]
     refine AW.kx [2,4,5,29,30,31] [2,4,5,27] ?_
     rw [← hQl2]
     refine hK4 _ _ _ ?_; clear hK4
     refine AW.rg [2,4,5,29,30,31] [2,4,5,27] (e2 @hlt @renC_tabO) ?_
     rw [← hQl1]; change Exists _
     refine ⟨_, ?hm, i + 1, ?_, ?_, ?_, ?_, ?_, ?_, ?_, ?_, rfl, ?henv, ?hstore, ?hst⟩
     case henv =>
      repeat' (first | rfl | apply env_cons | apply st_cons | apply int_eq | apply bool_eq | apply rsl_eq | apply osl_eq | apply sl_eq | apply ptr_eq | apply agg_eq | apply es_cons | apply row_cons)
      all_goals (first | (simp; done) | omega | (simp; omega))
     case hstore =>
      repeat' (first | rfl | apply env_cons | apply st_cons | apply int_eq | apply bool_eq | apply rsl_eq | apply osl_eq | apply sl_eq | apply ptr_eq | apply agg_eq | apply es_cons | apply row_cons)
      all_goals (first | (rw [← hro, hts, hfs]; done) | rfl)
     case hst =>
      first | trivial | omega | (simp; done) | (simp; omega)
     case hm => omega
   ·intro hb
    refine AW.kx [2,5] [2,5,27] ?_
    rw [← hQl1]
    refine hK2 _ _ _ ?_; clear hK2
    refine AW.sg [2,3] [2,27] (e2 @hlt @renC_tabO) ?_
    rw [← hQr]
    refine AW.rt (e2 @hlt @renC_tabO) ?_
    have hi : i = n := by omega
    subst hi
    rw [fillT_all hsr]
    refine Wk.of_eq ?_
    rw [List.take_of_length_le (by rw [tabO_len, hsr.len]; exact Nat.le_refl _), vwc_tabO]
    rfl
theorem in_r (n i : Int) : Reads Tryz.prog 75 false [.int .i64 i, .rptr [.int .i64 n]] (.bool (decide (0 ≤ i) && decide (i < n))) := by
 refine Reads.body (rs := [.tmp 3]) Tryz.func75 rfl Tryz.ntmps75 rfl (by simp) ?_
 generalize hQr : retQ _ _ _ = Qr
 refine AW.sg [0,1] [] trivial ?_
 refine AW.sg [3] [] trivial ?_
 repeat with_reducible refine cj ?_ ?_
 all_goals try first | omega | (intros; (repeat' apply And.intro) <;> first | assumption | omega | decide) | (intro hgd; exact absurd hgd (by decide)) | rfl | exact gD | (intro _hgd; simp_all [go_sem]; done)
 rw [← hQr]
 refine AW.rt trivial ?_
 exact Wk.of_eq (by simp)
theorem badpr_r (n : Int) (p : Int × Int) : Reads Tryz.prog 77 false [.agg (pairV p), .rptr [.fn 75 [.rptr [.int .i64 n]]]] (.bool (badPr n p)) := by
 have h := in_r n
 unfold pairV
 refine Reads.body (rs := [.tmp 3]) Tryz.func77 rfl Tryz.ntmps77 rfl (by simp) ?_
 generalize hQr : retQ _ _ _ = Qr
 refine AW.sg [1,2] [2] trivial ?_
 refine AW.so 0 (fun ii => if ii = 3 then some (.reads false (.bool (decide (0 ≤ p.1) && decide (p.1 < n)))) else if ii = 9 then some (.reads false (.bool (decide (0 ≤ p.2) && decide (p.2 < n)))) else none) [3] [] trivial ?_
 repeat with_reducible refine cj ?_ ?_
 all_goals try first | (first | exact h p.1 | (intro hh; exact ⟨hh, h p.2⟩)) | (intros; (repeat' apply And.intro) <;> first | assumption | (first | exact h p.1 | (intro hh; exact ⟨hh, h p.2⟩))) | omega | exact ent (by kernel_rfl) | (intro hgd; exact absurd hgd (by decide)) | rfl | exact gD | (intro _hgd; simp_all [go_sem]; done)
 rw [← hQr]
 refine AW.rt trivial ?_
 exact Wk.of_eq (by unfold badPr; simp)
theorem ixpr_r (n : Int) (ns : List (Int × Int)) (hl2 : ns.length ≤ 9223372036854775807) : Reads Tryz.prog 102 false [.rsl 2 (ns.map pairV), .fn 77 [.rptr [.fn 75 [.rptr [.int .i64 n]]]]] (.int .i64 (ixf (badPr n) ns)) := by
 have hbp := fun p => badpr_r n p
 refine Reads.body (rs := [.tmp 4]) Tryz.func102 rfl Tryz.ntmps102 rfl (by simp) ?_
 generalize hQr : retQ _ _ _ = Qr
 refine AW.sg [0,1] [] trivial ?_
 refine AW.seq fun K1 hK1 => ?_
 refine AW.sg [0,1,7,8] [] trivial ?_
 refine AW.block ?_
 refine AW.loopE (fun mm ee ss kk => ∃ (j : Nat), ns.length - j = mm ∧ ee = [(0, .rsl 2 (ns.map pairV)), (1, .fn 77 [.rptr [.fn 75 [.rptr [.int .i64 n]]]]), (7, .int .i64 ns.length), (8, .int .i64 (j : Nat))] ∧ ss = [] ∧ (j ≤ ns.length ∧ (ns.take j).any (badPr n) = false)) ?_ ?_
 ·exact ⟨_, 0, rfl, eD, eD, eT⟩
 rintro mm ee ss kk ⟨j, rfl, rfl, rfl, hI⟩
 generalize hQl1 : thenQ _ _ = Ql1
 obtain ⟨hj, hall⟩ := hI
 refine AW.sg [0,1,7,8,9] [] trivial ?_
 refine AW.seq fun K2 hK2 => ?_
 refine AW.cn ?_ ?_
 ·intro hb
  obtain ⟨x, hx⟩ := getI (l := ns) (j := j) (by omega)
  have hgx := getV (f := pairV) hx
  have hats := any_take_succ (p := badPr n) hx
  have hbx := hbp x
  unfold pairV at hbx
  refine AW.skip ?_
  refine hK2 _ _ _ ?_; clear hK2
  refine AW.seq fun K3 hK3 => ?_
  refine AW.block ?_
  refine AW.sg [0,1,5,7,8] [] trivial ?_
  refine AW.so 0 (fun ii => if ii = 5 then some (.reads false (.bool (badPr n x))) else none) [0,1,5,7,8,16] [] (e2 @hgx @pairV.eq_1) ?_
  repeat with_reducible refine cj ?_ ?_
  all_goals try first | (exact hbx) | omega | exact ent (by kernel_rfl)
  refine AW.cn ?_ ?_
  ·intro hb
   refine AW.sg [4] [] trivial ?_
   rw [← hQl1, ← hQr]
   refine AW.rt trivial ?_
   exact Wk.of_eq (by rw [ixf_at hx hb hall])
  ·intro hb
   refine AW.skip ?_
   refine hK3 _ _ _ ?_; clear hK3
   refine AW.rg [0,1,7,8] [] trivial ?_
   rw [← hQl1]; change Exists _
   exact ⟨_, eO, j + 1, rfl, eD, eD, (⟨by omega, by rw [hats, hall, hb]; rfl⟩)⟩
 ·intro hb
  refine AW.kx [] [] ?_
  rw [← hQl1]
  refine hK1 _ _ _ ?_; clear hK1
  refine AW.sg [4] [] trivial ?_
  rw [← hQr]
  refine AW.rt trivial ?_
  exact Wk.of_eq (by rw [List.take_of_length_le (by omega)] at hall; rw [ixf_none hall])
theorem ctpr_r (n : Int) (ns : List (Int × Int)) (hl2 : ns.length ≤ 9223372036854775807) : Reads Tryz.prog 76 false [.rsl 2 (ns.map pairV), .fn 77 [.rptr [.fn 75 [.rptr [.int .i64 n]]]]] (.bool (ns.any (badPr n))) := by
 have h := ixpr_r n ns hl2
 have hge := ixf_ge (badPr n) ns
 refine Reads.body (rs := [.tmp 4]) Tryz.func76 rfl Tryz.ntmps76 rfl (by simp) ?_
 generalize hQr : retQ _ _ _ = Qr
 refine AW.sg [0,1] [] trivial ?_
 refine AW.so 0 (fun ii => if ii = 2 then some (.reads false (.int .i64 (ixf (badPr n) ns))) else none) [4] [] trivial ?_
 repeat with_reducible refine cj ?_ ?_
 all_goals try first | (exact h) | omega | exact ent (by kernel_rfl)
 rw [← hQr]
 refine AW.rt trivial ?_
 exact Wk.of_eq (by rw [hge])
theorem make_g (n : Nat) (ns : List (Int × Int)) (hl2 : ns.length ≤ 9223372036854775807) (hn : n ≤ 512) (hin : ∀ p ∈ ns, inP n p) : Reads Tryz.prog 46 false [.int .i64 n, .rsl 2 (ns.map pairV)] (.tup [relB (putL (zeroT n) ns), .int .i64 ((0 : Nat) : Int)]) := by
 have h := Reads.flat (ctpr_r n ns hl2) rfl
 have hnb : ns.any (badPr n) = false := by
  rw [List.any_eq_false]; intro p hp
  have := hin p hp
  unfold inP at this
  simp [badPr]; omega
 rw [hnb] at h
 have hemp := empty_u n hn
 have hsq := fun j => Sq.putL (n := n) (ns.take j) (Sq.rep n) (fun p hp => hin p (List.mem_of_mem_take hp))
 unfold relB
 refine Reads.body (rs := [.cell 4 24, .tmp 5]) Tryz.func46 rfl Tryz.ntmps46 rfl (by simp) ?_
 generalize hQr : retQ _ _ _ = Qr
 refine AW.sg [1,2,4] [2,4] (@renC_tabO) ?_
 refine AW.sg [1,2,4,6] [2,4,6] (@renC_tabO) ?_
 refine AW.seq fun K1 hK1 => ?_
 refine AW.so 0 (fun ii => if ii = 9 then some (.reads true (.bool false)) else none) [1,2,4,21] [2,4] (@renC_tabO) ?_
 repeat with_reducible refine cj ?_ ?_
 all_goals try first | ((intro hh; exact ⟨hh, h⟩)) | (intros; (repeat' apply And.intro) <;> first | assumption | ((intro hh; exact ⟨hh, h⟩))) | omega | exact ent (by kernel_rfl) | (intro hgd; exact absurd hgd (by decide)) | rfl | (simp only [go_sem, reduceIte, reduceCtorEq, zA, zM, zE, zL, zD, zS, zP, zB, zI, zR, renC_tabO]; done) | (intro _hgd; simp_all [go_sem]; done)
 refine AW.cn ?_ ?_
 ·intro hb
  exfalso; first | omega | (simp at hb; omega)
 ·intro hb
  refine AW.skip ?_
  refine hK1 _ _ _ ?_; clear hK1
  refine AW.so 0 (fun ii => if ii = 1 then some (.upd [] (fun k => [(0, some ⟨k, k, 2, tabO (List.replicate n (List.replicate n false))⟩)]) (fun k => .agg [.sl ⟨0, k, none⟩ 0 n none])) else none) [1,4,7] [4,7,24] (@renC_tabO) ?_
  repeat with_reducible refine cj ?_ ?_
  all_goals try first | (exact hemp) | omega | exact ent (by kernel_rfl)
  refine AW.seq fun K2 hK2 => ?_
  refine AW.sg [4,7,25,26,27] [4,7,24] (@renC_tabO) ?_
  refine AW.block ?_
  refine AW.loopE (fun mm ee ss kk => ∃ (j g4 v4 g7 v7 g v : Nat), ns.length - j = mm ∧ ee = [(4, .ptr ⟨4, g4, none⟩ 0 0), (7, .ptr ⟨7, g7, none⟩ 0 0), (25, .rsl 2 (ns.map pairV)), (26, .int .i64 ns.length), (27, .int .i64 (j : Nat))] ∧ ss = [(4, some ⟨g4, v4, 1, [[.nilsl]]⟩), (7, some ⟨g7, v7, 1, [[.sl ⟨24, g, none⟩ 0 n none]]⟩), (24, some ⟨g, v, 2, tabO (putL (zeroT n) (ns.take j))⟩)] ∧ (j ≤ ns.length)) ?_ ?_
  ·exact ⟨_, 0, _, _, _, _, _, _, rfl, eD, eD, eT⟩
  rintro mm ee ss kk ⟨j, g4, v4, g7, v7, g, v, rfl, rfl, rfl, hI⟩
  generalize hQl1 : thenQ _ _ = Ql1
  refine AW.sg [4,7,25,26,27,28] [4,7,24] (@renC_tabO) ?_
  refine AW.seq fun K3 hK3 => ?_
  refine AW.cn ?_ ?_
  ·intro hb
   obtain ⟨p, hp⟩ := getI (l := ns) (j := j) (by omega)
   have hgp := getV (f := pairV) hp
   have hip := hin p (List.mem_of_getElem? hp)
   have hpt := putL_take (u := zeroT n) hp
   have hsu := hsq j
   change Sq n (putL (zeroT n) _) at hsu
   unfold inP at hip
   generalize putL (zeroT n) (ns.take j) = U at *
   have hpu := fun g v => put_u n U hsu hn p.1.toNat p.2.toNat (by omega) (by omega) g v none
   rw [Int.toNat_of_nonneg hip.1, Int.toNat_of_nonneg hip.2.2.1] at hpu
   unfold putT at hpt
   refine AW.skip ?_
   refine hK3 _ _ _ ?_; clear hK3
   refine AW.seq fun K4 hK4 => ?_
   refine AW.block ?_
   refine AW.sg [4,7,9,25,26,27] [4,7,9,24] (e3 @renC_tabO @hgp @pairV.eq_1) ?_
   refine AW.ro 0 (fun ii => if ii = 5 then some (.upd [24] (fun kk => [(0, some ⟨g, kk, 2, tabO (U.set p.1.toNat ((rowT U p.1.toNat).set p.2.toNat true))⟩)]) (fun _ => .tup [])) else none) [4,7,25,26,27] [4,7,24] (@renC_tabO) ?_
   repeat with_reducible refine cj ?_ ?_
   all_goals try first | (exact hpu _ _) | omega | exact ent (by kernel_rfl)
   refine hK4 _ _ _ ?_; clear hK4
   refine AW.rg [4,7,25,26,27] [4,7,24] (@renC_tabO) ?_
   rw [← hQl1]; change Exists _
   refine ⟨_, ?hm, j + 1, ?_, ?_, ?_, ?_, ?_, ?_, rfl, ?henv, ?hstore, ?hst⟩
   case henv =>
    repeat' (first | rfl | apply env_cons | apply st_cons | apply int_eq | apply bool_eq | apply rsl_eq | apply osl_eq | apply sl_eq | apply ptr_eq | apply agg_eq | apply es_cons | apply row_cons)
    all_goals (first | (simp; done) | omega | (simp; omega))
   case hstore =>
    repeat' (first | rfl | apply env_cons | apply st_cons | apply int_eq | apply bool_eq | apply rsl_eq | apply osl_eq | apply sl_eq | apply ptr_eq | apply agg_eq | apply es_cons | apply row_cons)
    all_goals (rw [hpt])
   case hst =>
    first | trivial | omega | (simp; done) | (simp; omega)
   case hm => omega
  ·intro hb
   refine AW.kx [4,7] [4,7,24] ?_
   rw [← hQl1]
   refine hK2 _ _ _ ?_; clear hK2
   refine AW.sg [4,5] [4,24] (@renC_tabO) ?_
   rw [← hQr]
   refine AW.rt (@renC_tabO) ?_
   have hj2 : j = ns.length := by omega
   subst hj2
   have hfl : ns.take ns.length = ns := List.take_of_length_le (Nat.le_refl _)
   have hsz := hsq ns.length
   rw [hfl] at *
   refine Wk.of_eq ?_
   rw [List.take_of_length_le (by rw [tabO_len]; exact Nat.le_of_eq hsz.len), vwc_tabO]
   rfl
theorem covers_g (n : Nat) (t : List (List Bool)) (hs : Sq n t) (hn : n ≤ 512) (hp : poB n t = true) : Reads Tryz.prog 54 false [relB t] (.tup [relB (covT n t), .int .i64 ((0 : Nat) : Int)]) := by
 have h := pvalid_g n t hs hn
 have h2 := reduction_g n t hs hn (((poB_iff hs).1 hp).acyc hs)
 rw [hp] at h
 rw [show redT n t (compT n t (warsh n t)) = covT n t from rfl] at h2
 unfold relB at *
 refine Reads.body (rs := [.cell 2 24, .tmp 3]) Tryz.func54 rfl Tryz.ntmps54 rfl (by simp) ?_
 generalize hQr : retQ _ _ _ = Qr
 refine AW.sg [1,2] [1,2] trivial ?_
 refine AW.seq fun K1 hK1 => ?_
 refine AW.so 0 (fun ii => if ii = 1 then some (.reads false (.bool true)) else none) [1,2,6] [1,2] trivial ?_
 repeat with_reducible refine cj ?_ ?_
 all_goals try first | (exact h) | omega | exact ent (by kernel_rfl)
 refine AW.cn ?_ ?_
 ·intro hb
  simp at hb
 ·intro hb
  refine AW.skip ?_
  refine hK1 _ _ _ ?_; clear hK1
  refine AW.so 0 (fun ii => if ii = 1 then some (.reads false (.tup [.agg [.rsl 2 (tabR (covT n t))], .int .i64 ((0 : Nat) : Int)])) else none) [2,3] [2] trivial ?_
  repeat with_reducible refine cj ?_ ?_
  all_goals try first | (exact h2) | omega | exact ent (by kernel_rfl)
  rw [← hQr]
  refine AW.rt trivial ?_
  exact Wk.refl _
theorem restrict_g (n : Nat) (t : List (List Bool)) (hs : Sq n t) (hn : n ≤ 512) (hp : poB n t = true) (b : List Bool) (hb0 : b.length = n) : Reads Tryz.prog 56 false [relB t, .agg (rowB b)] (.tup [relB (resT t (memB b)), .int .i64 ((0 : Nat) : Int)]) := by
 have h := pmatch_t n t hs hn hp b hb0
 have hm := members_b b (by omega)
 have hlt : (tabR t).length = n := by rw [tabR_len, hs.len]
 have hgr := fun i hi => tabR_get (t := t) (i := i) hi
 have hlen := hs.len
 have hml := memB_le b
 have hmm : ∀ a, a < (memB b).length → (memB b).getD a 0 < n := fun a ha => memB_lt hb0 ha
 have hgm : ∀ a, a < (memB b).length → (ints (nats (memB b))).getD a [] = [.int .i64 ((memB b).getD a 0 : Nat)] := fun a ha => by
  obtain ⟨q, hq⟩ := getI (l := memB b) (j := a) ha
  rw [getD_of hq]
  exact ints_get (by simp [nats, hq])
 have hra := fun a c ha hc => resT_at (t := t) (M := memB b) (a := a) (c := c) ha hc
 have hrs := resT_sq t (memB b)
 have hhas : ∀ a c, a < (memB b).length → c < (memB b).length → Reads Tryz.prog 90 false [.agg (rowB (rowT t ((memB b).getD a 0))), .int .i64 ((memB b).getD c 0 : Nat)] (.bool (atT (resT t (memB b)) a c)) := fun a c ha hc => by
  have h1 := hmm a ha
  have h2 := hmm c hc
  have hr := hs.rowLen h1
  have := rowH_r (rowT t ((memB b).getD a 0)) (by omega) ((memB b).getD c 0 : Nat)
  rw [decide_eq_true (by omega), decide_eq_true (by omega), Int.toNat_natCast] at this
  rw [hra a c ha hc]
  exact this
 have hpl : (pairsT (resT t (memB b)) (memB b).length).length ≤ 262144 := Nat.le_trans (pairsAt_le _ _ _) (Nat.le_trans (Nat.mul_le_mul (by omega : _ ≤ 512) (by omega : _ ≤ 512)) (by decide))
 have hmk := make_g (memB b).length (pairsT (resT t (memB b)) (memB b).length) (by omega) (by omega) pairsT_in
 rw [mk_pairs hrs] at hmk
 have hpd : pairsT (resT t (memB b)) (memB b).length = pairsAt (resT t (memB b)) (memB b).length (memB b).length := rfl
 generalize hR : resT t (memB b) = R at *
 generalize hM : memB b = M at *
 unfold relB rowB at *
 refine Reads.body (rs := [.cell 4 24, .tmp 5]) Tryz.func56 rfl Tryz.ntmps56 rfl (by simp) ?_
 generalize hQr : retQ _ _ _ = Qr
 refine AW.sg [2,3,4] [2,3,4] (e3 @hlt @ints_len @nats_len) ?_
 refine AW.seq fun K1 hK1 => ?_
 refine AW.so 0 (fun ii => if ii = 2 then some (.reads false (.bool true)) else none) [2,3,4,14] [2,3,4] (e3 @hlt @ints_len @nats_len) ?_
 repeat with_reducible refine cj ?_ ?_
 all_goals try first | (exact h) | omega | exact ent (by kernel_rfl)
 refine AW.cn ?_ ?_
 ·intro hb
  simp at hb
 ·intro hb
  refine AW.skip ?_
  refine hK1 _ _ _ ?_; clear hK1
  refine AW.so 0 (fun ii => if ii = 1 then some (.reads false (.tup [.rsl 1 (ints (nats M)), .int .i64 ((0 : Nat) : Int)])) else none) [2,4,6] [2,4] (e3 @hlt @ints_len @nats_len) ?_
  repeat with_reducible refine cj ?_ ?_
  all_goals try first | (exact hm) | omega | exact ent (by kernel_rfl)
  refine AW.sg [2,4,6,8] [2,4] (e3 @hlt @ints_len @nats_len) ?_
  refine AW.seq fun K2 hK2 => ?_
  refine AW.sg [2,4,6,8,22,23] [2,4] (e3 @hlt @ints_len @nats_len) ?_
  refine AW.block ?_
  refine AW.nilOwn 8 200 2 (by simp only [go_sem, reduceIte, zE]) ?_
  refine AW.keep [2, 4, 6, 8, 22, 23] [2, 4, 200] ?_
  simp only [go_sem, reduceIte, zE]
  refine AW.loopE (fun mm ee ss kk => ∃ (i g2 v2 g4 v4 g v : Nat), M.length - i = mm ∧ ee = [(2, .ptr ⟨2, g2, none⟩ 0 0), (4, .ptr ⟨4, g4, none⟩ 0 0), (6, .rsl 1 (ints (nats M))), (8, .sl ⟨200, g, none⟩ 0 (pairsAt R M.length i).length none), (22, .int .i64 M.length), (23, .int .i64 (i : Nat))] ∧ ss = [(2, some ⟨g2, v2, 1, [[.rsl 2 (tabR t)]]⟩), (4, some ⟨g4, v4, 1, [[.nilsl]]⟩), (200, some ⟨g, v, 2, (pairsAt R M.length i).map pairV⟩)] ∧ (i ≤ M.length)) ?_ ?_
  ·exact ⟨_, 0, _, _, _, _, _, _, rfl, eD, eD, eT⟩
  rintro mm ee ss kk ⟨i, g2, v2, g4, v4, g, v, rfl, rfl, rfl, hI⟩
  generalize hQl1 : thenQ _ _ = Ql1
  refine AW.sg [2,4,6,8,22,23,24] [2,4,200] (e3 @hlt @ints_len @nats_len) ?_
  refine AW.seq fun K3 hK3 => ?_
  refine AW.cn ?_ ?_
  ·intro hb
   refine AW.skip ?_
   refine hK3 _ _ _ ?_; clear hK3
   refine AW.seq fun K4 hK4 => ?_
   refine AW.block ?_
   refine AW.sg [2,4,6,8,9,22,23] [2,4,200] (e3 @hlt @ints_len @nats_len) ?_
   refine AW.sg [2,4,6,8,9,22,23,27,28] [2,4,200] (e3 @hlt @ints_len @nats_len) ?_
   refine AW.block ?_
   refine AW.loopE (fun mm ee ss kk => ∃ (j g2 v2 g4 v4 g v : Nat), M.length - j = mm ∧ ee = [(2, .ptr ⟨2, g2, none⟩ 0 0), (4, .ptr ⟨4, g4, none⟩ 0 0), (6, .rsl 1 (ints (nats M))), (8, .sl ⟨200, g, none⟩ 0 (pairsAt R M.length i ++ rowPairs R i j).length none), (9, .int .i64 (i : Nat)), (22, .int .i64 M.length), (23, .int .i64 (i : Nat)), (27, .int .i64 M.length), (28, .int .i64 (j : Nat))] ∧ ss = [(2, some ⟨g2, v2, 1, [[.rsl 2 (tabR t)]]⟩), (4, some ⟨g4, v4, 1, [[.nilsl]]⟩), (200, some ⟨g, v, 2, (pairsAt R M.length i ++ rowPairs R i j).map pairV⟩)] ∧ (j ≤ M.length)) ?_ ?_
   ·refine ⟨_, 0, ?_, ?_, ?_, ?_, ?_, ?_, rfl, ?henv, ?hstore, ?hst⟩
    case henv =>
     repeat' (first | rfl | apply env_cons | apply st_cons | apply int_eq | apply bool_eq | apply rsl_eq | apply osl_eq | apply sl_eq | apply ptr_eq | apply agg_eq | apply es_cons | apply row_cons)
     all_goals (simp [rowPairs])
    case hstore =>
     repeat' (first | rfl | apply env_cons | apply st_cons | apply int_eq | apply bool_eq | apply rsl_eq | apply osl_eq | apply sl_eq | apply ptr_eq | apply agg_eq | apply es_cons | apply row_cons)
     all_goals (simp [rowPairs])
    case hst =>
     first | trivial | omega | (simp; done) | (simp; omega)
   rintro mm ee ss kk ⟨j, g2, v2, g4, v4, g, v, rfl, rfl, rfl, hI⟩
   generalize hQl2 : thenQ _ _ = Ql2
   refine AW.sg [2,4,6,8,9,22,23,27,28,29] [2,4,200] (e3 @hlt @ints_len @nats_len) ?_
   refine AW.seq fun K5 hK5 => ?_
   refine AW.cn ?_ ?_
   ·intro hb
    have hhr := hhas i j (by omega) (by omega)
    have hgi := hgm i (by omega)
    have hgj := hgm j (by omega)
    have hmi := hmm i (by omega)
    have hgt := hgr (M.getD i 0) (by omega)
    have hps := rowPairs_succ R i j
    have hpl2 := pairsAt_le R M.length i
    have hrl := rowPairs_le R i j
    have hmul : M.length * i ≤ 262144 := Nat.le_trans (Nat.mul_le_mul (by omega : M.length ≤ 512) (by omega : i ≤ 512)) (by decide)
    have hll : (pairsAt R M.length i ++ rowPairs R i j).length ≤ 300000 := by rw [List.length_append]; omega
    have hml2 : ((pairsAt R M.length i ++ rowPairs R i j).map pairV).length = (pairsAt R M.length i ++ rowPairs R i j).length := by simp
    have htk : ((pairsAt R M.length i ++ rowPairs R i j).map pairV).take (pairsAt R M.length i ++ rowPairs R i j).length = (pairsAt R M.length i ++ rowPairs R i j).map pairV := List.take_of_length_le (by simp)
    generalize hL : pairsAt R M.length i ++ rowPairs R i j = L at *
    refine AW.skip ?_
    refine hK5 _ _ _ ?_; clear hK5
    refine AW.seq fun K6 hK6 => ?_
    refine AW.block ?_
    refine AW.sg [2,4,6,8,9,10,22,23,27,28] [2,4,200] (e3 @hlt @ints_len @nats_len) ?_
    refine AW.sd mixed 0 (fun ii => if ii = 12 then some (.reads false (.bool (atT R i j))) else none) [2,4,6,8,9,10,22,23,27,28,43] [2,4,200] (e2 @hlt (e5 @ints_len @nats_len @hgi @hgj @hgt)) ?_
    repeat with_reducible refine cj ?_ ?_
    all_goals try first | (first | exact hhr | exact ⟨rfl, hhr⟩) | omega | exact chk (by kernel_rfl) | exact ent (by kernel_rfl)
    refine AW.cn ?_ ?_
    ·intro hb
     rw [if_pos hb] at hps
     have hLs : pairsAt R M.length i ++ rowPairs R i (j + 1) = L ++ [((i : Int), (j : Int))] := by rw [hps, ← List.append_assoc, hL]
     refine AW.regionK 0 (fun _ => none) [2, 4, 6, 8, 9, 22, 23, 27, 28] [2, 4, 200] ?_
     simp only [go_sem, reduceIte, reduceCtorEq, zA, zM, zE, zL, zD, zS, zP, zB, zI, zR, hlt, ints_len, nats_len, htk, hml2, pairs_app]
     repeat with_reducible refine cj ?_ ?_
     all_goals try first | omega | (simp [scP, scalar]; done) | exact scP_words _ | exact scP_ints _ | exact scP_bools _
     refine hK6 _ _ _ ?_; clear hK6
     refine AW.rg [2,4,6,8,9,22,23,27,28] [2,4,200] (e3 @hlt @ints_len @nats_len) ?_
     rw [← hQl2]; change Exists _
     refine ⟨_, ?hm, j + 1, ?_, ?_, ?_, ?_, ?_, ?_, rfl, ?henv, ?hstore, ?hst⟩
     case henv =>
      repeat' (first | rfl | apply env_cons | apply st_cons | apply int_eq | apply bool_eq | apply rsl_eq | apply osl_eq | apply sl_eq | apply ptr_eq | apply agg_eq | apply es_cons | apply row_cons)
      all_goals (rw [hLs]; try simp)
     case hstore =>
      repeat' (first | rfl | apply env_cons | apply st_cons | apply int_eq | apply bool_eq | apply rsl_eq | apply osl_eq | apply sl_eq | apply ptr_eq | apply agg_eq | apply es_cons | apply row_cons)
      all_goals (rw [hLs])
     case hst =>
      first | trivial | omega | (simp; done) | (simp; omega)
     case hm => omega
    ·intro hb
     rw [if_neg (by rw [hb]; simp)] at hps
     have hLs : pairsAt R M.length i ++ rowPairs R i (j + 1) = L := by rw [hps, hL]
     refine AW.skip ?_
     refine hK6 _ _ _ ?_; clear hK6
     refine AW.rg [2,4,6,8,9,22,23,27,28] [2,4,200] (e3 @hlt @ints_len @nats_len) ?_
     rw [← hQl2]; change Exists _
     refine ⟨_, ?hm, j + 1, ?_, ?_, ?_, ?_, ?_, ?_, rfl, ?henv, ?hstore, ?hst⟩
     case henv =>
      repeat' (first | rfl | apply env_cons | apply st_cons | apply int_eq | apply bool_eq | apply rsl_eq | apply osl_eq | apply sl_eq | apply ptr_eq | apply agg_eq | apply es_cons | apply row_cons)
      all_goals (rw [hLs]; try simp)
     case hstore =>
      repeat' (first | rfl | apply env_cons | apply st_cons | apply int_eq | apply bool_eq | apply rsl_eq | apply osl_eq | apply sl_eq | apply ptr_eq | apply agg_eq | apply es_cons | apply row_cons)
      all_goals (rw [hLs])
     case hst =>
      first | trivial | omega | (simp; done) | (simp; omega)
     case hm => omega
   ·intro hb
    have hj : j = M.length := by omega
    subst hj
    have hps := pairsAt_succ R M.length i
    refine AW.exit ?_
    rw [← hQl2]
    refine hK4 _ _ _ ?_; clear hK4
    refine AW.rg [2,4,6,8,22,23] [2,4,200] (e3 @hlt @ints_len @nats_len) ?_
    rw [← hQl1]; change Exists _
    refine ⟨_, ?hm, i + 1, ?_, ?_, ?_, ?_, ?_, ?_, rfl, ?henv, ?hstore, ?hst⟩
    case henv =>
     repeat' (first | rfl | apply env_cons | apply st_cons | apply int_eq | apply bool_eq | apply rsl_eq | apply osl_eq | apply sl_eq | apply ptr_eq | apply agg_eq | apply es_cons | apply row_cons)
     all_goals (rw [hps])
    case hstore =>
     repeat' (first | rfl | apply env_cons | apply st_cons | apply int_eq | apply bool_eq | apply rsl_eq | apply osl_eq | apply sl_eq | apply ptr_eq | apply agg_eq | apply es_cons | apply row_cons)
     all_goals (rw [hps])
    case hst =>
     first | trivial | omega | (simp; done) | (simp; omega)
    case hm => omega
  ·intro hb
   have hi : i = M.length := by omega
   subst hi
   rw [← hpd]
   have htk2 : (List.map pairV (pairsT R M.length)).take (pairsT R M.length).length = List.map pairV (pairsT R M.length) := List.take_of_length_le (by simp)
   refine AW.freezeK [200] [8] [4, 6] [4] ?_
   simp only [go_sem, reduceIte, zE, vwc_pairs, htk2]
   refine AW.exit ?_
   rw [← hQl1]
   refine hK2 _ _ _ ?_; clear hK2
   refine AW.so 0 (fun ii => if ii = 3 then some (.reads false (.tup [.agg [.rsl 2 (tabR R)], .int .i64 ((0 : Nat) : Int)])) else none) [4,5] [4] (e3 @hlt @ints_len @nats_len) ?_
   repeat with_reducible refine cj ?_ ?_
   all_goals try first | (exact hmk) | omega | exact ent (by kernel_rfl)
   rw [← hQr]
   refine AW.rt (e3 @hlt @ints_len @nats_len) ?_
   exact Wk.refl _
end Go.Proofs.B

/- Ideals are what the search gives. -/
namespace Go.AM
theorem bkP_iff {t : List (List Bool)} {b : List Bool} {i n : Nat} : bkP t b i n = true ↔ b.getD i false = true ∧ ∀ j, j < n → atT t i j = true → b.getD j false = false := by
  unfold bkP
  rw [Bool.and_eq_true, List.all_eq_true]
  refine and_congr_right fun _ => ⟨fun h j hj ha => ?_, fun h j hj => ?_⟩
  · have := h j (List.mem_range.2 hj)
    rw [ha] at this; simpa using this
  · cases ha : atT t i j
    · simp
    · rw [h j (List.mem_range.1 hj) ha]; rfl
theorem nxP_iff {t : List (List Bool)} {b : List Bool} {j n : Nat} : nxP t b j n = true ↔ b.getD j false = false ∧ ∀ i, i < n → atT t i j = true → b.getD i false = true := by
  unfold nxP
  rw [Bool.and_eq_true, List.all_eq_true, Bool.not_eq_true']
  refine and_congr_right fun _ => ⟨fun h i hi ha => ?_, fun h i hi => ?_⟩
  · have := h i (List.mem_range.2 hi)
    rw [ha] at this; simpa using this
  · cases ha : atT t i j
    · simp
    · rw [h i (List.mem_range.1 hi) ha]; rfl
theorem mem_nx {t : List (List Bool)} {b : List Bool} {j n : Nat} : j ∈ nxL t b n n ↔ j < n ∧ nxP t b j n = true := by
  unfold nxL; rw [List.mem_filter, List.mem_range]
theorem mem_bk {t : List (List Bool)} {b : List Bool} {i n : Nat} : i ∈ bkL t b n n ↔ i < n ∧ bkP t b i n = true := by
  unfold bkL; rw [List.mem_filter, List.mem_range]
theorem getD_set {b : List Bool} {i j : Nat} {v : Bool} (hi : i < b.length) : (b.set i v).getD j false = if i = j then v else b.getD j false := by
  simp only [List.getD_eq_getElem?_getD, List.getElem?_set]
  split
  · rename_i h; subst h; simp [hi]
  · rfl
/-- Each member lies below or is a maximal member. -/
theorem max_ex {n : Nat} {t : List (List Bool)} (hp : IsPo n t) (b : List Bool) : ∀ (m i : Nat), i < n → b.getD i false = true → ((List.range n).filter fun j => atT t i j).length ≤ m → ∃ j, j ∈ bkL t b n n ∧ (j = i ∨ atT t i j = true) := by
  intro m
  induction m with
  | zero =>
    intro i hi hb hl
    refine ⟨i, mem_bk.2 ⟨hi, bkP_iff.2 ⟨hb, fun j hj ha => ?_⟩⟩, .inl rfl⟩
    have h0 := List.eq_nil_of_length_eq_zero (Nat.le_zero.1 hl)
    exact absurd ha (List.filter_eq_nil_iff.1 h0 j (List.mem_range.2 hj))
  | succ m ih =>
    intro i hi hb hl
    cases hc : bkP t b i n
    · have hex : ∃ k, k < n ∧ atT t i k = true ∧ b.getD k false = true := by
        apply Classical.byContradiction
        intro hno
        have := (bkP_iff (t := t) (b := b) (i := i) (n := n)).2 ⟨hb, fun j hj ha => by
          cases e : b.getD j false
          · rfl
          · exact absurd ⟨j, hj, ha, e⟩ hno⟩
        rw [this] at hc; cases hc
      obtain ⟨k, hk, h1, h2⟩ := hex
      have l1 : ((List.range n).filter fun q => atT t k q).length < ((List.range n).filter fun q => atT t i q).length :=
        filter_lt (fun q hq h => hp.trans i k q hi hk (List.mem_range.1 hq) h1 h) ⟨k, List.mem_range.2 hk, h1, by rw [hp.irr k hk]⟩
      obtain ⟨j, hj, h3⟩ := ih k hk h2 (by omega)
      refine ⟨j, hj, .inr ?_⟩
      rcases h3 with rfl | h3
      · exact h1
      · exact hp.trans i k j hi hk (mem_bk.1 hj).1 h1 h3
    · exact ⟨i, mem_bk.2 ⟨hi, hc⟩, .inl rfl⟩
theorem max_of {n : Nat} {t : List (List Bool)} (hp : IsPo n t) {b : List Bool} {i : Nat} (hi : i < n) (hb : b.getD i false = true) : ∃ j, j ∈ bkL t b n n ∧ (j = i ∨ atT t i j = true) := max_ex hp b _ i hi hb (Nat.le_refl _)
/-- With an element of the next ones an ideal is an ideal. -/
theorem id_with {n : Nat} {t : List (List Bool)} (hp : IsPo n t) {b : List Bool} (hb : b.length = n) (hi : idB n t b = true) {j : Nat} (hj : j < n) (hf : b.getD j false = false) : idB n t (b.set j true) = decide (j ∈ nxL t b n n) := by
  have hc := (idB_iff hb).1 hi
  have hbs : (b.set j true).length = n := by simp [hb]
  rw [Bool.eq_iff_iff, decide_eq_true_eq, idB_iff hbs, mem_nx, nxP_iff]
  constructor
  · intro h
    refine ⟨hj, hf, fun i hin ha => ?_⟩
    have := h i hin j hj (by rw [getD_set (by omega)]; simp) ha
    rw [getD_set (by omega)] at this
    split at this
    · rename_i e; subst e; rw [hp.irr _ hj] at ha; cases ha
    · exact this
  · rintro ⟨_, _, h⟩ i hin k hk h1 ha
    rw [getD_set (by omega)] at h1 ⊢
    split
    · rfl
    · split at h1
      · rename_i e; subst e; exact h i hin ha
      · exact hc i hin k hk h1 ha
/-- Without a maximal member an ideal is an ideal. -/
theorem id_less {n : Nat} {t : List (List Bool)} (hp : IsPo n t) {b : List Bool} (hb : b.length = n) (hi : idB n t b = true) {j : Nat} (hj : j < n) (hf : b.getD j false = true) : idB n t (b.set j false) = decide (j ∈ bkL t b n n) := by
  have hc := (idB_iff hb).1 hi
  have hbs : (b.set j false).length = n := by simp [hb]
  rw [Bool.eq_iff_iff, decide_eq_true_eq, idB_iff hbs, mem_bk, bkP_iff]
  constructor
  · intro h
    refine ⟨hj, hf, fun k hk ha => ?_⟩
    cases e : b.getD k false
    · rfl
    · have hne : j ≠ k := fun e => by subst e; rw [hp.irr _ hj] at ha; cases ha
      have := h j hj k hk (by rw [getD_set (by omega), if_neg hne]; exact e) ha
      rw [getD_set (by omega), if_pos rfl] at this
      cases this
  · rintro ⟨_, _, h⟩ i hin k hk h1 ha
    rw [getD_set (by omega)] at h1 ⊢
    split at h1
    · cases h1
    · split
      · rename_i hne e; subst e
        rw [h k hk ha] at h1; cases h1
      · exact hc i hin k hk h1 ha
theorem memB_nil {n : Nat} {b : List Bool} (hb : b.length = n) (h : (memB b).length = 0) : b = List.replicate n false := by
  have h0 := List.eq_nil_of_length_eq_zero h
  refine List.ext_getElem (by simp [hb]) fun i h1 h2 => ?_
  rw [List.getElem_replicate]
  cases e : b[i]
  · rfl
  · have : i ∈ memB b := memB_mem.2 ⟨h1, by simp [List.getD_eq_getElem?_getD, h1, e]⟩
    rw [h0] at this; cases this
theorem rep_getD (n i : Nat) : (List.replicate n false).getD i false = false := by
  simp only [List.getD_eq_getElem?_getD, List.getElem?_replicate]
  split <;> rfl
theorem id_empty (n : Nat) (t : List (List Bool)) : idB n t (List.replicate n false) = true := by
  rw [idB_iff (by simp)]
  intro i hi j hj h
  rw [rep_getD] at h; cases h
theorem kids_mem {n : Nat} {t : List (List Bool)} {b c : List Bool} (hb : b.length = n) : c ∈ kids (invT n t) b ↔ ∃ j, j ∈ nxL t b n n ∧ c = b.set j true := by
  unfold kids
  rw [hb, nextU_nx, List.mem_map]
  exact ⟨fun ⟨j, h1, h2⟩ => ⟨j, h1, h2.symm⟩, fun ⟨j, h1, h2⟩ => ⟨j, h1, h2.symm⟩⟩
theorem lvlN_mem (u L : List (List Bool)) (c : List Bool) : c ∈ lvlN u L ↔ ∃ b, b ∈ L ∧ c ∈ kids u b := by
  unfold lvlN fnd
  rw [sortS_mem, dedF_mem, List.take_of_length_le (Nat.le_refl _), List.mem_flatMap]
theorem mem_lvlK {n : Nat} {t : List (List Bool)} (hp : IsPo n t) : ∀ (k : Nat) (b : List Bool), b ∈ lvlK (invT n t) n k ↔ b.length = n ∧ idB n t b = true ∧ (memB b).length = k := by
  intro k
  induction k with
  | zero =>
    intro b
    simp only [lvlK, List.mem_singleton]
    constructor
    · rintro rfl
      exact ⟨by simp, id_empty n t, lvlK_cnt (invT n t) n 0 _ (by simp [lvlK])⟩
    · rintro ⟨h1, _, h2⟩
      exact memB_nil h1 h2
  | succ k ih =>
    intro b
    rw [show lvlK (invT n t) n (k + 1) = lvlN (invT n t) (lvlK (invT n t) n k) from rfl, lvlN_mem]
    constructor
    · rintro ⟨a, ha, hc⟩
      obtain ⟨h1, h2, h3⟩ := (ih a).1 ha
      obtain ⟨j, hj, rfl⟩ := (kids_mem h1).1 hc
      have hj2 := mem_nx.1 hj
      have hf := (nxP_iff.1 hj2.2).1
      refine ⟨by simp [h1], by rw [id_with hp h1 h2 hj2.1 hf]; exact decide_eq_true hj, ?_⟩
      rw [cnt_set (by omega) hf, h3]
    · rintro ⟨h1, h2, h3⟩
      have hne : memB b ≠ [] := fun e => by rw [e] at h3; cases h3
      obtain ⟨i, hi⟩ := List.exists_mem_of_ne_nil _ hne
      obtain ⟨hi1, hi2⟩ := memB_mem.1 hi
      obtain ⟨j, hj, _⟩ := max_of hp (t := t) (b := b) (i := i) (by omega) hi2
      have hj2 := mem_bk.1 hj
      have hj3 := bkP_iff.1 hj2.2
      have hl : (b.set j false).length = n := by simp [h1]
      have hid : idB n t (b.set j false) = true := by rw [id_less hp h1 h2 hj2.1 hj3.1]; exact decide_eq_true hj
      have hgf : (b.set j false).getD j false = false := by rw [getD_set (by omega)]; simp
      have hback : (b.set j false).set j true = b := by
        rw [List.set_set]
        refine List.ext_getElem (by simp) fun q h1' h2' => ?_
        rw [List.getElem_set]
        split
        · rename_i e; subst e
          have := hj3.1
          simpa [List.getD_eq_getElem?_getD, h2'] using this.symm
        · rfl
      have hcnt := cnt_set (b := b.set j false) (i := j) (by omega) hgf
      rw [hback] at hcnt
      refine ⟨b.set j false, (ih _).2 ⟨hl, hid, by omega⟩, (kids_mem hl).2 ⟨j, ?_, hback.symm⟩⟩
      have := id_with hp hl hid hj2.1 hgf
      rw [hback, h2] at this
      exact of_decide_eq_true this.symm
theorem mem_outK {u : List (List Bool)} {n k : Nat} {b : List Bool} : b ∈ outK u n k ↔ ∃ j, j < k ∧ b ∈ lvlK u n j := by
  unfold outK; rw [List.mem_flatMap]; simp only [List.mem_range]
/-- All that the search gives are the ideals. -/
theorem mem_allU {n : Nat} {t : List (List Bool)} (hp : IsPo n t) (b : List Bool) : b ∈ allU (invT n t) n ↔ b.length = n ∧ idB n t b = true := by
  unfold allU
  rw [mem_outK]
  constructor
  · rintro ⟨j, _, h⟩
    have := (mem_lvlK hp j b).1 h
    exact ⟨this.1, this.2.1⟩
  · rintro ⟨h1, h2⟩
    have := memB_le b
    exact ⟨_, by omega, (mem_lvlK hp _ b).2 ⟨h1, h2, rfl⟩⟩
theorem lvlK_str (u : List (List Bool)) (n : Nat) : ∀ k, StrS (lvlK u n k)
  | 0 => List.pairwise_singleton ..
  | k + 1 => sortS_str (fnd_len (lvlK_len u n k) _)
theorem outK_str (u : List (List Bool)) (n : Nat) : ∀ k, StrS (outK u n k)
  | 0 => .nil
  | k + 1 => by
    rw [outK_succ]
    refine List.pairwise_append.2 ⟨outK_str u n k, lvlK_str u n k, fun a ha c hc => ?_⟩
    obtain ⟨j, hj, ha⟩ := mem_outK.1 ha
    have h1 := lvlK_cnt u n j a ha
    have h2 := lvlK_cnt u n k c hc
    rw [cmpS_lt]
    refine ⟨fun e => ?_, .inl ?_⟩
    · subst e; omega
    · unfold cntB; omega
theorem allU_str (u : List (List Bool)) (n : Nat) : StrS (allU u n) := outK_str u n _
theorem allU_len {u : List (List Bool)} {n : Nat} : ∀ b ∈ allU u n, b.length = n := fun b hb => by
  obtain ⟨j, _, h⟩ := mem_outK.1 hb
  exact lvlK_len u n j b h
theorem StrS.nodup {l : List (List Bool)} (h : StrS l) : l.Nodup := h.imp fun {a b} h e => by subst e; rw [cmpS_self] at h; omega
theorem allU_nodup (u : List (List Bool)) (n : Nat) : (allU u n).Nodup := (allU_str u n).nodup
end Go.AM

/- How many ideals: orders without pairs, and two chains. -/
namespace Go.AM
theorem map_nodup {α β : Type} {f : α → β} : ∀ {l : List α}, l.Nodup → (∀ a ∈ l, ∀ b ∈ l, f a = f b → a = b) → (l.map f).Nodup
  | [], _, _ => List.nodup_nil
  | x :: l, h, hf => by
    obtain ⟨h1, h2⟩ := List.nodup_cons.1 h
    rw [List.map_cons]
    refine List.nodup_cons.2 ⟨fun hm => ?_, map_nodup h2 fun a ha b hb => hf a (by simp [ha]) b (by simp [hb])⟩
    obtain ⟨a, ha, e⟩ := List.mem_map.1 hm
    have := hf a (by simp [ha]) x (by simp) e
    exact h1 (by rw [← this]; exact ha)
end Go.AM

/- Ideals and antichains; the lattice of ideals; what grows. -/
namespace Go.AM
theorem row_ext {n : Nat} {a b : List Bool} (ha : a.length = n) (hb : b.length = n) (h : ∀ i, i < n → a.getD i false = b.getD i false) : a = b := by
  refine List.ext_getElem (by omega) fun i h1 h2 => ?_
  have := h i (by omega)
  simpa [List.getD_eq_getElem?_getD, h1, h2] using this
theorem sub_full : ∀ {l m : List (List Bool)} (_ : l.Nodup) (_ : ∀ a ∈ l, a ∈ m) (_ : m.length ≤ l.length), ∀ a ∈ m, a ∈ l
  | [], m, _, _, h3, a, ha => by
    have : m = [] := List.eq_nil_of_length_eq_zero (by simpa using h3)
    rw [this] at ha; cases ha
  | x :: l, m, h1, h2, h3, a, ha => by
    obtain ⟨ha1, hb1⟩ := List.nodup_cons.1 h1
    have hx := h2 x (by simp)
    by_cases e : a = x
    · rw [e]; simp
    · refine List.mem_cons_of_mem _ (sub_full (m := m.erase x) hb1 (fun y hy => (List.mem_erase_of_ne (fun e => ha1 (by rw [← e]; exact hy))).2 (h2 y (by simp [hy]))) ?_ a ((List.mem_erase_of_ne e).2 ha))
      rw [List.length_erase_of_mem hx]
      simp at h3; omega
end Go.AM

/- Joins and meets of an order, plainly. -/
namespace Go.AM
/-- An element and what is greater. -/
def upR (t : List (List Bool)) (n : Nat) : List (List Bool) := (List.range n).map fun i => (rowT t i).set i true
theorem upR_len (t : List (List Bool)) (n : Nat) : (upR t n).length = n := by simp [upR]
theorem upR_succ (t : List (List Bool)) (n : Nat) : upR t (n + 1) = upR t n ++ [(rowT t n).set n true] := by simp [upR, List.range_succ]
theorem upR_get {t : List (List Bool)} {n i : Nat} (h : i < n) : (upR t n).getD i [] = (rowT t i).set i true := by
  unfold upR
  simp [List.getD_eq_getElem?_getD, h]
theorem upR_at {n : Nat} {t : List (List Bool)} (hs : Sq n t) {i x : Nat} (hi : i < n) : ((upR t n).getD i []).getD x false = (decide (i = x) || atT t i x) := by
  rw [upR_get hi, getD_set (by rw [hs.rowLen hi]; exact hi)]
  unfold atT
  by_cases e : i = x
  · rw [if_pos e, decide_eq_true e]; rfl
  · rw [if_neg e, decide_eq_false e]; rfl
theorem upR_rows {n : Nat} {t : List (List Bool)} (hs : Sq n t) : ∀ b ∈ upR t n, b.length = n := fun b hb => by
  obtain ⟨i, hi, rfl⟩ := List.mem_map.1 hb
  rw [List.length_set, hs.rowLen (List.mem_range.1 hi)]
/-- The set of two elements' bounds, as the place of the equal one. -/
def andR (G : List (List Bool)) (i j : Nat) : List Bool := List.zipWith (· && ·) (G.getD i []) (G.getD j [])
def bndF (G : List (List Bool)) (i j : Nat) : Int := ixf (fun s => decide (s = andR G i j)) G
def bRow (G : List (List Bool)) (i j : Nat) : List Int := (List.range G.length).map fun q => if q < j then bndF G i q else 0
def bMk (G : List (List Bool)) (i : Nat) : List (List Int) := (List.range G.length).map fun r => if r < i then bRow G r G.length else []
def bSt (G : List (List Bool)) (i j : Nat) : List (List Int) := (bMk G i).set i (bRow G i j)
def bndT (G : List (List Bool)) : List (List Int) := bMk G G.length
theorem bRow_len (G : List (List Bool)) (i j : Nat) : (bRow G i j).length = G.length := by simp [bRow]
theorem bMk_len (G : List (List Bool)) (i : Nat) : (bMk G i).length = G.length := by simp [bMk]
theorem bSt_len (G : List (List Bool)) (i j : Nat) : (bSt G i j).length = G.length := by simp [bSt, bMk_len]
theorem bMk_zero (G : List (List Bool)) : bMk G 0 = List.replicate G.length [] := by
  unfold bMk
  refine List.ext_getElem (by simp) fun i h1 h2 => by simp
theorem bRow_zero (G : List (List Bool)) (i : Nat) : bRow G i 0 = List.replicate G.length 0 := by
  unfold bRow
  refine List.ext_getElem (by simp) fun i h1 h2 => by simp
theorem bRow_set {G : List (List Bool)} {i j : Nat} (hj : j < G.length) : (bRow G i j).set j (bndF G i j) = bRow G i (j + 1) := by
  refine List.ext_getElem (by simp [bRow]) fun q h1 h2 => ?_
  rw [List.getElem_set]
  simp only [bRow, List.getElem_map, List.getElem_range]
  by_cases e : j = q
  · subst e; simp
  · rw [if_neg e]
    by_cases h : q < j
    · rw [if_pos h, if_pos (by omega)]
    · rw [if_neg h, if_neg (by omega)]
theorem bSt_get {G : List (List Bool)} {i j : Nat} (hi : i < G.length) : (bSt G i j).getD i [] = bRow G i j := by
  unfold bSt
  simp [List.getD_eq_getElem?_getD, bMk_len, hi]
theorem bSt_set {G : List (List Bool)} {i j : Nat} (hj : j < G.length) : (bSt G i j).set i ((bRow G i j).set j (bndF G i j)) = bSt G i (j + 1) := by
  unfold bSt
  rw [List.set_set, bRow_set hj]
theorem bSt_end {G : List (List Bool)} {i : Nat} : bSt G i G.length = bMk G (i + 1) := by
  unfold bSt
  refine List.ext_getElem (by simp [bMk]) fun q h1 h2 => ?_
  rw [List.getElem_set]
  simp only [bMk, List.getElem_map, List.getElem_range]
  by_cases e : i = q
  · subst e; simp
  · rw [if_neg e]
    by_cases h : q < i
    · rw [if_pos h, if_pos (by omega)]
    · rw [if_neg h, if_neg (by omega)]
theorem bndT_row {G : List (List Bool)} {i : Nat} (hi : i < G.length) : (bndT G).getD i [] = (List.range G.length).map (bndF G i) := by
  unfold bndT bMk
  simp only [List.getD_eq_getElem?_getD, List.getElem?_map, List.getElem?_range hi, Option.map_some, Option.getD_some, if_pos hi]
  unfold bRow
  exact List.map_congr_left fun q hq => if_pos (List.mem_range.1 hq)
theorem bndT_at {G : List (List Bool)} {i j : Nat} (hi : i < G.length) (hj : j < G.length) : ((bndT G).getD i []).getD j 0 = bndF G i j := by
  rw [bndT_row hi]
  simp [List.getD_eq_getElem?_getD, hj]
theorem bndT_len (G : List (List Bool)) : (bndT G).length = G.length := bMk_len ..
theorem bndT_rowlen {G : List (List Bool)} {i : Nat} (hi : i < G.length) : ((bndT G).getD i []).length = G.length := by rw [bndT_row hi]; simp
/-- Is there no pair without a bound? -/
def noneT (T : List (List Int)) (i : Nat) : Bool := !decide ((-1 : Int) ∈ T.getD i [])
def jnT (t : List (List Bool)) (n : Nat) : List (List Int) := bndT (upR t n)
def mtT (t : List (List Bool)) (n : Nat) : List (List Int) := bndT (upR (invT n t) n)
def latB (t : List (List Bool)) (n : Nat) : Bool := decide (0 < n) && (List.range n).all fun i => noneT (jnT t n) i && noneT (mtT t n) i
end Go.AM

/- A slot that holds a nil slice may be read as an empty slice. -/
namespace Go.AM
end Go.AM

/- Lists of lists of ints. -/
namespace Go.AM
def lisR (cs : List (List Int)) : List (List AV) := cs.map fun c => [.rsl 1 (ints c)]
theorem lisR_len (cs : List (List Int)) : (lisR cs).length = cs.length := by simp [lisR]
theorem lisR_get {cs : List (List Int)} {i : Nat} (hi : i < cs.length) : (lisR cs).getD i [] = [.rsl 1 (ints (cs.getD i []))] := by
  simp [lisR, List.getD_eq_getElem?_getD, List.getElem?_eq_getElem hi]
def lisO (cs : List (List Int)) : List (List AV) := cs.map fun c => [.osl 1 (ints c)]
theorem lisO_len (cs : List (List Int)) : (lisO cs).length = cs.length := by simp [lisO]
theorem lisO_get {cs : List (List Int)} {i : Nat} (hi : i < cs.length) : (lisO cs).getD i [] = [.osl 1 (ints (cs.getD i []))] := by
  simp [lisO, List.getD_eq_getElem?_getD, List.getElem?_eq_getElem hi]
theorem lisO_set (l : List (List Int)) (i : Nat) (row : List Int) : (lisO l).set i [.osl 1 (ints row)] = lisO (l.set i row) := by
  unfold lisO; rw [List.map_set]
@[go_sem] theorem vwc_lisO (s : Store) (d : Nat) (nb : List (List Int)) : (lisO nb).map (fun cs => cs.map (vwc s d)) = lisR nb := by
  simp [lisO, lisR, vwc_osl, vw_ints]
@[go_sem] theorem vwc_lisR (s : Store) (d : Nat) (nb : List (List Int)) : (lisR nb).map (fun cs => cs.map (vwc s d)) = lisR nb := by
  simp [lisR, vwc_rsl]
end Go.AM

namespace Go.Proofs.B
open Go.AM Go
set_option maxRecDepth 100000
set_option maxHeartbeats 4000000
theorem setW_eqD {a b : List Bool} (hl : b.length = a.length) : (setW a a.length == setW b b.length) = decide (a = b) := by
 rw [Bool.eq_iff_iff, beq_iff_eq, decide_eq_true_eq]
 exact ⟨fun h => row_words hl h, fun h => by rw [h]⟩
theorem up_r (n : Nat) (t : List (List Bool)) (hs : Sq n t) (hn : n ≤ 512) : Reads Tryz.prog 84 false [relB t] (.rsl 2 (tabR (upR t n))) := by
 have hlt : (tabR t).length = n := by rw [tabR_len, hs.len]
 have htn := hs.len
 unfold relB
 refine Reads.body (rs := [.tmp 2]) Tryz.func84 rfl Tryz.ntmps84 rfl (by simp) ?_
 generalize hQr : retQ _ _ _ = Qr
 refine AW.sg [1] [1] trivial ?_
 refine AW.sg [1,3] [1] trivial ?_
 refine AW.seq fun K1 hK1 => ?_
 refine AW.sg [3,9,10,11] [] (@hlt) ?_
 refine AW.block ?_
 refine AW.nilOwn 3 200 2 (by simp only [go_sem, reduceIte, zE]) ?_
 refine AW.keep [3, 9, 10, 11] [200] ?_
 simp only [go_sem, reduceIte, zE]
 refine AW.loopE (fun mm ee ss kk => ∃ (i g v : Nat), n - i = mm ∧ ee = [(3, .sl ⟨200, g, none⟩ 0 i none), (9, .rsl 2 (tabR t)), (10, .int .i64 n), (11, .int .i64 (i : Nat))] ∧ ss = [(200, some ⟨g, v, 2, tabR (upR t i)⟩)] ∧ (i ≤ n)) ?_ ?_
 ·exact ⟨_, 0, _, _, rfl, eD, eD, eT⟩
 rintro mm ee ss kk ⟨i, g, v, rfl, rfl, rfl, hI⟩
 generalize hQl1 : thenQ _ _ = Ql1
 refine AW.sg [3,9,10,11,12] [200] trivial ?_
 refine AW.seq fun K2 hK2 => ?_
 refine AW.cn ?_ ?_
 ·intro hb
  have hin : i < n := by omega
  have hgt := tabR_get (t := t) (i := i) (by omega)
  have hrl := hs.rowLen hin
  have hw := with_r (rowT t i) (by omega) i (by omega)
  have hus := upR_succ t i
  have hul := upR_len t i
  have htk : (tabR (upR t i)).take i = tabR (upR t i) := List.take_of_length_le (by rw [tabR_len, upR_len]; exact Nat.le_refl _)
  have hap : tabR (upR t i) ++ [[.int .i64 n, .rsl 1 (words (setW ((rowT t i).set i true) n))]] = tabR (upR t i ++ [(rowT t i).set i true]) := by simp [tabR, rowB, hrl]
  unfold rowB at *
  rw [List.length_set] at hw
  rw [hrl] at hgt hw
  refine AW.skip ?_
  refine hK2 _ _ _ ?_; clear hK2
  refine AW.seq fun K3 hK3 => ?_
  refine AW.block ?_
  refine AW.sg [3,4,5,9,10,11] [5,200] (e2 @hgt @hlt) ?_
  refine AW.so 0 (fun ii => if ii = 2 then some (.reads true (.tup [.agg [.int .i64 n, .rsl 1 (words (setW ((rowT t i).set i true) n))], .int .i64 ((0 : Nat) : Int)])) else none) [3,6,9,10,11] [6,200] trivial ?_
  repeat with_reducible refine cj ?_ ?_
  all_goals try first | (exact hw) | omega | exact ent (by kernel_rfl)
  refine AW.regionK 0 (fun _ => none) [3, 9, 10, 11] [200] ?_
  simp only [go_sem, reduceIte, reduceCtorEq, zA, zM, zE, zL, zD, zS, zP, zB, zI, zR, htk, hap, tabR_len, hul]
  repeat with_reducible refine cj ?_ ?_
  all_goals try first | omega | (simp [scP, scalar]; done) | exact scP_words _ | exact scP_ints _ | exact scP_bools _
  refine hK3 _ _ _ ?_; clear hK3
  refine AW.rg [3,9,10,11] [200] trivial ?_
  rw [← hQl1]; change Exists _
  refine ⟨_, ?hm, i + 1, ?_, ?_, rfl, ?henv, ?hstore, ?hst⟩
  case henv =>
   repeat' (first | rfl | apply env_cons | apply st_cons | apply int_eq | apply bool_eq | apply rsl_eq | apply osl_eq | apply sl_eq | apply ptr_eq | apply agg_eq | apply es_cons | apply row_cons)
   all_goals (first | (simp; done) | omega | (simp; omega))
  case hstore =>
   repeat' (first | rfl | apply env_cons | apply st_cons | apply int_eq | apply bool_eq | apply rsl_eq | apply osl_eq | apply sl_eq | apply ptr_eq | apply agg_eq | apply es_cons | apply row_cons)
   all_goals (rw [hus])
  case hst =>
   first | trivial | omega | (simp; done) | (simp; omega)
  case hm => omega
 ·intro hb
  refine AW.exit ?_
  rw [← hQl1]
  refine hK1 _ _ _ ?_; clear hK1
  refine AW.sg [2] [200] trivial ?_
  rw [← hQr]
  refine AW.rt trivial ?_
  have hi : i = n := by omega
  subst hi
  have htk : (tabR (upR t i)).take i = tabR (upR t i) := List.take_of_length_le (by rw [tabR_len, upR_len]; exact Nat.le_refl _)
  exact Wk.of_eq (by rw [htk, vwc_tabR])
theorem bound1_r (s x : List Bool) (hs : s.length ≤ 512) (hx : x.length = s.length) : Reads Tryz.prog 120 false [.agg (rowB x), .rptr [.int .i64 s.length, .rsl 1 (words (setW s s.length))]] (.bool (decide (x = s))) := by
 have h := eqw_r (setW x x.length) (setW s s.length) (by have := setB_len (b := x) (by omega); omega)
 rw [setW_eqD hx.symm] at h
 unfold rowB at *
 refine Reads.body (rs := [.tmp 3]) Tryz.func120 rfl Tryz.ntmps120 rfl (by simp) ?_
 generalize hQr : retQ _ _ _ = Qr
 refine AW.sg [1,2] [2] trivial ?_
 refine AW.so 0 (fun ii => if ii = 4 then some (.reads false (.bool (decide (x = s)))) else none) [3] [] trivial ?_
 repeat with_reducible refine cj ?_ ?_
 all_goals try first | (exact h) | omega | exact ent (by kernel_rfl)
 rw [← hQr]
 refine AW.rt trivial ?_
 exact Wk.refl _
theorem ixb_r (s : List Bool) (hs : s.length ≤ 512) (L : List (List Bool)) (hL : ∀ x ∈ L, x.length = s.length) (hl : L.length ≤ 9223372036854775807) : Reads Tryz.prog 29 false [.rsl 2 (tabR L), .fn 120 [.rptr [.int .i64 s.length, .rsl 1 (words (setW s s.length))]]] (.int .i64 (ixf (fun x => decide (x = s)) L)) := by
 have hbp := fun x hxm => bound1_r s x hs (hL x hxm)
 have hLl := tabR_len L
 unfold rowB at *
 refine Reads.body (rs := [.tmp 4]) Tryz.func29 rfl Tryz.ntmps29 rfl (by simp) ?_
 generalize hQr : retQ _ _ _ = Qr
 refine AW.sg [0,1] [] trivial ?_
 refine AW.seq fun K1 hK1 => ?_
 refine AW.sg [0,1,7,8] [] (@hLl) ?_
 refine AW.block ?_
 refine AW.loopE (fun mm ee ss kk => ∃ (j : Nat), L.length - j = mm ∧ ee = [(0, .rsl 2 (tabR L)), (1, .fn 120 [.rptr [.int .i64 s.length, .rsl 1 (words (setW s s.length))]]), (7, .int .i64 L.length), (8, .int .i64 (j : Nat))] ∧ ss = [] ∧ (j ≤ L.length ∧ (L.take j).any (fun x => decide (x = s)) = false)) ?_ ?_
 ·exact ⟨_, 0, rfl, eD, eD, eT⟩
 rintro mm ee ss kk ⟨j, rfl, rfl, rfl, hI⟩
 generalize hQl1 : thenQ _ _ = Ql1
 obtain ⟨hj, hall⟩ := hI
 refine AW.sg [0,1,7,8,9] [] trivial ?_
 refine AW.seq fun K2 hK2 => ?_
 refine AW.cn ?_ ?_
 ·intro hb
  obtain ⟨x, hx⟩ := getI (l := L) (j := j) (by omega)
  have hgx : (tabR L).getD j [] = rowB x := getV (f := rowB) hx
  have hats := any_take_succ (p := fun x => decide (x = s)) hx
  have hbx := hbp x (List.mem_of_getElem? hx)
  unfold rowB at *
  refine AW.skip ?_
  refine hK2 _ _ _ ?_; clear hK2
  refine AW.seq fun K3 hK3 => ?_
  refine AW.block ?_
  refine AW.sg [0,1,5,7,8] [] trivial ?_
  refine AW.so 0 (fun ii => if ii = 5 then some (.reads false (.bool (decide (x = s)))) else none) [0,1,5,7,8,16] [] (e2 @hgx @hLl) ?_
  repeat with_reducible refine cj ?_ ?_
  all_goals try first | (exact hbx) | omega | exact ent (by kernel_rfl)
  refine AW.cn ?_ ?_
  ·intro hb
   refine AW.sg [4] [] trivial ?_
   rw [← hQl1, ← hQr]
   refine AW.rt trivial ?_
   exact Wk.of_eq (by rw [ixf_at hx (decide_eq_true hb) hall])
  ·intro hb
   refine AW.skip ?_
   refine hK3 _ _ _ ?_; clear hK3
   refine AW.rg [0,1,7,8] [] trivial ?_
   rw [← hQl1]; change Exists _
   exact ⟨_, eO, j + 1, rfl, eD, eD, (⟨by omega, by rw [hats, hall, decide_eq_false hb]; rfl⟩)⟩
 ·intro hb
  refine AW.kx [] [] ?_
  rw [← hQl1]
  refine hK1 _ _ _ ?_; clear hK1
  refine AW.sg [4] [] trivial ?_
  rw [← hQr]
  refine AW.rt trivial ?_
  exact Wk.of_eq (by rw [List.take_of_length_le (by omega)] at hall; rw [ixf_none hall])
theorem bound_r (n : Nat) (G : List (List Bool)) (hs : Sq n G) (hn : n ≤ 512) (i j : Nat) (hi : i < n) (hj : j < n) : Reads Tryz.prog 92 false [.rsl 2 (tabR G), .int .i64 (i : Nat), .int .i64 (j : Nat)] (.int .i64 (bndF G i j)) := by
 have hlt : (tabR G).length = n := by rw [tabR_len, hs.len]
 have hgi := tabR_get (t := G) (i := i) (by rw [hs.len]; exact hi)
 have hgj := tabR_get (t := G) (i := j) (by rw [hs.len]; exact hj)
 have hri := hs.rowLen hi
 have hrj := hs.rowLen hj
 have hin := inter_r (rowT G i) (rowT G j) (by omega) (by omega)
 have hl : (List.zipWith (· && ·) (rowT G i) (rowT G j)).length = n := by rw [List.length_zipWith, hri, hrj, Nat.min_self]
 have hx := Reads.flat (ixb_r (List.zipWith (· && ·) (rowT G i) (rowT G j)) (by omega) G (fun x hx => by rw [hs.row x hx, hl]) (by rw [hs.len]; omega)) rfl
 rw [show ixf (fun x => decide (x = List.zipWith (· && ·) (rowT G i) (rowT G j))) G = bndF G i j from rfl] at hx
 generalize bndF G i j = z at *
 unfold rowB at *
 rw [hl] at hx hin
 rw [hri] at hgi hin
 rw [hrj] at hgj hin
 generalize List.zipWith (· && ·) (rowT G i) (rowT G j) = c at *
 refine Reads.body (rs := [.tmp 6]) Tryz.func92 rfl Tryz.ntmps92 rfl (by simp) ?_
 generalize hQr : retQ _ _ _ = Qr
 refine AW.sg [0,1,2] [] trivial ?_
 refine AW.sd mixed 0 (fun ii => if ii = 8 then some (.reads false (.tup [.agg [.int .i64 n, .rsl 1 (words (setW c n))], .int .i64 ((0 : Nat) : Int)])) else none) [0,7] [7] (e3 @hlt @hgi @hgj) ?_
 repeat with_reducible refine cj ?_ ?_
 all_goals try first | (exact hin) | omega | exact chk (by kernel_rfl) | exact ent (by kernel_rfl)
 refine AW.so 0 (fun ii => if ii = 2 then some (.reads true (.int .i64 z)) else none) [6] [] trivial ?_
 repeat with_reducible refine cj ?_ ?_
 all_goals try first | (exact hx) | omega | exact ent (by kernel_rfl)
 rw [← hQr]
 refine AW.rt trivial ?_
 exact Wk.refl _
theorem bounds_r (n : Nat) (G : List (List Bool)) (hs : Sq n G) (hn : n ≤ 512) : Reads Tryz.prog 83 false [.rsl 2 (tabR G)] (.rsl 1 (lisR (bndT G))) := by
 have hlt : (tabR G).length = n := by rw [tabR_len, hs.len]
 have hGn := hs.len
 have hbd := fun i j hi hj => bound_r n G hs hn i j hi hj
 have hz0 := bMk_zero G
 have hml := bMk_len G
 have hsl := bSt_len G
 have hrl := bRow_len G
 have hrz := bRow_zero G
 rw [hGn] at hz0 hrz
 simp only [hGn] at hml hsl hrl
 have hen := fun i => bSt_end (G := G) (i := i)
 rw [hGn] at hen
 refine Reads.body (rs := [.tmp 2]) Tryz.func83 rfl Tryz.ntmps83 rfl (by simp) ?_
 generalize hQr : retQ _ _ _ = Qr
 refine AW.sg [0] [8] (@hlt) ?_
 refine AW.sg [0,3] [8] (@hlt) ?_
 refine AW.nils_own (pid := 8) 1 (lisO (bMk G 0)) (by simp only [go_sem, reduceIte, zE]; rfl) (show (1 : Nat) ≠ mapSz by decide) (by simp [lisO, hz0]) ?_ ?_
 ·intro i hi
  simp only [List.length_replicate] at hi
  have h1 : (List.replicate n [AV.nilsl]).getD i [] = [.nilsl] := by simp [List.getD_eq_getElem?_getD, hi]
  rw [h1, hz0, lisO_get (by simpa using hi)]
  refine ⟨rfl, fun j => ?_⟩
  cases j with
  | zero => exact .inr ⟨rfl, by simp [List.getD_eq_getElem?_getD, hi, ints]⟩
  | succ j => exact .inl rfl
 refine AW.keep [0, 3] [8] ?_
 simp only [go_sem, reduceIte, zE]
 refine AW.seq fun K1 hK1 => ?_
 refine AW.sg [0,3,10,11] [8] (e2 @hlt @hlt) ?_
 refine AW.block ?_
 refine AW.loopE (fun mm ee ss kk => ∃ (i g v : Nat), n - i = mm ∧ ee = [(0, .rsl 2 (tabR G)), (3, .sl ⟨8, g, none⟩ 0 n none), (10, .int .i64 n), (11, .int .i64 (i : Nat))] ∧ ss = [(8, some ⟨g, v, 1, lisO (bMk G i)⟩)] ∧ (i ≤ n)) ?_ ?_
 ·exact ⟨_, 0, _, _, rfl, eD, eD, eT⟩
 rintro mm ee ss kk ⟨i, g, v, rfl, rfl, rfl, hI⟩
 generalize hQl1 : thenQ _ _ = Ql1
 refine AW.sg [0,3,10,11,12] [8] (@hlt) ?_
 refine AW.seq fun K2 hK2 => ?_
 refine AW.cn ?_ ?_
 ·intro hb
  have hin : i < n := by omega
  have hgm := lisO_get (cs := bMk G i) (i := i) (by rw [hml]; exact hin)
  have hs1 : ∀ v, ((lisO (bMk G i)).set i v).getD i [] = v := fun v => getD_set_eq (by rw [lisO_len, hml]; exact hin) _ _
  have hz1 : List.replicate n [AV.int .i64 0] = ints (bRow G i 0) := by rw [hrz]; simp [ints]
  have hst0 : (bMk G i).set i (bRow G i 0) = bSt G i 0 := rfl
  refine AW.skip ?_
  refine hK2 _ _ _ ?_; clear hK2
  refine AW.seq fun K3 hK3 => ?_
  refine AW.block ?_
  refine AW.sg [0,3,4,10,11] [8] (@hlt) ?_
  refine AW.sg [0,3,4,10,11] [8,18] (e4 @hlt @hlt @lisO_len (e5 @hml @hgm @hs1 @hz1 @List.set_set.{0})) ?_
  refine AW.adoptK 8 i 0 18 ?_
  simp only [go_sem, reduceIte, zE, hs1, List.set_set, List.length_set, lisO_len, hml, hz1, lisO_set, hst0]
  repeat refine cj ?_ ?_
  any_goals first | exact noOsl_ints _ | exact hrl _ _ | omega | decide
  refine AW.keep [0, 3, 4, 10, 11] [8] ?_
  simp only [go_sem, reduceIte, zE]
  refine AW.sg [0,3,4,10,11,21,22] [8] (e2 @hlt @hlt) ?_
  refine AW.block ?_
  refine AW.loopE (fun mm ee ss kk => ∃ (j g v : Nat), n - j = mm ∧ ee = [(0, .rsl 2 (tabR G)), (3, .sl ⟨8, g, none⟩ 0 n none), (4, .int .i64 (i : Nat)), (10, .int .i64 n), (11, .int .i64 (i : Nat)), (21, .int .i64 n), (22, .int .i64 (j : Nat))] ∧ ss = [(8, some ⟨g, v, 1, lisO (bSt G i j)⟩)] ∧ (j ≤ n)) ?_ ?_
  ·exact ⟨_, 0, _, _, rfl, eD, eD, eT⟩
  rintro mm ee ss kk ⟨j, g, v, rfl, rfl, rfl, hI⟩
  generalize hQl2 : thenQ _ _ = Ql2
  refine AW.sg [0,3,4,10,11,21,22,23] [8] (@hlt) ?_
  refine AW.seq fun K4 hK4 => ?_
  refine AW.cn ?_ ?_
  ·intro hb
   have hjn : j < n := by omega
   have hgs := lisO_get (cs := bSt G i j) (i := i) (by rw [hsl]; exact hin)
   rw [bSt_get (by omega)] at hgs
   have hbij := hbd i j hin hjn
   have hset := bSt_set (G := G) (i := i) (j := j) (by omega)
   have hsi : ∀ z : Int, (ints (bRow G i j)).set j [.int .i64 z] = ints ((bRow G i j).set j z) := fun z => by simp [ints, List.map_set]
   have hlo := lisO_set (bSt G i j) i ((bRow G i j).set j (bndF G i j))
   rw [hset] at hlo
   refine AW.skip ?_
   refine hK4 _ _ _ ?_; clear hK4
   refine AW.seq fun K5 hK5 => ?_
   refine AW.block ?_
   refine AW.sg [0,3,4,5,10,11,21,22] [8] (@hlt) ?_
   refine AW.rd mixed 0 (fun ii => if ii = 8 then some (.reads false (.int .i64 (bndF G i j))) else none) [0,3,4,10,11,21,22] [8] (e4 @hlt @lisO_len @hsl (e5 @hgs @hrl @ints_len @hsi @hlo)) ?_
   repeat with_reducible refine cj ?_ ?_
   all_goals try first | (exact hbij) | omega | exact chk (by kernel_rfl) | exact ent (by kernel_rfl)
   refine hK5 _ _ _ ?_; clear hK5
   refine AW.rg [0,3,4,10,11,21,22] [8] (@hlt) ?_
   rw [← hQl2]; change Exists _
   exact ⟨_, eO, j + 1, _, _, rfl, eD, eD, eT⟩
  ·intro hb
   have hj : j = n := by omega
   subst hj
   rw [hen]
   refine AW.exit ?_
   rw [← hQl2]
   refine hK3 _ _ _ ?_; clear hK3
   refine AW.rg [0,3,10,11] [8] (@hlt) ?_
   rw [← hQl1]; change Exists _
   exact ⟨_, eO, i + 1, _, _, rfl, eD, eD, eT⟩
 ·intro hb
  have hi : i = n := by omega
  subst hi
  have htk : (lisO (bMk G i)).take i = lisO (bMk G i) := List.take_of_length_le (by rw [lisO_len, hml]; exact Nat.le_refl _)
  have hbT : bndT G = bMk G i := by unfold bndT; rw [hGn]
  refine AW.exit ?_
  rw [← hQl1]
  refine hK1 _ _ _ ?_; clear hK1
  refine AW.sg [2] [8] (@hlt) ?_
  rw [← hQr]
  refine AW.rt (@hlt) ?_
  rw [hbT]
  exact Wk.of_eq (by simp only [go_sem, reduceIte, zE, htk, vwc_lisO])
end Go.Proofs.B

namespace Go.Proofs.B
open Go.AM Go
set_option maxRecDepth 100000
set_option maxHeartbeats 4000000
theorem contains_r (l : List Int) (x : Int) (hl : l.length ≤ 9223372036854775807) : Reads Tryz.prog 85 false [.rsl 1 (ints l), .int .i64 x] (.bool (decide (x ∈ l))) := by
 have h := index_r l x hl
 have hge := ixf_ge (fun y => decide (x = y)) l
 have han : (l.any fun y => decide (x = y)) = decide (x ∈ l) := by
  rw [Bool.eq_iff_iff, List.any_eq_true, decide_eq_true_eq]
  exact ⟨fun ⟨y, h1, h2⟩ => by rw [of_decide_eq_true h2]; exact h1, fun h => ⟨x, h, decide_eq_true rfl⟩⟩
 rw [← han]
 refine Reads.body (rs := [.tmp 4]) Tryz.func85 rfl Tryz.ntmps85 rfl (by simp) ?_
 generalize hQr : retQ _ _ _ = Qr
 refine AW.sg [0,1] [] trivial ?_
 refine AW.so 0 (fun ii => if ii = 2 then some (.reads false (.int .i64 (ixf (fun y => decide (x = y)) l))) else none) [4] [] trivial ?_
 repeat with_reducible refine cj ?_ ?_
 all_goals try first | (exact h) | omega | exact ent (by kernel_rfl)
 rw [← hQr]
 refine AW.rt trivial ?_
 exact Wk.of_eq (by rw [hge])
theorem upR_sq {n : Nat} {t : List (List Bool)} (hs : Sq n t) : Sq n (upR t n) := ⟨upR_len t n, upR_rows hs⟩
theorem tables_e (es : List (List AV)) (hes : es.length ≤ 9223372036854775807) (v : Bool) (hv : Reads Tryz.prog 58 false [.agg [.rsl 2 es]] (.bool v)) (h : (v && decide (0 < es.length)) = false) : Reads Tryz.prog 53 false [.agg [.rsl 2 es]] (.tup [.agg [.nilsl, .nilsl], .bool false]) := by
 refine Reads.body (rs := [.cell 2 86, .tmp 3]) Tryz.func53 rfl Tryz.ntmps53 rfl (by simp) ?_
 generalize hQr : retQ _ _ _ = Qr
 refine AW.sg [1,2] [1,2] trivial ?_
 refine AW.seq fun K1 hK1 => ?_
 refine AW.so 0 (fun ii => if ii = 1 then some (.reads false (.bool v)) else none) [1,2,16] [1,2] trivial ?_
 repeat with_reducible refine cj ?_ ?_
 all_goals try first | (exact hv) | (intros; (repeat' apply And.intro) <;> first | assumption | (exact hv)) | omega | exact ent (by kernel_rfl) | (intro hgd; exact absurd hgd (by decide)) | rfl | exact gD | (intro _hgd; simp_all [go_sem]; done)
 refine AW.cn ?_ ?_
 ·intro hb
  refine AW.sg [2,3] [2] trivial ?_
  rw [← hQr]
  refine AW.rt trivial ?_
  exact Wk.refl _
 ·intro hb
  exfalso; revert h hb; cases v <;> simp <;> omega
def tabV (t : List (List Bool)) (n : Nat) : AV := if (List.range n).all (fun i => noneT (jnT t n) i && noneT (mtT t n) i) then .tup [.agg [.rsl 1 (lisR (jnT t n)), .rsl 1 (lisR (mtT t n))], .bool true] else .tup [.agg [.nilsl, .nilsl], .bool false]
theorem tables_g (n : Nat) (t : List (List Bool)) (hs : Sq n t) (hn : n ≤ 512) (hp : poB n t = true) (h0 : 0 < n) : Reads Tryz.prog 53 false [relB t] (tabV t n) := by
 have hv := pvalid_g n t hs hn
 rw [hp] at hv
 have hlt : (tabR t).length = n := by rw [tabR_len, hs.len]
 have hinv := inverse_g n t hs hn
 have hu1 := up_r n t hs hn
 have hu2 := up_r n (invT n t) Sq.inv hn
 have hb1 := bounds_r n (upR t n) (upR_sq hs) hn
 have hb2 := bounds_r n (upR (invT n t) n) (upR_sq Sq.inv) hn
 have hJl : (jnT t n).length = n := by unfold jnT; rw [bndT_len, upR_len]
 have hMl : (mtT t n).length = n := by unfold mtT; rw [bndT_len, upR_len]
 have hJr : ∀ i, i < n → ((jnT t n).getD i []).length = n := fun i hi => by unfold jnT; rw [bndT_rowlen (by rw [upR_len]; exact hi), upR_len]
 have hMr : ∀ i, i < n → ((mtT t n).getD i []).length = n := fun i hi => by unfold mtT; rw [bndT_rowlen (by rw [upR_len]; exact hi), upR_len]
 rw [show bndT (upR t n) = jnT t n from rfl] at hb1
 rw [show bndT (upR (invT n t) n) = mtT t n from rfl] at hb2
 unfold tabV
 generalize jnT t n = J at *
 generalize mtT t n = M at *
 generalize upR t n = U at *
 generalize upR (invT n t) n = V at *
 generalize invT n t = T at *
 have hcJ := fun i (hi : i < n) => contains_r (J.getD i []) (-1) (by rw [hJr i hi]; omega)
 have hcM := fun i (hi : i < n) => contains_r (M.getD i []) (-1) (by rw [hMr i hi]; omega)
 unfold relB at *
 refine Reads.body (rs := [.cell 2 86, .tmp 3]) Tryz.func53 rfl Tryz.ntmps53 rfl (by simp) ?_
 generalize hQr : retQ _ _ _ = Qr
 refine AW.sg [1,2] [1,2] trivial ?_
 refine AW.seq fun K1 hK1 => ?_
 refine AW.so 0 (fun ii => if ii = 1 then some (.reads false (.bool true)) else none) [1,2,16] [1,2] (@hlt) ?_
 repeat with_reducible refine cj ?_ ?_
 all_goals try first | (exact hv) | (intros; (repeat' apply And.intro) <;> first | assumption | (exact hv)) | omega | exact ent (by kernel_rfl) | (intro hgd; exact absurd hgd (by decide)) | rfl | (simp only [go_sem, reduceIte, reduceCtorEq, zA, zM, zE, zL, zD, zS, zP, zB, zI, zR, hlt]; done) | (intro _hgd; simp_all [go_sem]; done)
 refine AW.cn ?_ ?_
 ·intro hb
  exfalso; omega
 ·intro hb
  refine AW.skip ?_
  refine hK1 _ _ _ ?_; clear hK1
  refine AW.so 0 (fun ii => if ii = 1 then some (.reads false (.tup [.agg [.rsl 2 (tabR T)], .int .i64 ((0 : Nat) : Int)])) else none) [1,2,4] [1,2,4] trivial ?_
  repeat with_reducible refine cj ?_ ?_
  all_goals try first | (exact hinv) | omega | exact ent (by kernel_rfl)
  refine AW.sd mixed 0 (fun ii => if ii = 1 then some (.reads false (.rsl 2 (tabR U))) else if ii = 2 then some (.reads false (.rsl 1 (lisR J))) else if ii = 4 then some (.reads false (.rsl 2 (tabR V))) else if ii = 5 then some (.reads false (.rsl 1 (lisR M))) else none) [1,2,6] [1,2,6] trivial ?_
  repeat with_reducible refine cj ?_ ?_
  all_goals try first | (first | exact hu1 | exact hb1 | exact hu2 | exact hb2) | omega | exact chk (by kernel_rfl) | exact ent (by kernel_rfl)
  refine AW.seq fun K2 hK2 => ?_
  refine AW.sg [2,6,32,33] [2,6] (@hlt) ?_
  refine AW.block ?_
  refine AW.loopE (fun mm ee ss kk => ∃ (i g2 v2 g6 v6 : Nat), n - i = mm ∧ ee = [(2, .ptr ⟨2, g2, none⟩ 0 0), (6, .ptr ⟨6, g6, none⟩ 0 0), (32, .int .i64 n), (33, .int .i64 (i : Nat))] ∧ ss = [(2, some ⟨g2, v2, 2, [[.nilsl, .nilsl]]⟩), (6, some ⟨g6, v6, 2, [[.rsl 1 (lisR J), .rsl 1 (lisR M)]]⟩)] ∧ (i ≤ n ∧ (List.range i).all (fun i => noneT J i && noneT M i) = true)) ?_ ?_
  ·exact ⟨_, 0, _, _, _, _, rfl, eD, eD, eT⟩
  rintro mm ee ss kk ⟨i, g2, v2, g6, v6, rfl, rfl, rfl, hI⟩
  generalize hQl1 : thenQ _ _ = Ql1
  obtain ⟨hin0, hall⟩ := hI
  refine AW.sg [2,6,32,33,34] [2,6] trivial ?_
  refine AW.seq fun K3 hK3 => ?_
  refine AW.cn ?_ ?_
  ·intro hb
   have hin : i < n := by omega
   have hgJ := lisR_get (cs := J) (i := i) (by omega)
   have hgM := lisR_get (cs := M) (i := i) (by omega)
   have hcj := hcJ i hin
   have hcm := hcM i hin
   have has : (List.range (i + 1)).all (fun i => noneT J i && noneT M i) = ((List.range i).all (fun i => noneT J i && noneT M i) && (noneT J i && noneT M i)) := by rw [List.range_succ, List.all_append]; simp
   refine AW.skip ?_
   refine hK3 _ _ _ ?_; clear hK3
   refine AW.seq fun K4 hK4 => ?_
   refine AW.block ?_
   refine AW.sg [2,6,7,32,33] [2,6] trivial ?_
   refine AW.so 0 (fun ii => if ii = 5 then some (.reads false (.bool (decide (-1 ∈ J.getD i [])))) else if ii = 12 then some (.reads false (.bool (decide (-1 ∈ M.getD i [])))) else none) [2,6,32,33,49] [2,6] (e5 @hgJ @hgM @lisR_len @hJl @hMl) ?_
   repeat with_reducible refine cj ?_ ?_
   all_goals try first | (first | exact hcj | (intro hh; exact ⟨hh, hcm⟩)) | (intros; (repeat' apply And.intro) <;> first | assumption | (first | exact hcj | (intro hh; exact ⟨hh, hcm⟩))) | omega | exact ent (by kernel_rfl) | (intro hgd; exact absurd hgd (by decide)) | rfl | (simp only [go_sem, reduceIte, reduceCtorEq, zA, zM, zE, zL, zD, zS, zP, zB, zI, zR, hgJ, hgM, lisR_len, hJl, hMl]; done) | (intro _hgd; simp_all [go_sem]; done)
   refine AW.cn ?_ ?_
   ·intro hb
    refine AW.sg [2,3] [2] trivial ?_
    rw [← hQl1, ← hQr]
    refine AW.rt trivial ?_
    rw [if_neg (fun h => by
      have := List.all_eq_true.1 h i (List.mem_range.2 hin)
      unfold noneT at this
      rw [Bool.and_eq_true] at this
      rcases hb with hb | hb
      ·rw [decide_eq_true hb] at this; exact absurd this.1 (by simp)
      ·rw [decide_eq_true hb] at this; exact absurd this.2 (by simp))]
    exact Wk.refl _
   ·intro hb
    refine AW.skip ?_
    refine hK4 _ _ _ ?_; clear hK4
    refine AW.rg [2,6,32,33] [2,6] trivial ?_
    rw [← hQl1]; change Exists _
    refine ⟨_, eO, i + 1, _, _, _, _, rfl, eD, eD, ?_⟩
    refine ⟨by omega, ?_⟩; rw [has, hall, Bool.true_and]; unfold noneT; rw [decide_eq_false hb.1, decide_eq_false hb.2]; rfl
  ·intro hb
   have hi : i = n := by omega
   subst hi
   refine AW.kx [2,6] [2,6] ?_
   rw [← hQl1]
   refine hK2 _ _ _ ?_; clear hK2
   refine AW.sg [2,3] [2] trivial ?_
   rw [← hQr]
   refine AW.rt trivial ?_
   rw [if_pos hall]
   exact Wk.refl _
theorem islat_e (es : List (List AV)) (a b : AV) (h : Reads Tryz.prog 53 false [.agg [.rsl 2 es]] (.tup [.agg [.nilsl, .nilsl], .bool false])) : Reads Tryz.prog 15 false [.agg [.rsl 2 es]] (.bool false) := by
 refine Reads.body (rs := [.tmp 2]) Tryz.func15 rfl Tryz.ntmps15 rfl (by simp) ?_
 generalize hQr : retQ _ _ _ = Qr
 refine AW.sg [1] [1] trivial ?_
 refine AW.so 0 (fun ii => if ii = 1 then some (.reads false (.tup [.agg [.nilsl, .nilsl], .bool false])) else none) [4] [] trivial ?_
 repeat with_reducible refine cj ?_ ?_
 all_goals try first | (exact h) | omega | exact ent (by kernel_rfl)
 refine AW.sg [2] [] trivial ?_
 rw [← hQr]
 refine AW.rt trivial ?_
 exact Wk.refl _
theorem islat_t (es : List (List AV)) (J M : List (List Int)) (h : Reads Tryz.prog 53 false [.agg [.rsl 2 es]] (.tup [.agg [.rsl 1 (lisR J), .rsl 1 (lisR M)], .bool true])) : Reads Tryz.prog 15 false [.agg [.rsl 2 es]] (.bool true) := by
 refine Reads.body (rs := [.tmp 2]) Tryz.func15 rfl Tryz.ntmps15 rfl (by simp) ?_
 generalize hQr : retQ _ _ _ = Qr
 refine AW.sg [1] [1] trivial ?_
 refine AW.so 0 (fun ii => if ii = 1 then some (.reads false (.tup [.agg [.rsl 1 (lisR J), .rsl 1 (lisR M)], .bool true])) else none) [4] [] trivial ?_
 repeat with_reducible refine cj ?_ ?_
 all_goals try first | (exact h) | omega | exact ent (by kernel_rfl)
 refine AW.sg [2] [] trivial ?_
 rw [← hQr]
 refine AW.rt trivial ?_
 exact Wk.refl _
theorem islat_g (n : Nat) (t : List (List Bool)) (hs : Sq n t) (hn : n ≤ 512) (hp : poB n t = true) : Reads Tryz.prog 15 false [relB t] (.bool (latB t n)) := by
 by_cases h0 : 0 < n
 ·have h := tables_g n t hs hn hp h0
  unfold tabV at h
  unfold latB
  rw [decide_eq_true h0, Bool.true_and]
  cases hc : (List.range n).all (fun i => noneT (jnT t n) i && noneT (mtT t n) i)
  ·rw [if_neg (by rw [hc]; simp)] at h
   exact islat_e _ .any .any h
  ·rw [if_pos hc] at h
   exact islat_t _ _ _ h
 ·have hv := pvalid_g n t hs hn
  have hlt : (tabR t).length = n := by rw [tabR_len, hs.len]
  unfold latB
  rw [decide_eq_false h0, Bool.false_and]
  exact islat_e _ .any .any (tables_e _ (by omega) _ hv (by rw [hlt, decide_eq_false h0, Bool.and_false]))
end Go.Proofs.B

namespace Go.Proofs.B
open Go.AM Go
set_option maxRecDepth 100000
set_option maxHeartbeats 4000000
/-- The two sides of the distributive law. -/
def dsL (J M : List (List Int)) (i j k : Nat) : Int := (M.getD i []).getD ((J.getD j []).getD k 0).toNat 0
def dsR (J M : List (List Int)) (i j k : Nat) : Int := (J.getD ((M.getD i []).getD j 0).toNat []).getD ((M.getD i []).getD k 0).toNat 0
def dsP (J M : List (List Int)) (i j k : Nat) : Bool := decide (dsL J M i j k = dsR J M i j k)
/-- All entries are elements. -/
def TabOk (J : List (List Int)) (n : Nat) : Prop := J.length = n ∧ ∀ i, i < n → (J.getD i []).length = n ∧ ∀ j, j < n → 0 ≤ (J.getD i []).getD j 0 ∧ (J.getD i []).getD j 0 < n
theorem bndF_rng {G : List (List Bool)} (i j : Nat) : -1 ≤ bndF G i j ∧ bndF G i j < G.length := by
 unfold bndF ixf
 split
 ·rename_i h
  have : List.findIdx (fun s => decide (s = andR G i j)) G < G.length := List.findIdx_lt_length_of_exists (by
   obtain ⟨x, h1, h2⟩ := List.any_eq_true.1 h
   exact ⟨x, h1, h2⟩)
  omega
 ·have : 0 ≤ (G.length : Int) := by omega
  omega
theorem tabOk_of {G : List (List Bool)} {n : Nat} (hG : G.length = n) (h : ∀ i, i < n → noneT (bndT G) i = true) : TabOk (bndT G) n := by
 refine ⟨by rw [bndT_len, hG], fun i hi => ⟨by rw [bndT_rowlen (by omega), hG], fun j hj => ?_⟩⟩
 have h1 := h i hi
 rw [bndT_at (by omega) (by omega)]
 have h2 := bndF_rng (G := G) i j
 refine ⟨?_, by omega⟩
 apply Classical.byContradiction
 intro hn
 have h3 : bndF G i j = -1 := by omega
 unfold noneT at h1
 rw [Bool.not_eq_true', decide_eq_false_iff_not] at h1
 refine h1 ?_
 rw [bndT_row (by omega), List.mem_map]
 exact ⟨j, List.mem_range.2 (by omega), h3⟩
def disP (J M : List (List Int)) (n : Nat) (i j k : Nat) : Prop := (∀ a, a < i → ∀ b, b < n → ∀ c, c < n → dsP J M a b c = true) ∧ (∀ b, b < j → ∀ c, c < n → dsP J M i b c = true) ∧ (∀ c, c < k → dsP J M i j c = true)
/-- What Distributive answers. -/
def DisA (J M : List (List Int)) (n : Nat) (v : AV) : Prop :=
 ((∀ a, a < n → ∀ b, b < n → ∀ c, c < n → dsP J M a b c = true) ∧ v = .tup [.bool true, .agg [.int .i64 0, .int .i64 0, .int .i64 0], .int .i64 0]) ∨
 (∃ i j k : Nat, i < n ∧ j < n ∧ k < n ∧ disP J M n i j k ∧ dsP J M i j k = false ∧ v = .tup [.bool false, .agg [.int .i64 (i : Nat), .int .i64 (j : Nat), .int .i64 (k : Nat)], .int .i64 0])
theorem DisA.ex (J M : List (List Int)) (n : Nat) : ∃ v, DisA J M n v := by
 by_cases h : ∀ a, a < n → ∀ b, b < n → ∀ c, c < n → dsP J M a b c = true
 ·exact ⟨_, .inl ⟨h, rfl⟩⟩
 ·have hex : ∃ q, ∃ i j k, q = i * (n * n) + j * n + k ∧ i < n ∧ j < n ∧ k < n ∧ dsP J M i j k = false := by
   apply Classical.byContradiction
   intro hno
   refine h fun a ha b hb c hc => ?_
   cases e : dsP J M a b c
   ·exact absurd ⟨_, a, b, c, rfl, ha, hb, hc, e⟩ hno
   ·rfl
  let P : Nat → Prop := fun q => ∃ i j k, q = i * (n * n) + j * n + k ∧ i < n ∧ j < n ∧ k < n ∧ dsP J M i j k = false
  have hmin : ∃ q, P q ∧ ∀ r, r < q → ¬ P r := by
   obtain ⟨q, hq⟩ := hex
   have key : ∀ m q, q ≤ m → P q → ∃ q, P q ∧ ∀ r, r < q → ¬ P r := by
    intro m
    induction m with
    | zero => intro q hq hP; exact ⟨q, hP, fun r hr => by omega⟩
    | succ m ih =>
     intro q hq hP
     by_cases hh : ∃ r, r < q ∧ P r
     ·obtain ⟨r, h1, h2⟩ := hh
      exact ih r (by omega) h2
     ·exact ⟨q, hP, fun r hr hp => hh ⟨r, hr, hp⟩⟩
   exact key q q (Nat.le_refl _) hq
  obtain ⟨q, ⟨i, j, k, rfl, hi, hj, hk, hf⟩, hle⟩ := hmin
  refine ⟨_, .inr ⟨i, j, k, hi, hj, hk, ⟨fun a ha b hb c hc => ?_, fun b hb c hc => ?_, fun c hc => ?_⟩, hf, rfl⟩⟩
  ·cases e : dsP J M a b c
   ·refine absurd ⟨a, b, c, rfl, by omega, hb, hc, e⟩ (hle _ ?_)
    have h1 : (a + 1) * (n * n) ≤ i * (n * n) := Nat.mul_le_mul_right _ ha
    have h2 : (b + 1) * n ≤ n * n := Nat.mul_le_mul_right _ hb
    rw [Nat.add_mul] at h1 h2
    omega
   ·rfl
  ·cases e : dsP J M i b c
   ·refine absurd ⟨i, b, c, rfl, hi, by omega, hc, e⟩ (hle _ ?_)
    have h2 : (b + 1) * n ≤ j * n := Nat.mul_le_mul_right _ hb
    rw [Nat.add_mul] at h2
    omega
   ·rfl
  ·cases e : dsP J M i j c
   ·exact absurd ⟨i, j, c, rfl, hi, hj, by omega, e⟩ (hle _ (by omega))
   ·rfl
theorem disP.uniq {J M : List (List Int)} {n i j k i' j' k' : Nat} (h : disP J M n i j k) (h' : disP J M n i' j' k') (hj : j < n) (hk : k < n) (hj' : j' < n) (hk' : k' < n) (hf : dsP J M i j k = false) (hf' : dsP J M i' j' k' = false) : i = i' ∧ j = j' ∧ k = k' := by
 have e1 : i = i' := by
  rcases Nat.lt_trichotomy i i' with hl | hl | hl
  ·have := h'.1 i hl j hj k hk; rw [hf] at this; cases this
  ·exact hl
  ·have := h.1 i' hl j' hj' k' hk'; rw [hf'] at this; cases this
 subst e1
 have e2 : j = j' := by
  rcases Nat.lt_trichotomy j j' with hl | hl | hl
  ·have := h'.2.1 j hl k hk; rw [hf] at this; cases this
  ·exact hl
  ·have := h.2.1 j' hl k' hk'; rw [hf'] at this; cases this
 subst e2
 rcases Nat.lt_trichotomy k k' with hl | hl | hl
 ·have := h'.2.2 k hl; rw [hf] at this; cases this
 ·exact ⟨rfl, rfl, hl⟩
 ·have := h.2.2 k' hl; rw [hf'] at this; cases this
theorem dist_ok (n : Nat) (t : List (List Bool)) (hs : Sq n t) (J M : List (List Int)) (hJ : TabOk J n) (hM : TabOk M n) (hn : n ≤ 512) (v : AV) (hd : DisA J M n v) (ht : Reads Tryz.prog 53 false [relB t] (.tup [.agg [.rsl 1 (lisR J), .rsl 1 (lisR M)], .bool true])) : Reads Tryz.prog 13 false [relB t] v := by
 have hlt : (tabR t).length = n := by rw [tabR_len, hs.len]
 have hJl := hJ.1
 have hMl := hM.1
 unfold relB at *
 refine Reads.body (rs := [.tmp 2, .cell 3 31, .tmp 4]) Tryz.func13 rfl Tryz.ntmps13 rfl (by simp) ?_
 generalize hQr : retQ _ _ _ = Qr
 refine AW.sg [1,3] [1,3] trivial ?_
 refine AW.so 0 (fun ii => if ii = 1 then some (.reads false (.tup [.agg [.rsl 1 (lisR J), .rsl 1 (lisR M)], .bool true])) else none) [1,3,5,6] [1,3,5] trivial ?_
 repeat with_reducible refine cj ?_ ?_
 all_goals try first | (exact ht) | omega | exact ent (by kernel_rfl)
 refine AW.seq fun K1 hK1 => ?_
 refine AW.sg [1,3,5,16] [1,3,5] trivial ?_
 refine AW.cn ?_ ?_
 ·intro hb
  exfalso; simp at hb
 ·intro hb
  refine AW.skip ?_
  refine hK1 _ _ _ ?_; clear hK1
  refine AW.seq fun K2 hK2 => ?_
  refine AW.sg [1,3,5,20,21] [1,3,5] (@hlt) ?_
  refine AW.block ?_
  refine AW.loopE (fun mm ee ss kk => ∃ (i g1 v1 g3 v3 g5 v5 : Nat), n - i = mm ∧ ee = [(1, .ptr ⟨1, g1, none⟩ 0 0), (3, .ptr ⟨3, g3, none⟩ 0 0), (5, .ptr ⟨5, g5, none⟩ 0 0), (20, .int .i64 n), (21, .int .i64 (i : Nat))] ∧ ss = [(1, some ⟨g1, v1, 1, [[.rsl 2 (tabR t)]]⟩), (3, some ⟨g3, v3, 3, [[.int .i64 0, .int .i64 0, .int .i64 0]]⟩), (5, some ⟨g5, v5, 2, [[.rsl 1 (lisR J), .rsl 1 (lisR M)]]⟩)] ∧ (i ≤ n ∧ ∀ a, a < i → ∀ b, b < n → ∀ c, c < n → dsP J M a b c = true)) ?_ ?_
  ·exact ⟨_, 0, _, _, _, _, _, _, rfl, eD, eD, (⟨by omega, fun a ha => by omega⟩)⟩
  rintro mm ee ss kk ⟨i, g1, v1, g3, v3, g5, v5, rfl, rfl, rfl, hI⟩
  generalize hQl1 : thenQ _ _ = Ql1
  obtain ⟨hi0, hA⟩ := hI
  refine AW.sg [1,3,5,20,21,22] [1,3,5] trivial ?_
  refine AW.seq fun K3 hK3 => ?_
  refine AW.cn ?_ ?_
  ·intro hb
   have hin : i < n := by omega
   refine AW.skip ?_
   refine hK3 _ _ _ ?_; clear hK3
   refine AW.seq fun K4 hK4 => ?_
   refine AW.block ?_
   refine AW.sg [1,3,5,7,20,21] [1,3,5] trivial ?_
   refine AW.sg [1,3,5,7,20,21,26,27] [1,3,5] (@hlt) ?_
   refine AW.block ?_
   refine AW.loopE (fun mm ee ss kk => ∃ (j g1 v1 g3 v3 g5 v5 : Nat), n - j = mm ∧ ee = [(1, .ptr ⟨1, g1, none⟩ 0 0), (3, .ptr ⟨3, g3, none⟩ 0 0), (5, .ptr ⟨5, g5, none⟩ 0 0), (7, .int .i64 (i : Nat)), (20, .int .i64 n), (21, .int .i64 (i : Nat)), (26, .int .i64 n), (27, .int .i64 (j : Nat))] ∧ ss = [(1, some ⟨g1, v1, 1, [[.rsl 2 (tabR t)]]⟩), (3, some ⟨g3, v3, 3, [[.int .i64 0, .int .i64 0, .int .i64 0]]⟩), (5, some ⟨g5, v5, 2, [[.rsl 1 (lisR J), .rsl 1 (lisR M)]]⟩)] ∧ (j ≤ n ∧ ∀ b, b < j → ∀ c, c < n → dsP J M i b c = true)) ?_ ?_
   ·exact ⟨_, 0, _, _, _, _, _, _, rfl, eD, eD, (⟨by omega, fun a ha => by omega⟩)⟩
   rintro mm ee ss kk ⟨j, g1, v1, g3, v3, g5, v5, rfl, rfl, rfl, hI⟩
   generalize hQl2 : thenQ _ _ = Ql2
   obtain ⟨hj0, hB⟩ := hI
   refine AW.sg [1,3,5,7,20,21,26,27,28] [1,3,5] trivial ?_
   refine AW.seq fun K5 hK5 => ?_
   refine AW.cn ?_ ?_
   ·intro hb
    have hjn : j < n := by omega
    refine AW.skip ?_
    refine hK5 _ _ _ ?_; clear hK5
    refine AW.seq fun K6 hK6 => ?_
    refine AW.block ?_
    refine AW.sg [1,3,5,7,8,20,21,26,27] [1,3,5] trivial ?_
    refine AW.sg [1,3,5,7,8,20,21,26,27,32,33] [1,3,5] (@hlt) ?_
    refine AW.block ?_
    refine AW.loopE (fun mm ee ss kk => ∃ (k g1 v1 g3 v3 g5 v5 : Nat), n - k = mm ∧ ee = [(1, .ptr ⟨1, g1, none⟩ 0 0), (3, .ptr ⟨3, g3, none⟩ 0 0), (5, .ptr ⟨5, g5, none⟩ 0 0), (7, .int .i64 (i : Nat)), (8, .int .i64 (j : Nat)), (20, .int .i64 n), (21, .int .i64 (i : Nat)), (26, .int .i64 n), (27, .int .i64 (j : Nat)), (32, .int .i64 n), (33, .int .i64 (k : Nat))] ∧ ss = [(1, some ⟨g1, v1, 1, [[.rsl 2 (tabR t)]]⟩), (3, some ⟨g3, v3, 3, [[.int .i64 0, .int .i64 0, .int .i64 0]]⟩), (5, some ⟨g5, v5, 2, [[.rsl 1 (lisR J), .rsl 1 (lisR M)]]⟩)] ∧ (k ≤ n ∧ ∀ c, c < k → dsP J M i j c = true)) ?_ ?_
    ·exact ⟨_, 0, _, _, _, _, _, _, rfl, eD, eD, (⟨by omega, fun a ha => by omega⟩)⟩
    rintro mm ee ss kk ⟨k, g1, v1, g3, v3, g5, v5, rfl, rfl, rfl, hI⟩
    generalize hQl3 : thenQ _ _ = Ql3
    obtain ⟨hk0, hC⟩ := hI
    refine AW.sg [1,3,5,7,8,20,21,26,27,32,33,34] [1,3,5] trivial ?_
    refine AW.seq fun K7 hK7 => ?_
    refine AW.cn ?_ ?_
    ·intro hb
     have hkn : k < n := by omega
     have hdp : dsP J M i j k = decide ((M.getD i []).getD ((J.getD j []).getD k 0).toNat 0 = (J.getD ((M.getD i []).getD j 0).toNat []).getD ((M.getD i []).getD k 0).toNat 0) := rfl
     have hgM := lisR_get (cs := M) (i := i) (by omega)
     have hgJ := lisR_get (cs := J) (i := j) (by omega)
     obtain ⟨hMr, hMi⟩ := hM.2 i hin
     obtain ⟨hJr, hJj⟩ := hJ.2 j hjn
     have hx := hJj k hkn
     have hy := hMi j hjn
     have hz := hMi k hkn
     have hgx := ints_getD (l := J.getD j []) (i := k) (by omega)
     have hgy := ints_getD (l := M.getD i []) (i := j) (by omega)
     have hgz := ints_getD (l := M.getD i []) (i := k) (by omega)
     generalize (J.getD j []).getD k 0 = x at *
     generalize (M.getD i []).getD j 0 = y at *
     generalize (M.getD i []).getD k 0 = z at *
     have hg1 := ints_getD (l := M.getD i []) (i := x.toNat) (by omega)
     have hgJy := lisR_get (cs := J) (i := y.toNat) (by omega)
     have hJyr := (hJ.2 y.toNat (by omega)).1
     have hg2 := ints_getD (l := J.getD y.toNat []) (i := z.toNat) (by omega)
     generalize M.getD i [] = Mi at *
     generalize J.getD j [] = Jj at *
     generalize J.getD y.toNat [] = Jy at *
     refine AW.skip ?_
     refine hK7 _ _ _ ?_; clear hK7
     refine AW.seq fun K8 hK8 => ?_
     refine AW.block ?_
     refine AW.sg [1,3,5,7,8,9,20,21,26,27,32,33] [1,3,5] trivial ?_
     refine AW.sd mixed 0 (fun _ => none) [1,3,5,7,8,9,20,21,26,27,32,33,73] [1,3,5] (e3 @hgM @hgJ (e5 @hgx @hgy @hgz @hg1 (e5 @hgJy @hg2 @lisR_len @ints_len (e5 @hJl @hMl @hMr @hJr @hJyr)))) ?_
     refine AW.cn ?_ ?_
     ·intro hb
      refine AW.sg [2,3,4] [3] trivial ?_
      rw [← hQl3, ← hQl2, ← hQl1, ← hQr]
      refine AW.rt trivial ?_
      have hf : dsP J M i j k = false := by rw [hdp]; simpa using hb
      rcases hd with ⟨h1, _⟩ | ⟨i', j', k', hi', hj', hk', hdd, hf', rfl⟩
      ·have := h1 i hin j hjn k hkn; rw [hf] at this; cases this
      ·obtain ⟨rfl, rfl, rfl⟩ := disP.uniq ⟨hA, hB, hC⟩ hdd hjn hkn hj' hk' hf hf'
       exact Wk.refl _
     ·intro hb
      have hT : dsP J M i j k = true := by rw [hdp]; simpa using hb
      refine AW.skip ?_
      refine hK8 _ _ _ ?_; clear hK8
      refine AW.rg [1,3,5,7,8,20,21,26,27,32,33] [1,3,5] trivial ?_
      rw [← hQl3]; change Exists _
      refine ⟨_, eO, k + 1, _, _, _, _, _, _, rfl, eD, eD, ?_⟩
      refine ⟨by omega, fun c hc => ?_⟩; rcases Nat.lt_succ_iff_lt_or_eq.1 hc with h | h; exact hC c h; subst h; exact hT
    ·intro hb
     refine AW.kx [1,3,5,7,20,21,26,27] [1,3,5] ?_
     rw [← hQl3]
     refine hK6 _ _ _ ?_; clear hK6
     refine AW.rg [1,3,5,7,20,21,26,27] [1,3,5] trivial ?_
     rw [← hQl2]; change Exists _
     refine ⟨_, eO, j + 1, _, _, _, _, _, _, rfl, eD, eD, ?_⟩
     refine ⟨by omega, fun b hb' c hc => ?_⟩; rcases Nat.lt_succ_iff_lt_or_eq.1 hb' with h | h; exact hB b h c hc; subst h; exact hC c (by omega)
   ·intro hb
    refine AW.kx [1,3,5,20,21] [1,3,5] ?_
    rw [← hQl2]
    refine hK4 _ _ _ ?_; clear hK4
    refine AW.rg [1,3,5,20,21] [1,3,5] trivial ?_
    rw [← hQl1]; change Exists _
    refine ⟨_, eO, i + 1, _, _, _, _, _, _, rfl, eD, eD, ?_⟩
    refine ⟨by omega, fun a ha b hb' c hc => ?_⟩; rcases Nat.lt_succ_iff_lt_or_eq.1 ha with h | h; exact hA a h b hb' c hc; subst h; exact hB b (by omega) c hc
  ·intro hb
   have hall : ∀ a, a < n → ∀ b, b < n → ∀ c, c < n → dsP J M a b c = true := fun a ha => hA a (by omega)
   refine AW.kx [3] [3] ?_
   rw [← hQl1]
   refine hK2 _ _ _ ?_; clear hK2
   refine AW.sd mixed 0 (fun _ => none) [2,3,4] [3] trivial ?_
   rw [← hQr]
   refine AW.rt trivial ?_
   rcases hd with ⟨_, rfl⟩ | ⟨i', j', k', hi', hj', hk', hdd, hf', rfl⟩
   ·exact Wk.refl _
   ·have := hall i' hi' j' hj' k' hk'; rw [hf'] at this; cases this
end Go.Proofs.B

namespace Go.Proofs.B
open Go.AM Go
set_option maxRecDepth 100000
set_option maxHeartbeats 4000000
def incP (L : List (List Bool)) (i q : Nat) : Bool := decide (i ≠ q) && subB (L.getD i []) (L.getD q [])
/-- A row of the order of inclusion, its first entries. -/
def iR (L : List (List Bool)) (i j : Nat) : List Bool := (List.range L.length).map fun q => decide (q < j) && incP L i q
def inclT (L : List (List Bool)) : List (List Bool) := (List.range L.length).map fun i => iR L i L.length
theorem iR_len (L : List (List Bool)) (i j : Nat) : (iR L i j).length = L.length := by simp [iR]
theorem iR_zero (L : List (List Bool)) (i : Nat) : iR L i 0 = List.replicate L.length false := by
 unfold iR
 refine List.ext_getElem (by simp) fun q h1 h2 => by simp
theorem iR_succ {L : List (List Bool)} {i j : Nat} (hj : j < L.length) : iR L i (j + 1) = if incP L i j = true then (iR L i j).set j true else iR L i j := by
 refine List.ext_getElem (by split <;> simp [iR]) fun q h1 h2 => ?_
 have hq : q < L.length := by simpa [iR] using h1
 split
 ·rename_i hc
  rw [List.getElem_set]
  simp only [iR, List.getElem_map, List.getElem_range]
  by_cases e : j = q
  ·subst e; rw [if_pos rfl, hc]; simp
  ·rw [if_neg e]
   have : decide (q < j + 1) = decide (q < j) := decide_eq_decide.2 (by omega)
   rw [this]
 ·rename_i hc
  simp only [iR, List.getElem_map, List.getElem_range]
  by_cases e : q = j
  ·subst e
   have : incP L i q = false := by simpa using hc
   rw [this]; simp
  ·have : decide (q < j + 1) = decide (q < j) := decide_eq_decide.2 (by omega)
   rw [this]
theorem inclT_len (L : List (List Bool)) : (inclT L).length = L.length := by simp [inclT]
theorem inclT_sq (L : List (List Bool)) : Sq L.length (inclT L) := ⟨inclT_len L, fun b hb => by
 obtain ⟨i, _, rfl⟩ := List.mem_map.1 hb
 exact iR_len ..⟩
theorem inclT_take {L : List (List Bool)} {i : Nat} (hi : i < L.length) : (inclT L).take (i + 1) = (inclT L).take i ++ [iR L i L.length] := by
 rw [List.take_add_one]
 congr 1
 unfold inclT
 rw [List.getElem?_map, List.getElem?_range hi]
 rfl
theorem ideals_big (es : List (List AV)) (c e : Int) (hc : Reads Tryz.prog 50 false [.agg [.rsl 2 es]] (.tup [.int .i64 c, .int .i64 e])) (he : e = 16 ∨ (e = 0 ∧ 512 < c)) : Reads Tryz.prog 12 false [.agg [.rsl 2 es]] (.tup [.agg [.nilsl], .nilsl, .int .i64 9]) := by
 refine Reads.body (rs := [.cell 2 24, .tmp 3, .tmp 4]) Tryz.func12 rfl Tryz.ntmps12 rfl (by simp) ?_
 generalize hQr : retQ _ _ _ = Qr
 refine AW.sg [1,2] [1,2] trivial ?_
 refine AW.so 0 (fun ii => if ii = 1 then some (.reads false (.tup [.int .i64 c, .int .i64 e])) else none) [1,2,4,5] [1,2] trivial ?_
 repeat with_reducible refine cj ?_ ?_
 all_goals try first | (exact hc) | omega | exact ent (by kernel_rfl)
 refine AW.seq fun K1 hK1 => ?_
 refine AW.block ?_
 refine AW.sg [1,2,4,16] [1,2] trivial ?_
 repeat with_reducible refine cj ?_ ?_
 all_goals try first | omega | (intros; (repeat' apply And.intro) <;> first | assumption | omega | decide) | (intro hgd; exact absurd hgd (by decide)) | rfl | exact gD | (intro _hgd; simp_all [go_sem]; done)
 refine AW.cn ?_ ?_
 ·intro hb
  refine AW.sg [2,3,4] [2] trivial ?_
  rw [← hQr]
  refine AW.rt trivial ?_
  exact Wk.refl _
 ·intro hb
  exfalso; omega
theorem ideals_g (n : Nat) (es : List (List AV)) (hn : n ≤ 512) (L : List (List Bool)) (hL : ∀ b ∈ L, b.length = n) (hm : L.length ≤ 512) (hc : Reads Tryz.prog 50 false [.agg [.rsl 2 es]] (.tup [.int .i64 L.length, .int .i64 ((0 : Nat) : Int)])) (hl : Reads Tryz.prog 51 false [.agg [.rsl 2 es]] (.tup [.rsl 2 (tabR L), .int .i64 ((0 : Nat) : Int)])) : Reads Tryz.prog 12 false [.agg [.rsl 2 es]] (.tup [relB (inclT L), .rsl 2 (tabR L), .int .i64 0]) := by
 have hLl := tabR_len L
 have hil := inclT_len L
 have hwe := wordsN_ref (L.length : Int)
 have hwn := wordsN_rng (n := (L.length : Int)) (by omega)
 have hsub := fun (a b : List Bool) (ha : a.length = n) (hb : b.length = n) => subset_r a b (by omega) (by omega)
 have hget : ∀ i, i < L.length → (L.getD i []).length = n := fun i hi => hL _ (mem_getD hi _)
 have hwl : ∀ i j, (setW (iR L i j) L.length).length = (wordsN (L.length : Int)).toNat := fun i j => by
  have := setW_len' (iR L i j)
  rw [iR_len] at this
  exact this
 have hz : ∀ i, List.replicate (wordsN (L.length : Int)).toNat [AV.int .u64 0] = words (setW (iR L i 0) L.length) := fun i => by rw [iR_zero, setW_zero]; simp [words]
 unfold relB
 refine Reads.body (rs := [.cell 2 24, .tmp 3, .tmp 4]) Tryz.func12 rfl Tryz.ntmps12 rfl (by simp) ?_
 generalize hQr : retQ _ _ _ = Qr
 refine AW.sg [1,2] [1,2] trivial ?_
 refine AW.so 0 (fun ii => if ii = 1 then some (.reads false (.tup [.int .i64 L.length, .int .i64 ((0 : Nat) : Int)])) else none) [1,2,4,5] [1,2] trivial ?_
 repeat with_reducible refine cj ?_ ?_
 all_goals try first | (exact hc) | omega | exact ent (by kernel_rfl)
 refine AW.seq fun K1 hK1 => ?_
 refine AW.block ?_
 refine AW.sg [1,2,4,16] [1,2] trivial ?_
 repeat with_reducible refine cj ?_ ?_
 all_goals try first | omega | (intros; (repeat' apply And.intro) <;> first | assumption | omega | decide) | (intro hgd; exact absurd hgd (by decide)) | rfl | exact gD | (intro _hgd; simp_all [go_sem]; done)
 refine AW.cn ?_ ?_
 ·intro hb
  exfalso; omega
 ·intro hb
  refine AW.sg [1,2,4,28] [1,2] trivial ?_
  refine AW.cn ?_ ?_
  ·intro hb
   exfalso; omega
  ·intro hb
   refine AW.skip ?_
   refine hK1 _ _ _ ?_; clear hK1
   refine AW.seq fun K2 hK2 => ?_
   refine AW.so 0 (fun ii => if ii = 1 then some (.reads false (.tup [.rsl 2 (tabR L), .int .i64 ((0 : Nat) : Int)])) else none) [2,3,4] [2] trivial ?_
   repeat with_reducible refine cj ?_ ?_
   all_goals try first | (exact hl) | omega | exact ent (by kernel_rfl)
   refine AW.sg [2,3,4,39] [2] trivial ?_
   refine AW.cn ?_ ?_
   ·intro hb
    exfalso; omega
   ·intro hb
    refine AW.skip ?_
    refine hK2 _ _ _ ?_; clear hK2
    refine AW.seq fun K3 hK3 => ?_
    refine AW.sg [2,3,42,43,44] [2] (@hLl) ?_
    refine AW.block ?_
    refine AW.nilCellK 2 0 0 200 2 ?_
    simp only [go_sem, reduceIte, zE]
    repeat refine cj ?_ ?_
    all_goals first | decide | skip
    refine AW.keep [2, 3, 42, 43, 44] [2, 200] ?_
    simp only [go_sem, reduceIte, zE]
    refine AW.loopE (fun mm ee ss kk => ∃ (i g2 v2 g v : Nat), L.length - i = mm ∧ ee = [(2, .ptr ⟨2, g2, none⟩ 0 0), (3, .rsl 2 (tabR L)), (42, .rsl 2 (tabR L)), (43, .int .i64 L.length), (44, .int .i64 (i : Nat))] ∧ ss = [(2, some ⟨g2, v2, 1, [[.sl ⟨200, g, none⟩ 0 i none]]⟩), (200, some ⟨g, v, 2, tabO ((inclT L).take i)⟩)] ∧ (i ≤ L.length)) ?_ ?_
    ·exact ⟨_, 0, _, _, _, _, rfl, eD, eD, eT⟩
    rintro mm ee ss kk ⟨i, g2, v2, g, v, rfl, rfl, rfl, hI⟩
    generalize hQl1 : thenQ _ _ = Ql1
    refine AW.sg [2,3,42,43,44,45] [2,200] trivial ?_
    refine AW.seq fun K4 hK4 => ?_
    refine AW.cn ?_ ?_
    ·intro hb
     have hin : i < L.length := by omega
     have hgi : (tabR L).getD i [] = rowB (L.getD i []) := tabR_get hin
     have hgil := hget i hin
     unfold rowB at hgi
     rw [hgil] at hgi
     have hzi := hz i
     have htl : ((inclT L).take i).length = i := by rw [List.length_take, hil]; omega
     have htk : (tabO ((inclT L).take i)).take i = tabO ((inclT L).take i) := List.take_of_length_le (by rw [tabO_len]; omega)
     have hit := inclT_take (L := L) hin
     refine AW.skip ?_
     refine hK4 _ _ _ ?_; clear hK4
     refine AW.seq fun K5 hK5 => ?_
     refine AW.block ?_
     refine AW.sg [2,3,6,7,42,43,44] [2,7,200] (e2 @hgi @hLl) ?_
     refine AW.sg [2,3,6,7,8,42,43,44] [2,7,8,55,200] (e3 @hLl @hwe @hzi) ?_
     refine AW.seq fun K6 hK6 => ?_
     refine AW.sg [2,3,6,7,8,42,43,44,57,58,59] [2,7,8,55,200] (@hLl) ?_
     refine AW.block ?_
     refine AW.loopE (fun mm ee ss kk => ∃ (j g2 v2 g7 v7 g8 v8 gw vw g v : Nat), L.length - j = mm ∧ ee = [(2, .ptr ⟨2, g2, none⟩ 0 0), (3, .rsl 2 (tabR L)), (6, .int .i64 (i : Nat)), (7, .ptr ⟨7, g7, none⟩ 0 0), (8, .ptr ⟨8, g8, none⟩ 0 0), (42, .rsl 2 (tabR L)), (43, .int .i64 L.length), (44, .int .i64 (i : Nat)), (57, .rsl 2 (tabR L)), (58, .int .i64 L.length), (59, .int .i64 (j : Nat))] ∧ ss = [(2, some ⟨g2, v2, 1, [[.sl ⟨200, g, none⟩ 0 i none]]⟩), (7, some ⟨g7, v7, 2, [[.int .i64 n, .rsl 1 (words (setW (L.getD i []) n))]]⟩), (8, some ⟨g8, v8, 2, [[.int .i64 L.length, .sl ⟨55, gw, none⟩ 0 (wordsN (L.length : Int)).toNat none]]⟩), (55, some ⟨gw, vw, 1, words (setW (iR L i j) L.length)⟩), (200, some ⟨g, v, 2, tabO ((inclT L).take i)⟩)] ∧ (j ≤ L.length)) ?_ ?_
     ·exact ⟨_, 0, _, _, _, _, _, _, _, _, _, _, rfl, eD, eD, eT⟩
     rintro mm ee ss kk ⟨j, g2, v2, g7, v7, g8, v8, gw, vw, g, v, rfl, rfl, rfl, hI⟩
     generalize hQl2 : thenQ _ _ = Ql2
     have hwlj := hwl i j
     have hirl := iR_len L i j
     refine AW.sg [2,3,6,7,8,42,43,44,57,58,59,60] [2,7,8,55,200] trivial ?_
     refine AW.seq fun K7 hK7 => ?_
     refine AW.cn ?_ ?_
     ·intro hb
      have hjn : j < L.length := by omega
      have hgj : (tabR L).getD j [] = rowB (L.getD j []) := tabR_get hjn
      have hgjl := hget j hjn
      have hsij := hsub (L.getD i []) (L.getD j []) hgil hgjl
      have his := iR_succ (L := L) (i := i) hjn
      have hip : incP L i j = (decide (i ≠ j) && subB (L.getD i []) (L.getD j [])) := rfl
      unfold rowB at hgj hsij
      rw [hgjl] at hgj hsij
      rw [hgil] at hsij
      have hsb := setBit_setW (iR L i j) (i := j) (by omega)
      unfold setBit at hsb
      rw [hirl] at hsb
      have hd := div64_rng (i := (j : Int)) (n := L.length) (by omega) (by omega)
      have hgw := words_getD (l := setW (iR L i j) L.length) (i := ((j : Int).tdiv 64).toNat) (by omega)
      have hwr : IntKind.u64.wrap ((j : Int).tmod 64) = (j : Int).tmod 64 := by simp [IntKind.wrap, IntKind.signed, IntKind.bits]; omega
      refine AW.skip ?_
      refine hK7 _ _ _ ?_; clear hK7
      refine AW.seq fun K8 hK8 => ?_
      refine AW.block ?_
      refine AW.sg [2,3,6,7,8,9,10,42,43,44,57,58,59] [2,7,8,10,55,200] (e2 @hgj @hLl) ?_
      refine AW.so 0 (fun ii => if ii = 6 then some (.reads false (.bool (subB (L.getD i []) (L.getD j [])))) else none) [2,3,6,7,8,9,42,43,44,57,58,59,71] [2,7,8,55,200] trivial ?_
      repeat with_reducible refine cj ?_ ?_
      all_goals try first | ((intro hh; exact ⟨hh, hsij⟩)) | (intros; (repeat' apply And.intro) <;> first | assumption | ((intro hh; exact ⟨hh, hsij⟩))) | omega | exact ent (by kernel_rfl) | (intro hgd; exact absurd hgd (by decide)) | rfl | exact gD | (intro _hgd; simp_all [go_sem]; done)
      refine AW.cn ?_ ?_
      ·intro hb
       rw [if_pos (by rw [hip, hb.2, Bool.and_true]; exact decide_eq_true (by first | exact hb.1 | omega))] at his
       rw [← his] at hsb
       refine AW.rd mixed 0 (fun _ => none) [2,3,6,7,8,42,43,44,57,58,59] [2,7,8,55,200] (e4 @hgw @hwlj @hsb @hwr) ?_
       refine hK8 _ _ _ ?_; clear hK8
       refine AW.rg [2,3,6,7,8,42,43,44,57,58,59] [2,7,8,55,200] trivial ?_
       rw [← hQl2]; change Exists _
       refine ⟨_, ?hm, j + 1, ?_, ?_, ?_, ?_, ?_, ?_, ?_, ?_, ?_, ?_, rfl, ?henv, ?hstore, ?hst⟩
       case henv =>
        repeat' (first | rfl | apply env_cons | apply st_cons | apply int_eq | apply bool_eq | apply rsl_eq | apply osl_eq | apply sl_eq | apply ptr_eq | apply agg_eq | apply es_cons | apply row_cons)
        all_goals (first | (simp; done) | omega | (simp; omega))
       case hstore =>
        repeat' (first | rfl | apply env_cons | apply st_cons | apply int_eq | apply bool_eq | apply rsl_eq | apply osl_eq | apply sl_eq | apply ptr_eq | apply agg_eq | apply es_cons | apply row_cons)
        all_goals (first | rfl | rw [his])
       case hst =>
        first | trivial | omega | (simp; done) | (simp; omega)
       case hm => omega
      ·intro hb
       rw [if_neg (by rw [hip]; rcases hb with hb | hb; rw [decide_eq_false (by omega : ¬ i ≠ j)]; simp; rw [hb]; simp)] at his
       refine AW.skip ?_
       refine hK8 _ _ _ ?_; clear hK8
       refine AW.rg [2,3,6,7,8,42,43,44,57,58,59] [2,7,8,55,200] trivial ?_
       rw [← hQl2]; change Exists _
       refine ⟨_, ?hm, j + 1, ?_, ?_, ?_, ?_, ?_, ?_, ?_, ?_, ?_, ?_, rfl, ?henv, ?hstore, ?hst⟩
       case henv =>
        repeat' (first | rfl | apply env_cons | apply st_cons | apply int_eq | apply bool_eq | apply rsl_eq | apply osl_eq | apply sl_eq | apply ptr_eq | apply agg_eq | apply es_cons | apply row_cons)
        all_goals (first | (simp; done) | omega | (simp; omega))
       case hstore =>
        repeat' (first | rfl | apply env_cons | apply st_cons | apply int_eq | apply bool_eq | apply rsl_eq | apply osl_eq | apply sl_eq | apply ptr_eq | apply agg_eq | apply es_cons | apply row_cons)
        all_goals (first | rfl | rw [his])
       case hst =>
        first | trivial | omega | (simp; done) | (simp; omega)
       case hm => omega
     ·intro hb
      have hj : j = L.length := by omega
      subst hj
      have hll2 : (setW (iR L i L.length) L.length).length = (wordsN (L.length : Int)).toNat := hwlj
      have hap : tabO ((inclT L).take i) ++ [[.int .i64 L.length, .osl 1 (words (setW (iR L i L.length) L.length))]] = tabO ((inclT L).take (i + 1)) := by rw [hit]; simp [tabO, rowO, hirl]
      have hgl : ∀ c : List AV, (tabO ((inclT L).take i) ++ [c]).getD i [] = c := fun c => by rw [List.getD_eq_getElem?_getD, List.getElem?_append_right (by rw [tabO_len]; omega), tabO_len, htl]; simp
      have hsl : ∀ c c' : List AV, (tabO ((inclT L).take i) ++ [c]).set i c' = tabO ((inclT L).take i) ++ [c'] := fun c c' => by rw [List.set_append_right _ _ (by rw [tabO_len]; omega), tabO_len, htl]; simp
      have hlen1 : ∀ c : List AV, (tabO ((inclT L).take i) ++ [c]).length = i + 1 := fun c => by simp [tabO_len]; omega
      refine AW.exit ?_
      rw [← hQl2]
      refine hK6 _ _ _ ?_; clear hK6
      refine AW.regionK 0 (fun _ => none) [2, 3, 42, 43, 44] [2, 55, 200] ?_
      simp only [go_sem, reduceIte, reduceCtorEq, zA, zM, zE, zL, zD, zS, zP, zB, zI, zR, htk, tabO_len, htl]
      repeat with_reducible refine cj ?_ ?_
      all_goals try first | omega | (simp [scP, scalar]; done) | exact scP_words _ | exact scP_ints _ | exact scP_bools _
      refine hK5 _ _ _ ?_; clear hK5
      refine AW.adoptK 200 i 1 55 ?_
      simp only [go_sem, reduceIte, zE, hgl, hsl, hlen1]
      refine ⟨hll2, noOsl_words _, ?_⟩
      refine AW.keep [2, 3, 42, 43, 44] [2, 200] ?_
      simp only [go_sem, reduceIte, zE, hap]
      refine AW.rg [2,3,42,43,44] [2,200] trivial ?_
      rw [← hQl1]; change Exists _
      exact ⟨_, eO, i + 1, _, _, _, _, rfl, eD, eD, eT⟩
    ·intro hb
     have hi : i = L.length := by omega
     have htM : (tabO (inclT L)).take L.length = tabO (inclT L) := List.take_of_length_le (by rw [tabO_len, hil]; exact Nat.le_refl _)
     rw [hi, List.take_of_length_le (by omega : (inclT L).length ≤ L.length)]
     refine AW.exit ?_
     rw [← hQl1]
     refine hK3 _ _ _ ?_; clear hK3
     refine AW.sg [2,3,4] [2,200] trivial ?_
     rw [← hQr]
     refine AW.rt trivial ?_
     exact Wk.of_eq (by simp only [go_sem, reduceIte, zE, htM, vwc_tabO])
end Go.Proofs.B

namespace Go.Proofs.B
open Go.AM Go
set_option maxRecDepth 100000
set_option maxHeartbeats 4000000
def cntC (C : List (List Bool)) (i j : Nat) : Nat := ((List.range i).filter fun r => atT C r j).length
def blq (C : List (List Bool)) (n i : Nat) (M : List Nat) (q : Nat) : List Nat := (List.range n).map fun j => cntC C i j + if j ∈ M.take q then 1 else 0
def irrL (C : List (List Bool)) (n k : Nat) : List Nat := (List.range k).filter fun j => decide (cntC C n j = 1)
theorem cntC_le (C : List (List Bool)) (i j : Nat) : cntC C i j ≤ i := by
 unfold cntC; have := List.length_filter_le (fun r => atT C r j) (List.range i); simpa using this
theorem cntC_succ (C : List (List Bool)) (i j : Nat) : cntC C (i + 1) j = cntC C i j + if atT C i j = true then 1 else 0 := by
 unfold cntC; rw [List.range_succ, List.filter_append, List.length_append]; simp only [List.filter_cons, List.filter_nil]; split <;> simp
theorem blq_len (C : List (List Bool)) (n i : Nat) (M : List Nat) (q : Nat) : (blq C n i M q).length = n := by simp [blq]
theorem blq_get {C : List (List Bool)} {n i : Nat} {M : List Nat} {q x : Nat} (hx : x < n) : (blq C n i M q).getD x 0 = cntC C i x + if x ∈ M.take q then 1 else 0 := by
 unfold blq; simp [List.getD_eq_getElem?_getD, hx]
theorem blq_zero (C : List (List Bool)) (n i : Nat) (M N : List Nat) : blq C n i M 0 = blq C n i N 0 := by simp [blq]
theorem blq_init (C : List (List Bool)) (n : Nat) (M : List Nat) : blq C n 0 M 0 = List.replicate n 0 := by
 unfold blq cntC
 refine List.ext_getElem (by simp) fun q h1 h2 => by simp
theorem blq_set {C : List (List Bool)} {n i : Nat} {M : List Nat} {q x : Nat} (hq : M[q]? = some x) (hM : M.Nodup) (hx : x < n) : (blq C n i M q).set x (cntC C i x + 1) = blq C n i M (q + 1) := by
 refine List.ext_getElem (by simp [blq]) fun j h1 h2 => ?_
 have hj : j < n := by simpa [blq] using h2
 rw [List.getElem_set]
 simp only [blq, List.getElem_map, List.getElem_range]
 have ht : M.take (q + 1) = M.take q ++ [x] := by rw [List.take_add_one, hq]; rfl
 have hnx : x ∉ M.take q := fun h => by
  have h1 : (M.take (q + 1)).Nodup := hM.sublist (List.take_sublist _ _)
  rw [ht] at h1
  exact (List.nodup_append.1 h1).2.2 x h x (by simp) rfl
 rw [ht]
 by_cases e : x = j
 ·subst e
  simp
 ·rw [if_neg e]
  congr 1
  simp [show ¬ j = x from fun h => e h.symm]
theorem blq_end {C : List (List Bool)} {n i q : Nat} (hr : (rowT C i).length = n) (hq : (memB (rowT C i)).length ≤ q) (N : List Nat) : blq C n i (memB (rowT C i)) q = blq C n (i + 1) N 0 := by
 unfold blq
 refine List.map_congr_left fun j hj => ?_
 rw [cntC_succ, List.take_of_length_le hq]
 have hm : j ∈ memB (rowT C i) ↔ atT C i j = true := by
  rw [memB_mem, hr]
  exact ⟨fun h => h.2, fun h => ⟨List.mem_range.1 hj, h⟩⟩
 by_cases h : atT C i j = true
 ·rw [if_pos (hm.2 h), if_pos h]; simp
 ·rw [if_neg (fun h' => h (hm.1 h')), if_neg h]; simp
theorem irrL_succ (C : List (List Bool)) (n k : Nat) : irrL C n (k + 1) = if cntC C n k = 1 then irrL C n k ++ [k] else irrL C n k := by
 unfold irrL; rw [List.range_succ, List.filter_append]; simp only [List.filter_cons, List.filter_nil, decide_eq_true_eq]; split <;> simp
theorem irrL_le (C : List (List Bool)) (n k : Nat) : (irrL C n k).length ≤ k := by
 unfold irrL; have := List.length_filter_le (fun j => decide (cntC C n j = 1)) (List.range k); simpa using this
theorem irrL_row (C : List (List Bool)) (n : Nat) : memB (rowL n (nats (irrL C n n))) = irrL C n n := by
 unfold nats
 rw [rowL_nats, memB_setR]
 unfold irrL
 refine List.filter_congr fun j hj => ?_
 rw [Bool.eq_iff_iff, decide_eq_true_eq, decide_eq_true_eq, List.mem_filter, decide_eq_true_eq]
 exact ⟨fun h => h.2, fun h => ⟨hj, h⟩⟩
theorem irr_g (n : Nat) (t : List (List Bool)) (hs : Sq n t) (hn : n ≤ 512) (hp : poB n t = true) (hlat : latB t n = true) : Reads Tryz.prog 14 false [relB t] (.tup [relB (resT t (irrL (covT n t) n n)), .rsl 1 (ints (nats (irrL (covT n t) n n))), .int .i64 0]) := by
 have hil := islat_g n t hs hn hp
 rw [hlat] at hil
 have hlt : (tabR t).length = n := by rw [tabR_len, hs.len]
 have hcv := covers_g n t hs hn hp
 have hCs : Sq n (covT n t) := hs.cov
 have hrs := fun b hb => restrict_g n t hs hn hp b hb
 generalize covT n t = C at *
 have hCl := tabR_len C
 have hCn := hCs.len
 have hmem := fun i (hi : i < n) => members_b (rowT C i) (by rw [hCs.rowLen hi]; exact hn)
 have hcl := cntC_le C
 have hof := ofRow_r n (nats (irrL C n n)) hn (by rw [nats_len]; have := irrL_le C n n; omega) (fun x hx => by
  obtain ⟨q, h1, rfl⟩ := List.mem_map.1 hx
  have := List.mem_range.1 (List.mem_filter.1 h1).1
  omega)
 have hrow := irrL_row C n
 have hrl := rowL_len n (nats (irrL C n n))
 have hrsb := hrs (rowL n (nats (irrL C n n))) hrl
 rw [hrow] at hrsb
 generalize rowL n (nats (irrL C n n)) = b at *
 have hz : List.replicate n [AV.int .i64 0] = ints (nats (blq C n 0 [] 0)) := by rw [blq_init]; simp [ints, nats]
 unfold relB rowB at *
 rw [hrl] at hof hrsb
 refine Reads.body (rs := [.cell 2 24, .tmp 3, .tmp 4]) Tryz.func14 rfl Tryz.ntmps14 rfl (by simp) ?_
 generalize hQr : retQ _ _ _ = Qr
 refine AW.sg [1,2,3] [1,2] trivial ?_
 refine AW.seq fun K1 hK1 => ?_
 refine AW.so 0 (fun ii => if ii = 1 then some (.reads false (.bool true)) else none) [1,2,3,18] [1,2] trivial ?_
 repeat with_reducible refine cj ?_ ?_
 all_goals try first | (exact hil) | omega | exact ent (by kernel_rfl)
 refine AW.cn ?_ ?_
 ·intro hb
  exfalso; simp at hb
 ·intro hb
  refine AW.skip ?_
  refine hK1 _ _ _ ?_; clear hK1
  refine AW.so 0 (fun ii => if ii = 1 then some (.reads false (.tup [.agg [.rsl 2 (tabR C)], .int .i64 ((0 : Nat) : Int)])) else none) [1,2,3,4,5] [1,2,5] trivial ?_
  repeat with_reducible refine cj ?_ ?_
  all_goals try first | (exact hcv) | omega | exact ent (by kernel_rfl)
  refine AW.seq fun K2 hK2 => ?_
  refine AW.sg [1,2,3,4,5,26] [1,2,5] trivial ?_
  refine AW.cn ?_ ?_
  ·intro hb
   exfalso; simp at hb
  ·intro hb
   refine AW.skip ?_
   refine hK2 _ _ _ ?_; clear hK2
   refine AW.sg [1,2,3,5,6] [1,2,5,32] (e2 @hlt @hz) ?_
   refine AW.seq fun K3 hK3 => ?_
   refine AW.sg [1,2,3,6,34,35,36] [1,2,32] (e2 @hCl @hCn) ?_
   refine AW.block ?_
   refine AW.loopE (fun mm ee ss kk => ∃ (i g1 v1 g2 v2 g v : Nat), n - i = mm ∧ ee = [(1, .ptr ⟨1, g1, none⟩ 0 0), (2, .ptr ⟨2, g2, none⟩ 0 0), (3, .nilsl), (6, .sl ⟨32, g, none⟩ 0 n none), (34, .rsl 2 (tabR C)), (35, .int .i64 n), (36, .int .i64 (i : Nat))] ∧ ss = [(1, some ⟨g1, v1, 1, [[.rsl 2 (tabR t)]]⟩), (2, some ⟨g2, v2, 1, [[.nilsl]]⟩), (32, some ⟨g, v, 1, ints (nats (blq C n i [] 0))⟩)] ∧ (i ≤ n)) ?_ ?_
   ·exact ⟨_, 0, _, _, _, _, _, _, rfl, eD, eD, eT⟩
   rintro mm ee ss kk ⟨i, g1, v1, g2, v2, g, v, rfl, rfl, rfl, hI⟩
   generalize hQl1 : thenQ _ _ = Ql1
   refine AW.sg [1,2,3,6,34,35,36,37] [1,2,32] trivial ?_
   refine AW.seq fun K4 hK4 => ?_
   refine AW.cn ?_ ?_
   ·intro hb
    have hin : i < n := by omega
    have hgi := tabR_get (t := C) (i := i) (by omega)
    have hri := hCs.rowLen hin
    have hmi := hmem i hin
    have hnd : (memB (rowT C i)).Nodup := List.Pairwise.filter _ List.nodup_range
    have hmr : ∀ x, x ∈ memB (rowT C i) → x < n := fun x hx => by have := (memB_mem.1 hx).1; omega
    have hend := fun q hq => blq_end (C := C) (n := n) (i := i) (q := q) hri hq []
    have hb0 := blq_zero C n i [] (memB (rowT C i))
    have hml := memB_le (rowT C i)
    unfold rowB at hgi
    rw [hri] at hgi hmi hml
    generalize memB (rowT C i) = M at *
    generalize rowT C i = r at *
    refine AW.skip ?_
    refine hK4 _ _ _ ?_; clear hK4
    refine AW.seq fun K5 hK5 => ?_
    refine AW.block ?_
    refine AW.sg [1,2,3,6,8,34,35,36] [1,2,8,32] (e3 @hgi @hCl @hCn) ?_
    refine AW.so 0 (fun ii => if ii = 1 then some (.reads false (.tup [.rsl 1 (ints (nats M)), .int .i64 ((0 : Nat) : Int)])) else none) [1,2,3,6,9,34,35,36] [1,2,32] trivial ?_
    repeat with_reducible refine cj ?_ ?_
    all_goals try first | (exact hmi) | omega | exact ent (by kernel_rfl)
    refine AW.sg [1,2,3,6,34,35,36,45,46,47] [1,2,32] (e2 @nats_len @ints_len) ?_
    refine AW.block ?_
    refine AW.loopE (fun mm ee ss kk => ∃ (q g1 v1 g2 v2 g v : Nat), M.length - q = mm ∧ ee = [(1, .ptr ⟨1, g1, none⟩ 0 0), (2, .ptr ⟨2, g2, none⟩ 0 0), (3, .nilsl), (6, .sl ⟨32, g, none⟩ 0 n none), (34, .rsl 2 (tabR C)), (35, .int .i64 n), (36, .int .i64 (i : Nat)), (45, .rsl 1 (ints (nats M))), (46, .int .i64 M.length), (47, .int .i64 (q : Nat))] ∧ ss = [(1, some ⟨g1, v1, 1, [[.rsl 2 (tabR t)]]⟩), (2, some ⟨g2, v2, 1, [[.nilsl]]⟩), (32, some ⟨g, v, 1, ints (nats (blq C n i M q))⟩)] ∧ (q ≤ M.length)) ?_ ?_
    ·refine ⟨_, 0, ?_, ?_, ?_, ?_, ?_, ?_, rfl, ?henv, ?hstore, ?hst⟩
     case henv =>
      repeat' (first | rfl | apply env_cons | apply st_cons | apply int_eq | apply bool_eq | apply rsl_eq | apply osl_eq | apply sl_eq | apply ptr_eq | apply agg_eq | apply es_cons | apply row_cons)
      all_goals (first | (simp; done) | omega | (simp; omega))
     case hstore =>
      repeat' (first | rfl | apply env_cons | apply st_cons | apply int_eq | apply bool_eq | apply rsl_eq | apply osl_eq | apply sl_eq | apply ptr_eq | apply agg_eq | apply es_cons | apply row_cons)
      all_goals (rw [hb0])
     case hst =>
      first | trivial | omega | (simp; done) | (simp; omega)
    rintro mm ee ss kk ⟨q, g1, v1, g2, v2, g, v, rfl, rfl, rfl, hI⟩
    generalize hQl2 : thenQ _ _ = Ql2
    refine AW.sg [1,2,3,6,34,35,36,45,46,47,48] [1,2,32] trivial ?_
    refine AW.seq fun K6 hK6 => ?_
    refine AW.cn ?_ ?_
    ·intro hb
     obtain ⟨x, hxq⟩ := getI (l := M) (j := q) (by omega)
     have hgx := nats_get hxq
     have hxn := hmr x (List.mem_of_getElem? hxq)
     have hbs := blq_set (C := C) (n := n) (i := i) hxq hnd hxn
     have hbg := nats_getD (M := blq C n i M q) (k := x) (by rw [blq_len]; exact hxn)
     have hbx := blq_get (C := C) (n := n) (i := i) (M := M) (q := q) hxn
     have hnx : x ∉ M.take q := fun h => by
      have ht : M.take (q + 1) = M.take q ++ [x] := by rw [List.take_add_one, hxq]; rfl
      have h1 : (M.take (q + 1)).Nodup := hnd.sublist (List.take_sublist _ _)
      rw [ht] at h1
      exact (List.nodup_append.1 h1).2.2 x h x (by simp) rfl
     rw [if_neg hnx, Nat.add_zero] at hbx
     rw [hbx] at hbg
     have hbl := blq_len C n i M q
     have hcx := hcl i x
     have hset : (ints (nats (blq C n i M q))).set x [.int .i64 ((cntC C i x : Int) + 1)] = ints (nats (blq C n i M (q + 1))) := by
      rw [← hbs]
      simp [ints, nats, List.map_set]
     refine AW.skip ?_
     refine hK6 _ _ _ ?_; clear hK6
     refine AW.seq fun K7 hK7 => ?_
     refine AW.block ?_
     refine AW.sg [1,2,3,6,12,34,35,36,45,46,47] [1,2,32] (e3 @hgx @nats_len @ints_len) ?_
     refine AW.rg [1,2,3,6,34,35,36,45,46,47] [1,2,32] (e5 @hbg @nats_len @ints_len @hbl @hset) ?_
     refine hK7 _ _ _ ?_; clear hK7
     refine AW.rg [1,2,3,6,34,35,36,45,46,47] [1,2,32] trivial ?_
     rw [← hQl2]; change Exists _
     exact ⟨_, eO, q + 1, _, _, _, _, _, _, rfl, eD, eD, eT⟩
    ·intro hb
     have hq : M.length ≤ q := by omega
     rw [hend q hq]
     refine AW.exit ?_
     rw [← hQl2]
     refine hK5 _ _ _ ?_; clear hK5
     refine AW.rg [1,2,3,6,34,35,36] [1,2,32] trivial ?_
     rw [← hQl1]; change Exists _
     exact ⟨_, eO, i + 1, _, _, _, _, _, _, rfl, eD, eD, eT⟩
   ·intro hb
    have hi : i = n := by omega
    subst hi
    refine AW.exit ?_
    rw [← hQl1]
    refine hK3 _ _ _ ?_; clear hK3
    refine AW.seq fun K8 hK8 => ?_
    refine AW.sg [1,2,3,59,60,61] [1,2,32] trivial ?_
    refine AW.block ?_
    refine AW.nilOwn 3 200 1 (by simp only [go_sem, reduceIte, zE]) ?_
    refine AW.keep [1, 2, 3, 59, 60, 61] [1, 2, 32, 200] ?_
    simp only [go_sem, reduceIte, zE]
    refine AW.loopE (fun mm ee ss kk => ∃ (k g1 v1 g2 v2 g v h w : Nat), i - k = mm ∧ ee = [(1, .ptr ⟨1, g1, none⟩ 0 0), (2, .ptr ⟨2, g2, none⟩ 0 0), (3, .sl ⟨200, h, none⟩ 0 (irrL C i k).length none), (59, .sl ⟨32, g, none⟩ 0 i none), (60, .int .i64 i), (61, .int .i64 (k : Nat))] ∧ ss = [(1, some ⟨g1, v1, 1, [[.rsl 2 (tabR t)]]⟩), (2, some ⟨g2, v2, 1, [[.nilsl]]⟩), (32, some ⟨g, v, 1, ints (nats (blq C i i [] 0))⟩), (200, some ⟨h, w, 1, ints (nats (irrL C i k))⟩)] ∧ (k ≤ i)) ?_ ?_
    ·exact ⟨_, 0, _, _, _, _, _, _, _, _, rfl, eD, eD, eT⟩
    rintro mm ee ss kk ⟨k, g1, v1, g2, v2, g, v, h, w, rfl, rfl, rfl, hI⟩
    generalize hQl3 : thenQ _ _ = Ql3
    refine AW.sg [1,2,3,59,60,61,62] [1,2,32,200] trivial ?_
    refine AW.seq fun K9 hK9 => ?_
    refine AW.cn ?_ ?_
    ·intro hb
     have hkn : k < i := by omega
     have hbg := nats_getD (M := blq C i i [] 0) (k := k) (by rw [blq_len]; exact hkn)
     have hbx := blq_get (C := C) (n := i) (i := i) (M := []) (q := 0) hkn
     have hbl := blq_len C i i [] 0
     rw [List.take_nil, if_neg (by simp), Nat.add_zero] at hbx
     rw [hbx] at hbg
     have his := irrL_succ C i k
     have hill := irrL_le C i k
     have htk : (ints (nats (irrL C i k))).take (irrL C i k).length = ints (nats (irrL C i k)) := List.take_of_length_le (by rw [ints_len, nats_len]; exact Nat.le_refl _)
     generalize irrL C i k = I0 at *
     refine AW.skip ?_
     refine hK9 _ _ _ ?_; clear hK9
     refine AW.seq fun K10 hK10 => ?_
     refine AW.block ?_
     refine AW.sg [1,2,3,13,14,59,60,61] [1,2,32,200] (e4 @hbg @nats_len @ints_len @hbl) ?_
     refine AW.sg [1,2,3,13,59,60,61,67] [1,2,32,200] trivial ?_
     refine AW.cn ?_ ?_
     ·intro hb
      rw [if_pos (by omega)] at his
      refine AW.regionK 0 (fun _ => none) [1, 2, 3, 59, 60, 61] [1, 2, 32, 200] ?_
      simp only [go_sem, reduceIte, reduceCtorEq, zA, zM, zE, zL, zD, zS, zP, zB, zI, zR, htk, ints_app, nats_app, nats_len, ints_len]
      repeat with_reducible refine cj ?_ ?_
      all_goals try first | omega | (simp [scP, scalar]; done) | exact scP_words _ | exact scP_ints _ | exact scP_bools _
      refine hK10 _ _ _ ?_; clear hK10
      refine AW.rg [1,2,3,59,60,61] [1,2,32,200] trivial ?_
      rw [← hQl3]; change Exists _
      refine ⟨_, ?hm, k + 1, ?_, ?_, ?_, ?_, ?_, ?_, ?_, ?_, rfl, ?henv, ?hstore, ?hst⟩
      case henv =>
       repeat' (first | rfl | apply env_cons | apply st_cons | apply int_eq | apply bool_eq | apply rsl_eq | apply osl_eq | apply sl_eq | apply ptr_eq | apply agg_eq | apply es_cons | apply row_cons)
       all_goals (first | (rw [his]; done) | (rw [his]; simp; done) | (simp; done) | omega)
      case hstore =>
       repeat' (first | rfl | apply env_cons | apply st_cons | apply int_eq | apply bool_eq | apply rsl_eq | apply osl_eq | apply sl_eq | apply ptr_eq | apply agg_eq | apply es_cons | apply row_cons)
       all_goals (rw [his])
      case hst =>
       first | trivial | omega | (simp; done) | (simp; omega)
      case hm => omega
     ·intro hb
      rw [if_neg (by omega)] at his
      refine AW.skip ?_
      refine hK10 _ _ _ ?_; clear hK10
      refine AW.rg [1,2,3,59,60,61] [1,2,32,200] trivial ?_
      rw [← hQl3]; change Exists _
      refine ⟨_, ?hm, k + 1, ?_, ?_, ?_, ?_, ?_, ?_, ?_, ?_, rfl, ?henv, ?hstore, ?hst⟩
      case henv =>
       repeat' (first | rfl | apply env_cons | apply st_cons | apply int_eq | apply bool_eq | apply rsl_eq | apply osl_eq | apply sl_eq | apply ptr_eq | apply agg_eq | apply es_cons | apply row_cons)
       all_goals (first | (rw [his]; done) | (rw [his]; simp; done) | (simp; done) | omega)
      case hstore =>
       repeat' (first | rfl | apply env_cons | apply st_cons | apply int_eq | apply bool_eq | apply rsl_eq | apply osl_eq | apply sl_eq | apply ptr_eq | apply agg_eq | apply es_cons | apply row_cons)
       all_goals (rw [his])
      case hst =>
       first | trivial | omega | (simp; done) | (simp; omega)
      case hm => omega
    ·intro hb
     have hk : k = i := by omega
     subst hk
     generalize irrL C k k = I0 at *
     have htk : (ints (nats I0)).take I0.length = ints (nats I0) := List.take_of_length_le (by rw [ints_len, nats_len]; exact Nat.le_refl _)
     refine AW.exit ?_
     rw [← hQl3]
     refine hK8 _ _ _ ?_; clear hK8
     refine AW.so 0 (fun ii => if ii = 4 then some (.reads true (.tup [.agg [.int .i64 k, .rsl 1 (words (setW b k))], .int .i64 ((0 : Nat) : Int)])) else none) [1,2,3,4,15] [1,2,15,200] (e2 @htk @hlt) ?_
     repeat with_reducible refine cj ?_ ?_
     all_goals try first | (exact hof) | omega | exact ent (by kernel_rfl)
     refine AW.seq fun K11 hK11 => ?_
     refine AW.sg [1,2,3,4,15,82] [1,2,15,200] trivial ?_
     refine AW.cn ?_ ?_
     ·intro hb
      exfalso; simp at hb
     ·intro hb
      refine AW.skip ?_
      refine hK11 _ _ _ ?_; clear hK11
      refine AW.seq fun K12 hK12 => ?_
      refine AW.so 0 (fun ii => if ii = 2 then some (.reads false (.tup [.agg [.rsl 2 (tabR (resT t I0))], .int .i64 ((0 : Nat) : Int)])) else none) [2,3,4] [2,200] trivial ?_
      repeat with_reducible refine cj ?_ ?_
      all_goals try first | (exact hrsb) | omega | exact ent (by kernel_rfl)
      refine AW.sg [2,3,4,92] [2,200] trivial ?_
      refine AW.cn ?_ ?_
      ·intro hb
       exfalso; simp at hb
      ·intro hb
       refine AW.skip ?_
       refine hK12 _ _ _ ?_; clear hK12
       refine AW.sg [2,3,4] [2,200] trivial ?_
       rw [← hQr]
       refine AW.rt trivial ?_
       refine Wk.of_eq ?_
       rw [List.take_of_length_le (by rw [nats_len]; exact Nat.le_refl _)]
end Go.Proofs.B

namespace Go.Proofs.B
open Go.AM Go
set_option maxRecDepth 100000
set_option maxHeartbeats 4000000
def exB : List (List Bool) := [[false, false], [true, false], [false, true], [true, true]]
def ex4 : List (List Bool) := [[false, true, true, true], [false, false, false, true], [false, false, false, true], [false, false, false, false]]
def exPs : List (Int × Int) := [(0, 1), (0, 2), (0, 3), (0, 4), (1, 4), (2, 4), (3, 4)]
def exM : List (List Bool) := [[false, true, true, true, true], [false, false, false, false, true], [false, false, false, false, true], [false, false, false, false, true], [false, false, false, false, false]]
theorem exB_all : allU (invT 2 (zeroT 2)) 2 = exB := by decide +kernel
theorem exB_incl : inclT exB = ex4 := by decide +kernel
theorem zero2_po : poB 2 (zeroT 2) = true := by decide +kernel
theorem ex4_sq : Sq 4 ex4 := ⟨rfl, by decide⟩
theorem ex4_po : poB 4 ex4 = true := by decide +kernel
theorem ex4_lat : latB ex4 4 = true := by decide +kernel
theorem ex4_irr : irrL (covT 4 ex4) 4 4 = [1, 2] := by decide +kernel
theorem exM_sq : Sq 5 exM := ⟨rfl, by decide⟩
theorem exM_put : putL (zeroT 5) exPs = exM := by decide +kernel
theorem exM_po : poB 5 exM = true := by decide +kernel
theorem exM_all : ((List.range 5).all fun i => noneT (jnT exM 5) i && noneT (mtT exM 5) i) = true := by decide +kernel
theorem exM_dis : disP (jnT exM 5) (mtT exM 5) 5 1 2 3 := ⟨by decide +kernel, by decide +kernel, by decide +kernel⟩
theorem exM_no : dsP (jnT exM 5) (mtT exM 5) 1 2 3 = false := by decide +kernel
theorem exM_J : TabOk (jnT exM 5) 5 := tabOk_of (upR_len ..) fun i hi => by
 have := List.all_eq_true.1 exM_all i (List.mem_range.2 hi)
 rw [Bool.and_eq_true] at this
 exact this.1
theorem exM_M : TabOk (mtT exM 5) 5 := tabOk_of (upR_len ..) fun i hi => by
 have := List.all_eq_true.1 exM_all i (List.mem_range.2 hi)
 rw [Bool.and_eq_true] at this
 exact this.2
theorem awake_r : Reads Tryz.prog 9 false [] (.bool true) := by
 have hm2 := (make_g 2 [] (by decide) (by decide) (by simp)).wk (args := [.int .i64 ((2 : Nat) : Int), .nilsl]) (.cons (Wk.refl _) (.cons (Wk.nil 2) .nil)) (Wk.refl _)
 rw [show putL (zeroT 2) [] = zeroT 2 from rfl] at hm2
 have hl2 := list_ok 2 (zeroT 2) (Sq.rep 2) (by decide) zero2_po (by rw [exB_all]; decide)
 rw [exB_all] at hl2
 have hid := ideals_g 2 _ (by decide) exB (by decide) (by decide) (countI_ok _ _ _ hl2) hl2
 rw [exB_incl] at hid
 have hir := irr_g 4 ex4 ex4_sq (by decide) ex4_po ex4_lat
 rw [ex4_irr] at hir
 have hm5 := make_g 5 exPs (by decide) (by decide) (by unfold inP; decide)
 rw [exM_put] at hm5
 have htb := tables_g 5 exM exM_sq (by decide) exM_po (by decide)
 rw [show tabV exM 5 = .tup [.agg [.rsl 1 (lisR (jnT exM 5)), .rsl 1 (lisR (mtT exM 5))], .bool true] from if_pos exM_all] at htb
 have hds := dist_ok 5 exM exM_sq _ _ exM_J exM_M (by decide) _ (.inr ⟨1, 2, 3, by decide, by decide, by decide, exM_dis, exM_no, rfl⟩) htb
 have heq := Reads.flat (eqi_refl [1, 2] (by decide)) rfl
 have hBl : (tabR exB).length = 4 := rfl
 have hps : exPs.map pairV = [[.int .i64 0, .int .i64 1], [.int .i64 0, .int .i64 2], [.int .i64 0, .int .i64 3], [.int .i64 0, .int .i64 4], [.int .i64 1, .int .i64 4], [.int .i64 2, .int .i64 4], [.int .i64 3, .int .i64 4]] := rfl
 rw [hps] at hm5
 generalize tabR exB = R4 at *
 generalize resT ex4 [1, 2] = Q4 at *
 unfold relB at *
 generalize tabR ex4 = T4 at *
 generalize tabR exM = T5 at *
 generalize tabR (zeroT 2) = T2 at *
 generalize tabR Q4 = U4 at *
 simp only [ints, nats, List.map_cons, List.map_nil] at hir heq
 refine Reads.body (rs := [.tmp 0]) Tryz.func9 rfl Tryz.ntmps9 rfl (by simp) ?_
 generalize hQr : retQ _ _ _ = Qr
 refine AW.sg [] [] trivial ?_
 refine AW.so 0 (fun ii => if ii = 0 then some (.reads false (.tup [.agg [.rsl 2 T2], .int .i64 ((0 : Nat) : Int)])) else none) [1,2] [1] trivial ?_
 repeat with_reducible refine cj ?_ ?_
 all_goals try first | (exact hm2) | omega | exact ent (by kernel_rfl)
 refine AW.so 0 (fun ii => if ii = 1 then some (.reads false (.tup [.agg [.rsl 2 T4], .rsl 2 R4, .int .i64 0])) else none) [2,3,4,5] [3] trivial ?_
 repeat with_reducible refine cj ?_ ?_
 all_goals try first | (exact hid) | omega | exact ent (by kernel_rfl)
 refine AW.so 0 (fun ii => if ii = 1 then some (.reads false (.tup [.agg [.rsl 2 U4], .rsl 1 [[.int .i64 ((1 : Nat) : Int)], [.int .i64 ((2 : Nat) : Int)]], .int .i64 0])) else none) [2,4,5,7,8] [] trivial ?_
 repeat with_reducible refine cj ?_ ?_
 all_goals try first | (exact hir) | omega | exact ent (by kernel_rfl)
 refine AW.seq fun K1 hK1 => ?_
 refine AW.regionG 0 (fun ii => if ii = 8 then some (.reads false (.tup [.agg [.rsl 2 T5], .int .i64 ((0 : Nat) : Int)])) else none) (fun ii => if ii = 8 then some ([38], [38]) else none) [2, 4, 5, 7, 8, 9, 10] [9] ?_
 simp only [go_sem, reduceIte, reduceCtorEq, zA, zM, zE, zL, zD, zS, zP, zB, zI, zR]
 repeat with_reducible refine cj ?_ ?_
 all_goals try first | (exact hm5) | omega | exact ent (by kernel_rfl)
 refine hK1 _ _ _ ?_; clear hK1
 refine AW.so 0 (fun ii => if ii = 1 then some (.reads false (.tup [.bool false, .agg [.int .i64 ((1 : Nat) : Int), .int .i64 ((2 : Nat) : Int), .int .i64 ((3 : Nat) : Int)], .int .i64 0])) else none) [2,4,5,7,8,10,11,12,13] [12] trivial ?_
 repeat with_reducible refine cj ?_ ?_
 all_goals try first | (exact hds) | omega | exact ent (by kernel_rfl)
 refine AW.so 0 (fun ii => if ii = 18 then some (.upd [65] (fun _ => []) (fun _ => .bool true)) else none) [0] [] (@hBl) ?_
 repeat with_reducible refine cj ?_ ?_
 all_goals try first | (exact heq.upd rfl) | (intros; (repeat' apply And.intro) <;> first | assumption | (exact heq.upd rfl)) | omega | exact ent (by kernel_rfl) | (intro hgd; exact absurd hgd (by decide)) | rfl | (simp only [go_sem, reduceIte, reduceCtorEq, zA, zM, zE, zL, zD, zS, zP, zB, zI, zR, hBl]; done) | (intro _hgd; simp_all [go_sem]; done)
 rw [← hQr]
 refine AW.rt trivial ?_
 exact Wk.of_eq (by simp)
end Go.Proofs.B

namespace Go.Proofs.B
open Go.AM Go
set_option maxRecDepth 100000
set_option maxHeartbeats 4000000
theorem formed_a (N n : Int) (W : List Int) (hl : W.length ≤ 9223372036854775807) (hn0 : 0 ≤ n) (hn1 : n ≤ 512) (hm : n.tmod 64 = 0) : Reads Tryz.prog 57 false [.agg [.int .i64 N, .rsl 1 (words W)], .int .i64 n] (.bool (decide (N = n) && validS n W)) := by
 have hwe := wordsN_ref n
 have hwn := wordsN_rng (n := n) hn0
 have hdiv : 0 ≤ n.tdiv 64 ∧ n.tdiv 64 ≤ 512 ∧ n.tdiv 64 = wordsN n := by rw [← hwe]; rw [Int.tmod_eq_emod_of_nonneg hn0] at hm; rw [Int.tdiv_eq_ediv_of_nonneg (by omega), Int.tdiv_eq_ediv_of_nonneg (by omega)]; omega
 refine Reads.body (rs := [.tmp 4]) Tryz.func57 rfl Tryz.ntmps57 rfl (by simp) ?_
 generalize hQr : retQ _ _ _ = Qr
 refine AW.sg [1,2] [2] trivial ?_
 refine AW.seq fun K1 hK1 => ?_
 refine AW.sg [1,2,17] [2] (@hwe) ?_
 repeat with_reducible refine cj ?_ ?_
 all_goals try first | omega | (intros; (repeat' apply And.intro) <;> first | assumption | omega | decide) | (intro hgd; exact absurd hgd (by decide)) | rfl | (simp only [go_sem, reduceIte, reduceCtorEq, zA, zM, zE, zL, zD, zS, zP, zB, zI, zR, hwe]; done) | (intro _hgd; simp_all [go_sem]; done)
 refine AW.cn ?_ ?_
 ·intro hb
  refine AW.sg [4] [] trivial ?_
  rw [← hQr]
  refine AW.rt trivial ?_
  exact Wk.of_eq (by congr 1; symm; simp [validS]; intros; omega)
 ·intro hb
  have hlen : (W.length : Int) = wordsN n := by omega
  have hNn : N = n := by omega
  have hgw : (words W).getD (n.tdiv 64).toNat [] = [] := by rw [List.getD_eq_getElem?_getD, List.getElem?_eq_none (by rw [words_len]; omega)]; rfl
  refine AW.skip ?_
  refine hK1 _ _ _ ?_; clear hK1
  refine AW.sg [4] [] (e2 @hgw @hm) ?_
  repeat with_reducible refine cj ?_ ?_
  all_goals try first | ((intro hh; (repeat' apply And.intro) <;> first | exact hh | omega | (exfalso; simp at hh; done))) | (intros; (repeat' apply And.intro) <;> first | assumption | ((intro hh; (repeat' apply And.intro) <;> first | exact hh | omega | (exfalso; simp at hh; done)))) | omega | (intro hgd; exact absurd hgd (by decide)) | rfl | (simp only [go_sem, reduceIte, reduceCtorEq, zA, zM, zE, zL, zD, zS, zP, zB, zI, zR, hgw, hm]; done) | (intro _hgd; simp_all [go_sem]; done)
  rw [← hQr]
  refine AW.rt trivial ?_
  exact Wk.of_eq (by simp [validS, topB, hm, hNn, hlen, hn0, hn1])
theorem formed_b (N n : Int) (W : List Int) (hl : W.length ≤ 9223372036854775807) (hn0 : 0 ≤ n) (hn1 : n ≤ 512) (hm : n.tmod 64 ≠ 0) : Reads Tryz.prog 57 false [.agg [.int .i64 N, .rsl 1 (words W)], .int .i64 n] (.bool (decide (N = n) && validS n W)) := by
 have hwe := wordsN_ref n
 have hwn := wordsN_rng (n := n) hn0
 have hmod : 0 ≤ n.tmod 64 ∧ n.tmod 64 < 64 := by rw [Int.tmod_eq_emod_of_nonneg (by omega)]; omega
 have hnz : n ≠ 0 := by rintro rfl; exact hm rfl
 have hwr : IntKind.u64.wrap (n.tmod 64) = n.tmod 64 := by simp [IntKind.wrap, IntKind.signed, IntKind.bits]; omega
 refine Reads.body (rs := [.tmp 4]) Tryz.func57 rfl Tryz.ntmps57 rfl (by simp) ?_
 generalize hQr : retQ _ _ _ = Qr
 refine AW.sg [1,2] [2] trivial ?_
 refine AW.seq fun K1 hK1 => ?_
 refine AW.sg [1,2,17] [2] (@hwe) ?_
 repeat with_reducible refine cj ?_ ?_
 all_goals try first | omega | (intros; (repeat' apply And.intro) <;> first | assumption | omega | decide) | (intro hgd; exact absurd hgd (by decide)) | rfl | (simp only [go_sem, reduceIte, reduceCtorEq, zA, zM, zE, zL, zD, zS, zP, zB, zI, zR, hwe]; done) | (intro _hgd; simp_all [go_sem]; done)
 refine AW.cn ?_ ?_
 ·intro hb
  refine AW.sg [4] [] trivial ?_
  rw [← hQr]
  refine AW.rt trivial ?_
  exact Wk.of_eq (by congr 1; symm; simp [validS]; intros; omega)
 ·intro hb
  have hlen : (W.length : Int) = wordsN n := by omega
  have hNn : N = n := by omega
  obtain ⟨hti, htl⟩ := top_ix hn0 hlen hm
  have hdiv : 0 ≤ n.tdiv 64 ∧ n.tdiv 64 ≤ 512 := by rw [Int.tdiv_eq_ediv_of_nonneg (by omega)]; omega
  have hgw : (words W).getD (n.tdiv 64).toNat [] = [.int .u64 (W.getD (W.length - 1) 0)] := by rw [← hti]; exact words_getD (by omega)
  refine AW.skip ?_
  refine hK1 _ _ _ ?_; clear hK1
  refine AW.sg [4] [] (e2 @hgw @hwr) ?_
  repeat with_reducible refine cj ?_ ?_
  all_goals try first | ((intro hh; (repeat' apply And.intro) <;> first | exact hh | omega)) | (intros; (repeat' apply And.intro) <;> first | assumption | ((intro hh; (repeat' apply And.intro) <;> first | exact hh | omega))) | omega | (intro hgd; exact absurd hgd (by decide)) | rfl | (simp only [go_sem, reduceIte, reduceCtorEq, zA, zM, zE, zL, zD, zS, zP, zB, zI, zR, hgw, hwr]; done) | (intro _hgd; simp_all [go_sem]; done)
  rw [← hQr]
  refine AW.rt trivial ?_
  exact Wk.of_eq (by simp [validS, topB, hm, hNn, hlen, hn0, hn1])
theorem formed_r (N n : Int) (W : List Int) (hl : W.length ≤ 9223372036854775807) (hn0 : 0 ≤ n) (hn1 : n ≤ 512) : Reads Tryz.prog 57 false [.agg [.int .i64 N, .rsl 1 (words W)], .int .i64 n] (.bool (decide (N = n) && validS n W)) := by
 by_cases hm : n.tmod 64 = 0
 ·exact formed_a N n W hl hn0 hn1 hm
 ·exact formed_b N n W hl hn0 hn1 hm
theorem rrvalid_r (rs : List USet) (hl : rs.length ≤ 9223372036854775807) (hx : ∀ x ∈ rs, x.W.length ≤ 9223372036854775807) : Reads Tryz.prog 16 false [relV rs] (.bool (validR rs)) := by
 have hf := fun x hxm h => formed_r x.N (rs.length : Nat) x.W (hx x hxm) (by omega) h
 have hvg := validR_good rs
 unfold relV
 refine Reads.body (rs := [.tmp 2]) Tryz.func16 rfl Tryz.ntmps16 rfl (by simp) ?_
 generalize hQr : retQ _ _ _ = Qr
 refine AW.sg [1] [1] trivial ?_
 refine AW.sg [1,3] [1] trivial ?_
 refine AW.seq fun K1 hK1 => ?_
 refine AW.sg [1,3,9] [1] trivial ?_
 refine AW.cn ?_ ?_
 ·intro hb
  refine AW.sg [2] [] trivial ?_
  rw [← hQr]
  refine AW.rt trivial ?_
  have hn : ¬ rs.length ≤ 512 := by omega
  exact Wk.of_eq (by rw [hvg]; simp [hn])
 ·intro hb
  have h512 : rs.length ≤ 512 := by omega
  refine AW.skip ?_
  refine hK1 _ _ _ ?_; clear hK1
  refine AW.seq fun K2 hK2 => ?_
  refine AW.sg [1,3,4] [1] trivial ?_
  refine AW.block ?_
  refine AW.loopE (fun mm ee ss kk => ∃ (j g v : Nat), rs.length - j = mm ∧ ee = [(1, .ptr ⟨1, g, none⟩ 0 0), (3, .int .i64 rs.length), (4, .int .i64 (j : Nat))] ∧ ss = [(1, some ⟨g, v, 1, [[.rsl 2 (rs.map rowV)]]⟩)] ∧ (j ≤ rs.length ∧ (rs.take j).all (goodRow rs.length) = true)) ?_ ?_
  ·exact ⟨_, 0, _, _, rfl, eD, eD, (⟨Nat.zero_le _, rfl⟩)⟩
  rintro mm ee ss kk ⟨j, g, v, rfl, rfl, rfl, hI⟩
  generalize hQl1 : thenQ _ _ = Ql1
  obtain ⟨hj, hall⟩ := hI
  refine AW.seq fun K3 hK3 => ?_
  refine AW.sg [1,3,4,12] [1] trivial ?_
  refine AW.cn ?_ ?_
  ·intro hb
   obtain ⟨x, hx2⟩ := getI (l := rs) (j := j) (by omega)
   have hgx := getV (f := rowV) hx2
   have hats := all_take_succ (p := goodRow rs.length) hx2
   have hfx := hf x (List.mem_of_getElem? hx2) (by omega)
   refine AW.skip ?_
   refine hK3 _ _ _ ?_; clear hK3
   refine AW.seq fun K4 hK4 => ?_
   refine AW.block ?_
   refine AW.so 0 (fun ii => if ii = 6 then some (.reads false (.bool (goodRow rs.length x))) else none) [1,3,4,22] [1] (e2 @hgx @rowV.eq_1) ?_
   repeat with_reducible refine cj ?_ ?_
   all_goals try first | (exact hfx) | omega | exact ent (by kernel_rfl)
   refine AW.cn ?_ ?_
   ·intro hb
    refine AW.sg [2] [] trivial ?_
    rw [← hQl1, ← hQr]
    refine AW.rt trivial ?_
    exact Wk.of_eq (by rw [hvg, all_false_of hx2 hb]; simp)
   ·intro hb
    refine AW.skip ?_
    refine hK4 _ _ _ ?_; clear hK4
    refine AW.rg [1,3,4] [1] trivial ?_
    rw [← hQl1]; change Exists _
    exact ⟨_, eO, j + 1, _, _, rfl, eD, eD, (⟨by omega, by rw [hats, hall, hb]; rfl⟩)⟩
  ·intro hb
   refine AW.kx [] [] ?_
   rw [← hQl1]
   refine hK2 _ _ _ ?_; clear hK2
   refine AW.sg [2] [] trivial ?_
   rw [← hQr]
   refine AW.rt trivial ?_
   exact Wk.of_eq (by rw [List.take_of_length_le (by omega)] at hall; rw [hvg, hall]; simp [h512])
theorem table_r (n : Nat) (t : List (List Bool)) (hs : Sq n t) (hn : n ≤ 512) : Reads Tryz.prog 22 true [relB t] (.rsl 1 (rowsR t)) := by
 have hlen := hs.len
 have hrl := tabR_len t
 have hwn := wordsN_rng (n := (n : Int)) (by omega)
 unfold relB
 refine Reads.bodyF (rs := [.tmp 2]) Tryz.func22 rfl Tryz.ntmps22 rfl (by simp) ?_
 generalize hQr : retQ _ _ _ = Qr
 refine AW.sg [1] [1] (e2 @hrl @hlen) ?_
 refine AW.sg [1,3] [1] (e2 @hrl @hlen) ?_
 refine AW.sg [1,3,4] [1] (e2 @hrl @hlen) ?_
 refine AW.seq fun K1 hK1 => ?_
 refine AW.sg [1,3,4,5] [1] (e2 @hrl @hlen) ?_
 refine AW.block ?_
 refine AW.nilOwn 4 200 1 (by simp only [go_sem, reduceIte, zE]) ?_
 refine AW.keep [1, 3, 4, 5] [1, 200] ?_
 simp only [go_sem, reduceIte, zE]
 refine AW.loopE (fun mm ee ss kk => ∃ (i g1 v1 g v : Nat), n - i = mm ∧ ee = [(1, .ptr ⟨1, g1, none⟩ 0 0), (3, .int .i64 n), (4, .sl ⟨200, g, none⟩ 0 i none), (5, .int .i64 (i : Nat))] ∧ ss = [(1, some ⟨g1, v1, 1, [[.rsl 2 (tabR t)]]⟩), (200, some ⟨g, v, 1, rowsO (t.take i)⟩)] ∧ (i ≤ n)) ?_ ?_
 ·exact ⟨_, 0, _, _, _, _, rfl, eD, eD, eT⟩
 rintro mm ee ss kk ⟨i, g1, v1, g, v, rfl, rfl, rfl, hI⟩
 generalize hQl1 : thenQ _ _ = Ql1
 refine AW.seq fun K2 hK2 => ?_
 refine AW.sg [1,3,4,5,13] [1,200] (e2 @hrl @hlen) ?_
 refine AW.cn ?_ ?_
 ·intro hb
  have hgr := tabR_get (t := t) (i := i) (by omega)
  have hrw := hs.rowLen (i := i) (by omega)
  have hti := take_succT (t := t) (i := i) (by omega)
  have htl : (rowsO (t.take i)).length = i := by rw [rowsO_len]; simp; omega
  have htk : (rowsO (t.take i)).take i = rowsO (t.take i) := List.take_of_length_le (by omega)
  generalize hb' : rowT t i = b at *
  have hap := rowsO_app (t.take i) b
  have hgl := fun x => app_get (rowsO (t.take i)) x htl
  have hsl := fun x y => app_set (rowsO (t.take i)) x y htl
  have hll := fun x => app_len (rowsO (t.take i)) x htl
  have hwl := setW_len' b
  rw [hrw] at hwl
  refine AW.skip ?_
  refine hK2 _ _ _ ?_; clear hK2
  refine AW.seq fun K3 hK3 => ?_
  refine AW.block ?_
  refine AW.sg [1,3,4,5,6] [1,17,200] (e2 @hrl @hlen) ?_
  refine AW.seq fun K4 hK4 => ?_
  refine AW.sg [1,3,4,5,6,7] [1,17,200] (e2 @hrl @hlen) ?_
  refine AW.block ?_
  refine AW.loopE (fun mm ee ss kk => ∃ (j g1 v1 g17 v17 g v : Nat), n - j = mm ∧ ee = [(1, .ptr ⟨1, g1, none⟩ 0 0), (3, .int .i64 n), (4, .sl ⟨200, g, none⟩ 0 i none), (5, .int .i64 (i : Nat)), (6, .sl ⟨17, g17, none⟩ 0 n none), (7, .int .i64 (j : Nat))] ∧ ss = [(1, some ⟨g1, v1, 1, [[.rsl 2 (tabR t)]]⟩), (17, some ⟨g17, v17, 1, bools (fillB b n j)⟩), (200, some ⟨g, v, 1, rowsO (t.take i)⟩)] ∧ (j ≤ n)) ?_ ?_
  ·refine ⟨_, 0, ?_, ?_, ?_, ?_, ?_, ?_, rfl, ?henv, ?hstore, ?hst⟩
   case henv =>
    repeat' (first | rfl | apply env_cons | apply st_cons | apply int_eq | apply bool_eq | apply rsl_eq | apply osl_eq | apply sl_eq | apply ptr_eq | apply agg_eq | apply es_cons | apply row_cons)
    all_goals (first | (simp; done) | omega | (simp; omega))
   case hstore =>
    repeat' (first | rfl | apply env_cons | apply st_cons | apply int_eq | apply bool_eq | apply rsl_eq | apply osl_eq | apply sl_eq | apply ptr_eq | apply agg_eq | apply es_cons | apply row_cons)
    all_goals (rw [fillB_zero]; simp [bools])
   case hst =>
    first | trivial | omega | (simp; done) | (simp; omega)
  rintro mm ee ss kk ⟨j, g1, v1, g17, v17, g, v, rfl, rfl, rfl, hI⟩
  generalize hQl2 : thenQ _ _ = Ql2
  refine AW.seq fun K5 hK5 => ?_
  refine AW.sg [1,3,4,5,6,7,20] [1,17,200] (e2 @hrl @hlen) ?_
  refine AW.cn ?_ ?_
  ·intro hb
   have hd := div64_rng (i := (j : Int)) (n := n) (by omega) (by omega)
   have hgw := words_getD (l := setW b n) (i := ((j : Int).tdiv 64).toNat) (by omega)
   have hwr : IntKind.u64.wrap ((j : Int).tmod 64) = (j : Int).tmod 64 := by simp [IntKind.wrap, IntKind.signed, IntKind.bits]; omega
   have hhw := hasW_row (b := b) (j := j) (by omega)
   unfold hasW at hhw
   rw [hrw] at hhw
   have hfs := fillB_succ hrw (i := j) (by omega)
   have hfl := fillB_len hrw (i := j) (by omega)
   refine AW.skip ?_
   refine hK5 _ _ _ ?_; clear hK5
   refine AW.seq fun K6 hK6 => ?_
   refine AW.block ?_
   refine AW.rg [1,3,4,5,6,7] [1,17,200] (e5 @hrl @hlen @hgr @rowB.eq_1 (e5 @hrw @hgw @hwr @hhw @hfl)) ?_
   refine hK6 _ _ _ ?_; clear hK6
   refine AW.rg [1,3,4,5,6,7] [1,17,200] (e2 @hrl @hlen) ?_
   rw [← hQl2]; change Exists _
   refine ⟨_, ?hm, j + 1, ?_, ?_, ?_, ?_, ?_, ?_, rfl, ?henv, ?hstore, ?hst⟩
   case henv =>
    repeat' (first | rfl | apply env_cons | apply st_cons | apply int_eq | apply bool_eq | apply rsl_eq | apply osl_eq | apply sl_eq | apply ptr_eq | apply agg_eq | apply es_cons | apply row_cons)
    all_goals (first | (simp; done) | omega | (simp; omega))
   case hstore =>
    repeat' (first | rfl | apply env_cons | apply st_cons | apply int_eq | apply bool_eq | apply rsl_eq | apply osl_eq | apply sl_eq | apply ptr_eq | apply agg_eq | apply es_cons | apply row_cons)
    all_goals (rw [← hfs])
   case hst =>
    first | trivial | omega | (simp; done) | (simp; omega)
   case hm => omega
  ·intro hb
   have hj : j = n := by omega
   subst hj
   rw [fillB_all hrw]
   refine AW.exit ?_
   rw [← hQl2]
   refine hK4 _ _ _ ?_; clear hK4
   refine AW.regionK 0 (fun _ => none) [1, 3, 4, 5] [1, 17, 200] ?_
   simp only [go_sem, reduceIte, reduceCtorEq, zA, zM, zE, zL, zD, zS, zP, zB, zI, zR, hrl, hlen, htk, htl]
   repeat with_reducible refine cj ?_ ?_
   all_goals try first | omega | (simp [scP, scalar]; done) | exact scP_words _ | exact scP_ints _ | exact scP_bools _
   refine hK3 _ _ _ ?_; clear hK3
   refine AW.adoptK 200 i 0 17 ?_
   simp only [go_sem, reduceIte, zE, hgl, hsl, hll]
   repeat refine cj ?_ ?_
   any_goals first | exact noOsl_bools _ | decide | (rw [hrw]; done) | omega
   refine AW.keep [1, 3, 4, 5] [1, 200] ?_
   simp only [go_sem, reduceIte, zE, hap]
   refine AW.rg [1,3,4,5] [1,200] (e2 @hrl @hlen) ?_
   rw [← hQl1]; change Exists _
   refine ⟨_, ?hm, i + 1, ?_, ?_, ?_, ?_, rfl, ?henv, ?hstore, ?hst⟩
   case henv =>
    repeat' (first | rfl | apply env_cons | apply st_cons | apply int_eq | apply bool_eq | apply rsl_eq | apply osl_eq | apply sl_eq | apply ptr_eq | apply agg_eq | apply es_cons | apply row_cons)
    all_goals (first | (simp; done) | omega | (simp; omega))
   case hstore =>
    repeat' (first | rfl | apply env_cons | apply st_cons | apply int_eq | apply bool_eq | apply rsl_eq | apply osl_eq | apply sl_eq | apply ptr_eq | apply agg_eq | apply es_cons | apply row_cons)
    all_goals (rw [hti])
   case hst =>
    first | trivial | omega | (simp; done) | (simp; omega)
   case hm => omega
 ·intro hb
  refine AW.exit ?_
  rw [← hQl1]
  refine hK1 _ _ _ ?_; clear hK1
  refine AW.sg [2] [200] (e2 @hrl @hlen) ?_
  rw [← hQr]
  refine AW.rt (e2 @hrl @hlen) ?_
  have hi : i = n := by omega
  subst hi
  rw [List.take_of_length_le (by omega : t.length ≤ i), List.take_of_length_le (by rw [rowsO_len]; omega), vwcF_rowsO]
  exact Wk.refl _
theorem rval_e (rs : List USet) (hl : longR rs) (hv : validR rs = false) : Reads Tryz.prog 49 false [relV rs] (.bool false) := by
 have h := rrvalid_r rs hl.1 hl.2
 rw [hv] at h
 unfold relV at *
 refine Reads.body (rs := [.tmp 2]) Tryz.func49 rfl Tryz.ntmps49 rfl (by simp) ?_
 generalize hQr : retQ _ _ _ = Qr
 refine AW.sg [1] [1] trivial ?_
 refine AW.seq fun K1 hK1 => ?_
 refine AW.so 0 (fun ii => if ii = 1 then some (.reads false (.bool false)) else none) [1,9] [1] trivial ?_
 repeat with_reducible refine cj ?_ ?_
 all_goals try first | (exact h) | omega | exact ent (by kernel_rfl)
 refine AW.cn ?_ ?_
 ·intro hb
  refine AW.sg [2] [] trivial ?_
  rw [← hQr]
  refine AW.rt trivial ?_
  exact Wk.refl _
 ·intro hb
  exfalso; simp at hb
theorem rval_g (n : Nat) (t : List (List Bool)) (hs : Sq n t) (hn : n ≤ 512) : Reads Tryz.prog 49 false [relB t] (.bool (poB n t)) := by
 have hlen := hs.len
 have hlm : (t.map SB).length = n := by simp [hlen]
 have hW : ∀ x ∈ t.map SB, x.W.length ≤ 9223372036854775807 := fun x hx => by
  obtain ⟨b, hb, rfl⟩ := List.mem_map.1 hx
  have := setB_len (b := b) (by rw [hs.row b hb]; exact hn)
  simp only [SB]; omega
 have h := rrvalid_r (t.map SB) (by omega) hW
 rw [valid_tab hs hn, ← relB_SB] at h
 have ht := (table_r n t hs hn).old
 have hrl := rowsR_len t
 have hpo := poB_iff hs
 unfold relB at *
 refine Reads.body (rs := [.tmp 2]) Tryz.func49 rfl Tryz.ntmps49 rfl (by simp) ?_
 generalize hQr : retQ _ _ _ = Qr
 refine AW.sg [1] [1] (e3 @hrl @hlen @bools_len) ?_
 refine AW.seq fun K1 hK1 => ?_
 refine AW.so 0 (fun ii => if ii = 1 then some (.reads false (.bool true)) else none) [1,9] [1] (e3 @hrl @hlen @bools_len) ?_
 repeat with_reducible refine cj ?_ ?_
 all_goals try first | (exact h) | omega | exact ent (by kernel_rfl)
 refine AW.cn ?_ ?_
 ·intro hb
  exfalso; simp at hb
 ·intro hb
  refine AW.skip ?_
  refine hK1 _ _ _ ?_; clear hK1
  refine AW.so 0 (fun ii => if ii = 1 then some (.reads false (.rsl 1 (rowsR t))) else none) [3] [] (e3 @hrl @hlen @bools_len) ?_
  repeat with_reducible refine cj ?_ ?_
  all_goals try first | (exact ht) | omega | exact ent (by kernel_rfl)
  refine AW.seq fun K2 hK2 => ?_
  refine AW.sg [3,4] [] (e3 @hrl @hlen @bools_len) ?_
  refine AW.block ?_
  refine AW.loopE (fun mm ee ss kk => ∃ (i : Nat), n - i = mm ∧ ee = [(3, .rsl 1 (rowsR t)), (4, .int .i64 (i : Nat))] ∧ ss = [] ∧ (i ≤ n ∧ ∀ a, a < i → atT t a a = false ∧ ∀ b c, b < n → c < n → atT t a b = true → atT t b c = true → atT t a c = true)) ?_ ?_
  ·exact ⟨_, 0, rfl, eD, eD, (⟨by omega, fun a ha => by omega⟩)⟩
  rintro mm ee ss kk ⟨i, rfl, rfl, rfl, hI⟩
  generalize hQl1 : thenQ _ _ = Ql1
  obtain ⟨hi, hal⟩ := hI
  refine AW.seq fun K3 hK3 => ?_
  refine AW.sg [3,4,15] [] (e3 @hrl @hlen @bools_len) ?_
  refine AW.cn ?_ ?_
  ·intro hb
   have hgi := rowsR_get (t := t) (i := i) (by omega)
   have hri := hs.rowLen (i := i) (by omega)
   have hgii := bools_getD (l := rowT t i) (i := i) (by omega)
   have hat : atT t i i = (rowT t i).getD i false := rfl
   rw [← hat] at hgii
   refine AW.skip ?_
   refine hK3 _ _ _ ?_; clear hK3
   refine AW.seq fun K4 hK4 => ?_
   refine AW.block ?_
   refine AW.seq fun K5 hK5 => ?_
   refine AW.sg [3,4,24] [] (e2 @hrl (e5 @hlen @bools_len @hgi @hri @hgii)) ?_
   refine AW.cn ?_ ?_
   ·intro hb
    refine AW.sg [2] [] (e3 @hrl @hlen @bools_len) ?_
    rw [← hQl1, ← hQr]
    refine AW.rt (e3 @hrl @hlen @bools_len) ?_
    have hf : poB n t = false := by
     cases e : poB n t with
     | false => rfl
     | true => have := (hpo.1 e).irr i (by omega); rw [hb] at this; cases this
    exact Wk.of_eq (by rw [hf])
   ·intro hb
    have hir : atT t i i = false := by simpa using hb
    clear hb
    refine AW.skip ?_
    refine hK5 _ _ _ ?_; clear hK5
    refine AW.sg [3,4,5] [] (e3 @hrl @hlen @bools_len) ?_
    refine AW.block ?_
    refine AW.loopE (fun mm ee ss kk => ∃ (j : Nat), n - j = mm ∧ ee = [(3, .rsl 1 (rowsR t)), (4, .int .i64 (i : Nat)), (5, .int .i64 (j : Nat))] ∧ ss = [] ∧ (j ≤ n ∧ ∀ b c, b < j → c < n → atT t i b = true → atT t b c = true → atT t i c = true)) ?_ ?_
    ·exact ⟨_, 0, rfl, eD, eD, (⟨by omega, fun b c hb => by omega⟩)⟩
    rintro mm ee ss kk ⟨j, rfl, rfl, rfl, hI⟩
    generalize hQl2 : thenQ _ _ = Ql2
    obtain ⟨hj, hal2⟩ := hI
    refine AW.seq fun K6 hK6 => ?_
    refine AW.sg [3,4,5,28] [] (e3 @hrl @hlen @bools_len) ?_
    refine AW.cn ?_ ?_
    ·intro hb
     have hgj := rowsR_get (t := t) (i := j) (by omega)
     have hrj := hs.rowLen (i := j) (by omega)
     have hgij := bools_getD (l := rowT t i) (i := j) (by omega)
     have hatij : atT t i j = (rowT t i).getD j false := rfl
     rw [← hatij] at hgij
     refine AW.skip ?_
     refine hK6 _ _ _ ?_; clear hK6
     refine AW.seq fun K7 hK7 => ?_
     refine AW.block ?_
     refine AW.sg [3,4,5,6] [] (e3 @hrl @hlen @bools_len) ?_
     refine AW.block ?_
     refine AW.loopE (fun mm ee ss kk => ∃ (k : Nat), n - k = mm ∧ ee = [(3, .rsl 1 (rowsR t)), (4, .int .i64 (i : Nat)), (5, .int .i64 (j : Nat)), (6, .int .i64 (k : Nat))] ∧ ss = [] ∧ (k ≤ n ∧ ∀ c, c < k → atT t i j = true → atT t j c = true → atT t i c = true)) ?_ ?_
     ·exact ⟨_, 0, rfl, eD, eD, (⟨by omega, fun c hc => by omega⟩)⟩
     rintro mm ee ss kk ⟨k, rfl, rfl, rfl, hI⟩
     generalize hQl3 : thenQ _ _ = Ql3
     obtain ⟨hk, hal3⟩ := hI
     refine AW.seq fun K8 hK8 => ?_
     refine AW.sg [3,4,5,6,34] [] (e3 @hrl @hlen @bools_len) ?_
     refine AW.cn ?_ ?_
     ·intro hb
      have hgjk := bools_getD (l := rowT t j) (i := k) (by omega)
      have hgik := bools_getD (l := rowT t i) (i := k) (by omega)
      have hatjk : atT t j k = (rowT t j).getD k false := rfl
      have hatik : atT t i k = (rowT t i).getD k false := rfl
      rw [← hatjk] at hgjk
      rw [← hatik] at hgik
      refine AW.skip ?_
      refine hK8 _ _ _ ?_; clear hK8
      refine AW.seq fun K9 hK9 => ?_
      refine AW.block ?_
      refine AW.sg [3,4,5,6,62] [] (e2 @hrl (e5 @hlen @bools_len @hgi @hri (e5 @hgj @hrj @hgij @hgjk @hgik))) ?_
      repeat with_reducible refine cj ?_ ?_
      all_goals try first | ((intro hh; (repeat' apply And.intro) <;> first | exact hh | omega)) | (intros; (repeat' apply And.intro) <;> first | assumption | ((intro hh; (repeat' apply And.intro) <;> first | exact hh | omega))) | omega | (intro hgd; exact absurd hgd (by decide)) | rfl | (simp only [go_sem, reduceIte, reduceCtorEq, zA, zM, zE, zL, zD, zS, zP, zB, zI, zR, hrl, hlen, bools_len, hgi, hri, hgj, hrj, hgij, hgjk, hgik]; done) | (intro _hgd; simp_all [go_sem]; done)
      refine AW.cn ?_ ?_
      ·intro hb
       refine AW.sg [2] [] (e3 @hrl @hlen @bools_len) ?_
       rw [← hQl3, ← hQl2, ← hQl1, ← hQr]
       refine AW.rt (e3 @hrl @hlen @bools_len) ?_
       have hf : poB n t = false := by
        cases e : poB n t with
        | false => rfl
        | true => have := (hpo.1 e).trans i j k (by omega) (by omega) (by omega) hb.1.1 hb.1.2; rw [hb.2] at this; cases this
       exact Wk.of_eq (by rw [hf])
      ·intro hb
       refine AW.skip ?_
       refine hK9 _ _ _ ?_; clear hK9
       refine AW.rg [3,4,5,6] [] (e3 @hrl @hlen @bools_len) ?_
       rw [← hQl3]; change Exists _
       refine ⟨_, eO, k + 1, rfl, eD, eD, ?_⟩
       refine ⟨by omega, fun c hc h1 h2 => ?_⟩
       by_cases e : c = k
       ·subst e
        revert hb; rw [h1, h2]; cases atT t i c <;> simp
       ·exact hal3 c (by omega) h1 h2
     ·intro hb
      have hk2 : k = n := by omega
      refine AW.kx [3,4,5] [] ?_
      rw [← hQl3]
      refine hK7 _ _ _ ?_; clear hK7
      refine AW.rg [3,4,5] [] (e3 @hrl @hlen @bools_len) ?_
      rw [← hQl2]; change Exists _
      refine ⟨_, eO, j + 1, rfl, eD, eD, ?_⟩
      refine ⟨by omega, fun b c hb2 hc h1 h2 => ?_⟩
      by_cases e : b = j
      ·subst e; exact hal3 c (by omega) h1 h2
      ·exact hal2 b c (by omega) hc h1 h2
    ·intro hb
     have hj2 : j = n := by omega
     refine AW.kx [3,4] [] ?_
     rw [← hQl2]
     refine hK4 _ _ _ ?_; clear hK4
     refine AW.rg [3,4] [] (e3 @hrl @hlen @bools_len) ?_
     rw [← hQl1]; change Exists _
     refine ⟨_, eO, i + 1, rfl, eD, eD, ?_⟩
     refine ⟨by omega, fun a ha => ?_⟩
     by_cases e : a = i
     ·subst e; exact ⟨hir, fun b c hb2 hc => hal2 b c (by omega) hc⟩
     ·exact hal a (by omega)
  ·intro hb
   refine AW.kx [] [] ?_
   rw [← hQl1]
   refine hK2 _ _ _ ?_; clear hK2
   refine AW.sg [2] [] (e3 @hrl @hlen @bools_len) ?_
   rw [← hQr]
   refine AW.rt (e3 @hrl @hlen @bools_len) ?_
   have hi2 : i = n := by omega
   have hp : IsPo n t := ⟨fun a ha => (hal a (by omega)).1, fun a b c ha hb2 hc => (hal a (by omega)).2 b c hb2 hc⟩
   exact Wk.of_eq (by rw [hpo.2 hp])
end Go.Proofs.B

/- Joins by the definition. -/
namespace Go.AM
def lq (t : List (List Bool)) (i x : Nat) : Bool := decide (i = x) || atT t i x
theorem lq_trans {n : Nat} {t : List (List Bool)} (hp : IsPo n t) {i j k : Nat} (hi : i < n) (hj : j < n) (hk : k < n) (h1 : lq t i j = true) (h2 : lq t j k = true) : lq t i k = true := by
  unfold lq at *
  simp only [Bool.or_eq_true, decide_eq_true_eq] at *
  rcases h1 with rfl | h1
  · exact h2
  · rcases h2 with rfl | h2
    · exact .inr h1
    · exact .inr (hp.trans i j k hi hj hk h1 h2)
theorem lq_refl (t : List (List Bool)) (i : Nat) : lq t i i = true := by unfold lq; simp
theorem andR_at {n : Nat} {t : List (List Bool)} (hs : Sq n t) {i j x : Nat} (hi : i < n) (hj : j < n) (hx : x < n) : (andR (upR t n) i j).getD x false = (lq t i x && lq t j x) := by
  have h1 : ((upR t n).getD i []).length = n := by rw [upR_get hi, List.length_set, hs.rowLen hi]
  have h2 : ((upR t n).getD j []).length = n := by rw [upR_get hj, List.length_set, hs.rowLen hj]
  have e1 := upR_at hs hi (x := x)
  have e2 := upR_at hs hj (x := x)
  unfold andR lq
  rw [← e1, ← e2]
  generalize (upR t n).getD i [] = a at *
  generalize (upR t n).getD j [] = b at *
  simp [List.getD_eq_getElem?_getD, List.getElem?_zipWith, show x < a.length by omega, show x < b.length by omega]
theorem andR_len {n : Nat} {t : List (List Bool)} (hs : Sq n t) {i j : Nat} (hi : i < n) (hj : j < n) : (andR (upR t n) i j).length = n := by
  unfold andR
  rw [List.length_zipWith, upR_get hi, upR_get hj, List.length_set, List.length_set, hs.rowLen hi, hs.rowLen hj, Nat.min_self]
end Go.AM

namespace Go.Proofs.B
open Go.AM Go
set_option maxRecDepth 100000
set_option maxHeartbeats 4000000
def longG (x : USet) : Bool := decide ((20 : Int) < x.W.length)
theorem great1_r (x : USet) (hx : x.W.length ≤ 9223372036854775807) : Reads Tryz.prog 48 false [.agg (rowV x)] (.bool (longG x)) := by
 unfold rowV
 refine Reads.body (rs := [.tmp 2]) Tryz.func48 rfl Tryz.ntmps48 rfl (by simp) ?_
 generalize hQr : retQ _ _ _ = Qr
 refine AW.sg [1] [1] trivial ?_
 refine AW.sg [2] [] trivial ?_
 rw [← hQr]
 refine AW.rt trivial ?_
 exact Wk.refl _
theorem ixg_r (rs : List USet) (hl : longR rs) : Reads Tryz.prog 29 false [.rsl 2 (rs.map rowV), .fn 48 []] (.int .i64 (ixf longG rs)) := by
 have hbp := fun x hxm => great1_r x (hl.2 x hxm)
 have hl1 := hl.1
 refine Reads.body (rs := [.tmp 4]) Tryz.func29 rfl Tryz.ntmps29 rfl (by simp) ?_
 generalize hQr : retQ _ _ _ = Qr
 refine AW.sg [0,1] [] trivial ?_
 refine AW.seq fun K1 hK1 => ?_
 refine AW.sg [0,1,7,8] [] trivial ?_
 refine AW.block ?_
 refine AW.loopE (fun mm ee ss kk => ∃ (j : Nat), rs.length - j = mm ∧ ee = [(0, .rsl 2 (rs.map rowV)), (1, .fn 48 []), (7, .int .i64 rs.length), (8, .int .i64 (j : Nat))] ∧ ss = [] ∧ (j ≤ rs.length ∧ (rs.take j).any longG = false)) ?_ ?_
 ·exact ⟨_, 0, rfl, eD, eD, eT⟩
 rintro mm ee ss kk ⟨j, rfl, rfl, rfl, hI⟩
 generalize hQl1 : thenQ _ _ = Ql1
 obtain ⟨hj, hall⟩ := hI
 refine AW.sg [0,1,7,8,9] [] trivial ?_
 refine AW.seq fun K2 hK2 => ?_
 refine AW.cn ?_ ?_
 ·intro hb
  obtain ⟨x, hx⟩ := getI (l := rs) (j := j) (by omega)
  have hgx := getV (f := rowV) hx
  have hats := any_take_succ (p := longG) hx
  have hbx := hbp x (List.mem_of_getElem? hx)
  refine AW.skip ?_
  refine hK2 _ _ _ ?_; clear hK2
  refine AW.seq fun K3 hK3 => ?_
  refine AW.block ?_
  refine AW.sg [0,1,5,7,8] [] trivial ?_
  refine AW.so 0 (fun ii => if ii = 5 then some (.reads false (.bool (longG x))) else none) [0,1,5,7,8,16] [] (e2 @hgx @rowV.eq_1) ?_
  repeat with_reducible refine cj ?_ ?_
  all_goals try first | (exact hbx) | omega | exact ent (by kernel_rfl)
  refine AW.cn ?_ ?_
  ·intro hb
   refine AW.sg [4] [] trivial ?_
   rw [← hQl1, ← hQr]
   refine AW.rt trivial ?_
   exact Wk.of_eq (by rw [ixf_at hx hb hall])
  ·intro hb
   refine AW.skip ?_
   refine hK3 _ _ _ ?_; clear hK3
   refine AW.rg [0,1,7,8] [] trivial ?_
   rw [← hQl1]; change Exists _
   exact ⟨_, eO, j + 1, rfl, eD, eD, (⟨by omega, by rw [hats, hall, hb]; rfl⟩)⟩
 ·intro hb
  refine AW.kx [] [] ?_
  rw [← hQl1]
  refine hK1 _ _ _ ?_; clear hK1
  refine AW.sg [4] [] trivial ?_
  rw [← hQr]
  refine AW.rt trivial ?_
  exact Wk.of_eq (by rw [List.take_of_length_le (by omega)] at hall; rw [ixf_none hall])
theorem ctg_r (rs : List USet) (hl : longR rs) : Reads Tryz.prog 47 false [.rsl 2 (rs.map rowV), .fn 48 []] (.bool (rs.any longG)) := by
 have h := ixg_r rs hl
 have hge := ixf_ge longG rs
 refine Reads.body (rs := [.tmp 4]) Tryz.func47 rfl Tryz.ntmps47 rfl (by simp) ?_
 generalize hQr : retQ _ _ _ = Qr
 refine AW.sg [0,1] [] trivial ?_
 refine AW.so 0 (fun ii => if ii = 2 then some (.reads false (.int .i64 (ixf longG rs))) else none) [4] [] trivial ?_
 repeat with_reducible refine cj ?_ ?_
 all_goals try first | (exact h) | omega | exact ent (by kernel_rfl)
 rw [← hQr]
 refine AW.rt trivial ?_
 exact Wk.of_eq (by rw [hge])
def greatB (rs : List USet) : Bool := decide ((30 : Int) < rs.length) || rs.any longG
theorem great_r (rs : List USet) (hl : longR rs) : Reads Tryz.prog 10 false [relV rs] (.bool (greatB rs)) := by
 have h := Reads.flat (ctg_r rs hl) rfl
 have hl1 := hl.1
 unfold relV
 refine Reads.body (rs := [.tmp 2]) Tryz.func10 rfl Tryz.ntmps10 rfl (by simp) ?_
 generalize hQr : retQ _ _ _ = Qr
 refine AW.sg [1] [1] trivial ?_
 refine AW.so 0 (fun ii => if ii = 7 then some (.reads true (.bool (rs.any longG))) else none) [2] [] trivial ?_
 repeat with_reducible refine cj ?_ ?_
 all_goals try first | ((intro hh; exact ⟨hh, h⟩)) | (intros; (repeat' apply And.intro) <;> first | assumption | ((intro hh; exact ⟨hh, h⟩))) | omega | exact ent (by kernel_rfl) | (intro hgd; exact absurd hgd (by decide)) | rfl | exact gD | (intro _hgd; simp_all [go_sem]; done)
 rw [← hQr]
 refine AW.rt trivial ?_
 exact Wk.of_eq (by unfold greatB; rfl)
theorem order_r (es : List (List AV)) (v : Bool) (h : Reads Tryz.prog 49 false [.agg [.rsl 2 es]] (.bool v)) : Reads Tryz.prog 11 false [.agg [.rsl 2 es]] (.bool v) := by
 refine Reads.body (rs := [.tmp 2]) Tryz.func11 rfl Tryz.ntmps11 rfl (by simp) ?_
 generalize hQr : retQ _ _ _ = Qr
 refine AW.sg [1] [1] trivial ?_
 refine AW.so 0 (fun ii => if ii = 1 then some (.reads false (.bool v)) else none) [2] [] trivial ?_
 repeat with_reducible refine cj ?_ ?_
 all_goals try first | (exact h) | omega | exact ent (by kernel_rfl)
 rw [← hQr]
 refine AW.rt trivial ?_
 exact Wk.refl _
end Go.Proofs.B

namespace Go.Proofs.B
open Go.AM Go
set_option maxRecDepth 100000
set_option maxHeartbeats 4000000
theorem rval_bad (rs : List USet) (hl : longR rs) (hb : BadP rs) : Reads Tryz.prog 58 false [relV rs] (.bool false) ∧ Reads Tryz.prog 49 false [relV rs] (.bool false) := by
 rcases hb with hv | ⟨t, ht, hs, hn, hp⟩
 ·exact ⟨pvalid_e rs hl hv, rval_e rs hl hv⟩
 ·have h1 := pvalid_g _ t hs hn
  have h2 := rval_g _ t hs hn
  rw [hp, relB_SB, ← ht] at h1 h2
  exact ⟨h1, h2⟩
end Go.Proofs.B

/- The laws of joins and meets. -/
namespace Go.AM
/-- J gives the least upper bounds of q on the first n numbers. -/
def IsJ (q : Nat → Nat → Bool) (n : Nat) (J : Nat → Nat → Nat) : Prop := ∀ i j, i < n → j < n → J i j < n ∧ ∀ x, x < n → q (J i j) x = (q i x && q j x)
structure PoQ (q : Nat → Nat → Bool) (n : Nat) : Prop where
  refl : ∀ i, q i i = true
  trans : ∀ i j k, i < n → j < n → k < n → q i j = true → q j k = true → q i k = true
  anti : ∀ i j, i < n → j < n → q i j = true → q j i = true → i = j
theorem PoQ.ext {q : Nat → Nat → Bool} {n : Nat} (p : PoQ q n) {a b : Nat} (ha : a < n) (hb : b < n) (h : ∀ x, x < n → q a x = q b x) : a = b :=
  p.anti a b ha hb (by rw [h b hb]; exact p.refl b) (by rw [← h a ha]; exact p.refl a)
theorem IsJ.le {q : Nat → Nat → Bool} {n : Nat} {J : Nat → Nat → Nat} (p : PoQ q n) (h : IsJ q n J) {i j : Nat} (hi : i < n) (hj : j < n) : q i (J i j) = true ∧ q j (J i j) = true := by
  have h1 := h i j hi hj
  have h2 := h1.2 (J i j) h1.1
  rw [p.refl, eq_comm, Bool.and_eq_true] at h2
  exact h2
theorem lq_po {n : Nat} {t : List (List Bool)} (hp : IsPo n t) : PoQ (lq t) n := ⟨lq_refl t, fun i j k hi hj hk => lq_trans hp hi hj hk, fun i j hi hj h1 h2 => by
  unfold lq at h1 h2
  simp only [Bool.or_eq_true, decide_eq_true_eq] at h1 h2
  rcases h1 with h1 | h1
  · exact h1
  · rcases h2 with h2 | h2
    · exact h2.symm
    · have h3 := hp.trans i j i hi hj hi h1 h2
      rw [hp.irr i hi] at h3; cases h3⟩
theorem lq_inv {n : Nat} {t : List (List Bool)} {i j : Nat} (hi : i < n) (hj : j < n) : lq (invT n t) i j = lq t j i := by
  unfold lq
  rw [atT_inv hi hj, show decide (i = j) = decide (j = i) from decide_eq_decide.2 eq_comm]
theorem lat_bnd {n : Nat} {t : List (List Bool)} (h : latB t n = true) {i j : Nat} (hi : i < n) (hj : j < n) : 0 ≤ bndF (upR t n) i j ∧ 0 ≤ bndF (upR (invT n t) n) i j := by
  unfold latB at h
  rw [Bool.and_eq_true] at h
  have h1 := List.all_eq_true.1 h.2 i (List.mem_range.2 hi)
  rw [Bool.and_eq_true] at h1
  have key : ∀ G : List (List Bool), G.length = n → noneT (bndT G) i = true → 0 ≤ bndF G i j := fun G hG hg => by
    unfold noneT at hg
    rw [Bool.not_eq_true', decide_eq_false_iff_not, bndT_row (by omega), List.mem_map, hG] at hg
    have := (ixf_lt (fun s => decide (s = andR G i j)) G).1
    apply Classical.byContradiction
    intro hn
    exact hg ⟨j, List.mem_range.2 hj, by unfold bndF at *; omega⟩
  exact ⟨key _ (upR_len t n) h1.1, key _ (upR_len _ n) h1.2⟩
def jnN (t : List (List Bool)) (n i j : Nat) : Nat := (bndF (upR t n) i j).toNat
theorem jn_of {n : Nat} {t : List (List Bool)} (hs : Sq n t) {i j : Nat} (hi : i < n) (hj : j < n) (h : 0 ≤ bndF (upR t n) i j) : jnN t n i j < n ∧ ∀ x, x < n → lq t (jnN t n i j) x = (lq t i x && lq t j x) := by
  unfold jnN
  have hge := ixf_ge (fun s => decide (s = andR (upR t n) i j)) (upR t n)
  unfold bndF at h ⊢
  rw [decide_eq_true h] at hge
  unfold ixf
  rw [if_pos hge.symm, Int.toNat_natCast]
  have hlt := List.findIdx_lt_length_of_exists (p := fun s => decide (s = andR (upR t n) i j)) (xs := upR t n) (by
    obtain ⟨x, hx, hp⟩ := List.any_eq_true.1 hge.symm
    exact ⟨x, hx, hp⟩)
  have hat := List.findIdx_getElem (w := hlt)
  have hat := of_decide_eq_true hat
  have hl := upR_len t n
  refine ⟨by omega, fun x hx => ?_⟩
  have e1 := upR_at hs (i := List.findIdx (fun s => decide (s = andR (upR t n) i j)) (upR t n)) (by omega) (x := x)
  unfold lq at *
  rw [← e1, show (upR t n).getD (List.findIdx (fun s => decide (s = andR (upR t n) i j)) (upR t n)) [] = andR (upR t n) i j by
    refine Eq.trans ?_ hat
    rw [List.getD_eq_getElem?_getD, List.getElem?_eq_getElem hlt]; rfl]
  have := andR_at hs hi hj hx
  unfold lq at this
  exact this
theorem lat_J {n : Nat} {t : List (List Bool)} (hs : Sq n t) (h : latB t n = true) : IsJ (lq t) n (jnN t n) := fun _ _ hi hj => jn_of hs hi hj (lat_bnd h hi hj).1
theorem lat_M {n : Nat} {t : List (List Bool)} (h : latB t n = true) : IsJ (lq (invT n t)) n (jnN (invT n t) n) := fun _ _ hi hj => jn_of Sq.inv hi hj (lat_bnd h hi hj).2
end Go.AM

namespace Go.Proofs.B
open Go.AM Go
set_option maxRecDepth 100000
set_option maxHeartbeats 4000000
end Go.Proofs.B

/- A long region may be run in two parts. -/
namespace Go.AM
end Go.AM

namespace Go.Proofs.B
open Go.AM Go
set_option maxRecDepth 100000
set_option maxHeartbeats 8000000
end Go.Proofs.B

