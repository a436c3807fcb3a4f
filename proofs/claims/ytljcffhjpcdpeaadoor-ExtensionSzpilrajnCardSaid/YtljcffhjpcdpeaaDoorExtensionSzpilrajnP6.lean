/- Lemmas and contracts, part 6: an abstract machine over the model, and the functions that the statement reaches. -/
import Derived.Test.YtljcffhjpcdpeaaDoorExtensionSzpilrajnP5
import Derived.Below
import Derived.ChangeSame
import Derived.JoinedOf
import Derived.Handed
import Derived.MakeChecks
import Derived.LaidMore
import Derived.Test.YtljcffhjpcdpeaaDoorRows
set_option linter.unusedVariables false
set_option linter.unusedSimpArgs false
open Nat renaming reduceAdd → zA, reduceMul → zM, reduceEqDiff → zE, reduceLT → zL, reduceLeDiff → zD, reduceSub → zS, reducePow → zP, reduceBEq → zB
open Int renaming reduceToNat → zI
open List renaming reduceReplicate → zR
/- A law's contract out of a contract over pure trees. -/
namespace Go.AM
open Go.RowKit Go.WideShapes Go.ChangeShapes

def aggT (P : Program) (t : TypeId) : Bool :=
  match P.underlying t with
  | some (.struct _) | some (.array _ _) => true
  | _ => false
def supT (P : Program) (t : TypeId) : Bool :=
  match P.underlying t with
  | some .bool | some (.int _) | some .string | some (.slice _) | some (.struct _) | some (.array _ _) => true
  | _ => false
def argAV (P : Program) (t : TypeId) (avs : List AV) : AV := if aggT P t then .agg avs else avs.getD 0 .any
def argsAV (P : Program) : List TypeId → List (List AV) → List AV
  | t :: ts, a :: avs => argAV P t a :: argsAV P ts avs
  | _, _ => []

theorem match_arg {P : Program} {w : World} {t : TypeId} {v : Value} {avs : List AV} {base : Nat} (hs : supT P t = true) (hok : Value.okWide P w .any base t v) (h : Match w avs v.cells.toList) : RelP (immW w) w (argAV P t avs) v := by
  have hone : (∀ cs, v ≠ .agg cs) → aggT P t = false → RelP (immW w) w (argAV P t avs) v := fun hv ha => by
    have hc : v.cells.toList = [v] := by
      cases v <;> first | rfl | exact absurd rfl (hv _)
    rw [hc] at h
    unfold argAV
    rw [ha]
    exact h.2 0 (by rw [h.1]; simp)
  have hagg : (∃ cs, v = .agg cs) → aggT P t = true → RelP (immW w) w (argAV P t avs) v := fun ⟨cs, e⟩ ha => by
    subst e
    unfold argAV
    rw [ha]
    obtain ⟨l⟩ := cs
    exact .agg _ _ h.1 h.2
  cases hu : P.underlying t with
  | none => simp [supT, hu] at hs
  | some d =>
    cases d <;> first | (simp [supT, hu] at hs; done) | skip
    case bool => obtain ⟨b, rfl⟩ := okWide_bool hu hok; exact hone (by simp) (by simp [aggT, hu])
    case int => obtain ⟨b, rfl⟩ := okWide_int hu hok; exact hone (by simp) (by simp [aggT, hu])
    case string => obtain ⟨b, rfl⟩ := okWide_string hu hok; exact hone (by simp) (by simp [aggT, hu])
    case slice => obtain ⟨b, _, _, rfl⟩ := okWide_slice hu hok; exact hone (by simp) (by simp [aggT, hu])
    case struct => obtain ⟨cs, rfl, _⟩ := okWide_struct hu hok; exact hagg ⟨_, rfl⟩ (by simp [aggT, hu])
    case array =>
      unfold Value.okWide at hok
      rw [hu] at hok
      obtain ⟨cs, rfl, _⟩ := hok
      exact hagg ⟨_, rfl⟩ (by simp [aggT, hu])

theorem args_match {H : Type} {enc : TypeId × Value → H} {P : Program} {w : World} {base : Nat} (hl : laidOutB P = true) : ∀ {ts : List TypeId} {vs : List Value} {ds : List (DataW H)} {ps : List MemPlace}, (∀ t ∈ ts, t < P.types.size ∧ supT P t = true) →
    (∀ (j : Nat) t v, ts[j]? = some t → vs[j]? = some v → Value.okWide P w .any base t v) → DataW.TrodAll enc P w 0 (fun _ => true) true ts vs ds ps →
    ∃ ass, F2 (fun t avs => ∃ n, Fit P n t avs) ts ass ∧ (argsAV P ts ass).length = vs.length ∧ ∀ i, i < vs.length → RelP (immW w) w ((argsAV P ts ass).getD i .any) (vs.getD i undef)
  | [], vs, ds, ps, _, _, h => by
    obtain ⟨rfl, _, _⟩ := trodAll_nil h
    exact ⟨[], .nil, rfl, by simp⟩
  | t :: ts, vs, ds, ps, hts, hv, h => by
    obtain ⟨v, vs', d, ds', p, q, rfl, rfl, rfl, ⟨n, h1⟩, h2⟩ := trodAll_cons h
    obtain ⟨avs, k1, k2⟩ := fit_of_trod hl n t _ _ (hts t (List.mem_cons_self ..)).1 h1
    obtain ⟨ass, j1, j2, j3⟩ := args_match hl (fun t ht => hts t (List.mem_cons_of_mem _ ht)) (fun j t v e1 e2 => hv (j + 1) t v (by simpa using e1) (by simpa using e2)) h2
    refine ⟨avs :: ass, .cons ⟨n, k1⟩ j1, by simp [argsAV, j2], fun i hi => ?_⟩
    cases i with
    | zero => simpa [argsAV] using match_arg (hts t (List.mem_cons_self ..)).2 (hv 0 t v rfl rfl) k2
    | succ i => simpa [argsAV] using j3 i (by simpa using hi)

theorem Ext.below {w w' : World} (h : Ext (fun _ => False) w w') : Below w.heap.size w w' := ⟨h.os, h.tape, h.output, h.size, fun k hk => h.block k hk fun e => e⟩

theorem trodAll_below {H : Type} {enc : TypeId × Value → H} {P : Program} {W W' : World} (hl : laidOutB P = true) (hb : Below W.heap.size W W') {sp : Nat → Bool} : ∀ {ts : List TypeId} {vs : List Value} {ds : List (DataW H)} {ps : List MemPlace},
    (∀ t ∈ ts, t < P.types.size ∧ P.readableRec t = true) → DataW.TrodAll enc P W 0 (fun _ => true) true ts vs ds ps → (∀ p ∈ ps, p.block < W.heap.size ∧ sp p.block = true) → DataW.TrodAll enc P W' 0 sp true ts vs ds ps
  | [], vs, ds, ps, _, h, _ => by
    obtain ⟨rfl, rfl, rfl⟩ := trodAll_nil h
    rfl
  | t :: ts, vs, ds, ps, hts, h, hp => by
    obtain ⟨v, vs', d, ds', p, q, rfl, rfl, rfl, h1, h2⟩ := trodAll_cons h
    obtain ⟨g1, g2⟩ := hts t (List.mem_cons_self ..)
    exact ⟨p, q, WideElems.Trod_stays hl g2 g1 h1 (fun x hx => hb.same (hp x (List.mem_append_left _ hx)).1) (fun x hx => (hp x (List.mem_append_left _ hx)).2),
      trodAll_below hl hb (fun t ht => hts t (List.mem_cons_of_mem _ ht)) h2 (fun x hx => hp x (List.mem_append_right _ hx)), rfl⟩

theorem trodAll_len {H : Type} {enc : TypeId × Value → H} {P : Program} {w : World} {b : Nat} {sp : Nat → Bool} {hd : Bool} : ∀ {ts : List TypeId} {vs : List Value} {ds : List (DataW H)} {ps : List MemPlace}, DataW.TrodAll enc P w b sp hd ts vs ds ps → vs.length = ts.length ∧ ds.length = ts.length
  | [], vs, ds, ps, h => by
    obtain ⟨rfl, rfl, rfl⟩ := trodAll_nil h
    exact ⟨rfl, rfl⟩
  | t :: ts, vs, ds, ps, h => by
    obtain ⟨v, vs', d, ds', p, q, rfl, rfl, rfl, _, h2⟩ := trodAll_cons h
    have := trodAll_len h2
    exact ⟨by simp [this.1], by simp [this.2]⟩

/-- What the form asks of a law's call, out of a contract over pure trees. -/
theorem law_contract {H : Type} {enc : TypeId × Value → H} {P : Program} {fn : Func} {f : FuncId} {s : ChangeSpec} (hl : laidOutB P = true) {ts : List TypeId} {T : TypeId} (hps : fn.params.toList = ts) (hrs : fn.resultTypes = #[T]) (hT : P.underlying T = some .bool)
    (hts : ts.all (fun t => decide (t < P.types.size) && supT P t && P.readableRec t) = true) (hvars : s.vars = []) (hs : ∀ ds : List (DataW H), ds.length = ts.length → s.fn H ds = { results := [.lit (.bool true)], args := ds })
    (hread : ∀ ass, F2 (fun t avs => ∃ n, Fit P n t avs) ts ass → Reads P f false (argsAV P ts ass) (.bool true))
    {W : World} {base : Nat} {args : Array Value} {ds gs : List (DataW H)} {before : List MemPlace} (hval : ∀ (j : Nat) t v, fn.params[j]? = some t → args[j]? = some v → Value.okWide P W .any base t v)
    (hW : DataW.Whole enc P fn.params.toList s.vars false W args.toList ds gs before) (hgl : GL (immF W fun _ => False) W) :
    Calls P f args W fun e W' => ∃ v, e = .returned v ∧ s.post enc P fn false true false false W args v W' := by
  have hts' : ∀ t ∈ ts, t < P.types.size ∧ supT P t = true ∧ P.readableRec t = true := fun t ht => by
    have := List.all_eq_true.1 hts t ht
    simpa [and_assoc] using this
  have hW' := hW
  obtain ⟨p, q, hA, hV, rfl, hfz, hnd⟩ := hW
  rw [hvars] at hV
  obtain ⟨rfl, rfl⟩ := trodVars_none hV
  rw [hps] at hA
  obtain ⟨hl1, hl2⟩ := trodAll_len hA
  obtain ⟨ass, j1, j2, j3⟩ := args_match hl (fun t ht => ⟨(hts' t ht).1, (hts' t ht).2.1⟩) (fun j t v e1 e2 => hval j t v (by rw [← hps] at e1; simpa using e1) (by simpa using e2)) hA
  have hc := hread ass j1 W (fun _ => False) args.toList (fun _ h => h.elim) hgl j2.symm (fun i hi => j3 i (by omega))
  rw [show args.toList.toArray = args by simp] at hc
  refine hc.mono fun e W' ⟨u, h1, h2, h3⟩ => ⟨u, h1, ?_⟩
  have hu : u = .bool true := by cases h3; rfl
  subst hu
  have hb := h2.below
  have hlt : ∀ x ∈ p, x.block < W.heap.size := fun x hx => hW'.lt x (by simpa using hx)
  have hsf := hs ds hl2
  have hres : ∀ (b : Nat) (sp : Nat → Bool) (hd : Bool), DataW.TrodAll enc P W' b sp hd fn.resultTypes.toList ((Value.bool true).resultList fn.resultTypes.size) (s.fn H (ds ++ [])).results [] := fun b sp hd => by
    rw [hrs, List.append_nil, hsf]
    exact trodAll_mk1 (shut_bool hT true)
  have hargs : ∀ sp : Nat → Bool, (∀ x ∈ p, sp x.block = true) → DataW.TrodAll enc P W' 0 sp true fn.params.toList args.toList (s.fn H (ds ++ [])).args p := fun sp hsp => by
    rw [List.append_nil, hsf, hps]
    exact trodAll_below hl hb (fun t ht => ⟨(hts' t ht).1, (hts' t ht).2.2⟩) hA fun x hx => ⟨hlt x hx, hsp x hx⟩
  have hvs : ∀ sp : Nat → Bool, DataW.TrodVars enc P W' sp s.vars (s.fn H (ds ++ [])).vars [] := fun sp => by
    rw [List.append_nil, hsf, hvars]; rfl
  refine ⟨ds, [], p ++ [], [], p, [], hW', hres _ _ _, hargs _ (fun x hx => by simpa using hlt x hx), hvs _, World.keptBut_mono (fun x hx => ⟨hx, ?_⟩) (hb.frame (· ∈ p ++ [])), fun _ => ?_⟩
  · simpa using hx
  · refine ⟨ok_one hrs rfl (okWide_bool_mk hT _), _, _, ([] ++ p) ++ [], ⟨[] ++ p, [], trodAll_append (hargs _ (fun _ _ => rfl)) (hres _ _ _), hvs _, rfl, ?_, ?_⟩, ?_⟩
    · intro b off hp
      have hin : MemPlace.cell b off ∈ p := by simpa using hp
      rw [hb.frozen (hlt _ hin)]
      exact hfz b off (by simpa using hin)
    · intro ha; cases ha
    · intro x hx _
      simpa using hx

end Go.AM

/- The shapes of arguments. -/
namespace Go.AM
theorem fit_int {P : Program} {t : TypeId} {k : IntKind} (hu : P.underlying t = some (.int k)) {f : Nat} {x : List AV} (h : Fit P f t x) : ∃ n, x = [.int k n] ∧ k.min ≤ n ∧ n ≤ k.max := by
  cases f with
  | zero => exact h.elim
  | succ f => unfold Fit at h; rw [hu] at h; exact h
theorem fit_slice {P : Program} {t e : TypeId} {m : Nat} (hu : P.underlying t = some (.slice e)) (hm : P.cellsOf e = m) (h0 : m ≠ 0) {f : Nat} {x : List AV} (h : Fit P f t x) : ∃ es f', x = [.rsl m es] ∧ es.length ≤ maxLen ∧ ∀ y ∈ es, Fit P f' e y := by
  cases f with
  | zero => exact h.elim
  | succ f =>
    unfold Fit at h; rw [hu] at h
    rcases h with h | ⟨es, h1, h2, h3⟩
    · exact absurd (hm ▸ h) h0
    · rw [hm] at h1; exact ⟨es, f, h1, h2, fun y hy => (h3 y hy).2⟩
theorem fit_struct {P : Program} {t : TypeId} {fs : Array Field} (hu : P.underlying t = some (.struct fs)) {f : Nat} {x : List AV} (h : Fit P f t x) : ∃ f' parts, x = List.flatten parts ∧ F2 (fun (fl : Field) p => Fit P f' fl.type p) fs.toList parts := by
  cases f with
  | zero => exact h.elim
  | succ f =>
    unfold Fit at h; rw [hu] at h
    obtain ⟨parts, h1, h2⟩ := h
    exact ⟨f, parts, h1, forall2_imp (fun _ _ h => h.2) h2⟩
theorem F2.two {α β : Type} {R : α → β → Prop} {a b : α} {l : List β} (h : F2 R [a, b] l) : ∃ x y, l = [x, y] ∧ R a x ∧ R b y := by
  cases h with | cons h1 t => cases t with | cons h2 t => cases t with | nil => exact ⟨_, _, rfl, h1, h2⟩
theorem exists_mapP {α β : Type} {f : α → β} {p : α → Prop} : ∀ {l : List β}, (∀ x ∈ l, ∃ a, x = f a ∧ p a) → ∃ m : List α, l = m.map f ∧ ∀ a ∈ m, p a
  | [], _ => ⟨[], rfl, fun _ h => by cases h⟩
  | x :: l, h => by
    obtain ⟨a, rfl, ha⟩ := h x (List.mem_cons_self ..)
    obtain ⟨m, rfl, hm⟩ := exists_mapP fun y hy => h y (List.mem_cons_of_mem _ hy)
    exact ⟨a :: m, rfl, fun b hb => by rcases List.mem_cons.1 hb with rfl | hb; exact ha; exact hm b hb⟩
theorem okW_of {W : List Int} (h : ∀ w ∈ W, 0 ≤ w ∧ w ≤ 18446744073709551615) : okW W := fun i => by
  by_cases hi : i < W.length
  · have := h _ (mem_getD hi 0); omega
  · rw [List.getD_eq_getElem?_getD, List.getElem?_eq_none (by omega)]; simp
end Go.AM

/- A laid table, as the machine's package variable. -/
namespace Go.AM
theorem rptr_of_laid {P : Program} {n : String} {g : Nat} {t e : TypeId} {k : IntKind} {L : List Int} {W : World} (hg : P.globalNamed n = some g) (ht : (P.globals[g]?).map (·.type) = some t) (hu : P.underlying t = some (.array L.length e))
    (hc : P.cellsOf e = 1) (hc2 : P.cellsOf t = L.length) (hu2 : P.underlying e = some (.int k)) (hL : L ≠ []) (h : laidMet P [(n, .agg (L.map fun i => .lit (.int k i)))] W) : RelP (immF W fun _ => False) W (.rptr (L.map (AV.int k))) (.pointer (some ⟨g, 0, none⟩)) := by
  obtain ⟨ps, ⟨g0, t0, cs0, f0, p0, q0, hg0, ht0, hv0, hd0, _, _⟩, _, _⟩ := h
  obtain rfl := Option.some.inj (hg.symm.trans hg0)
  obtain rfl := Option.some.inj (ht.symm.trans ht0)
  obtain ⟨xs, m, rfl, hx, hlen, hn, hel⟩ := DataW.trod_array hu hd0
  have hcell : ∀ j, j < L.length → W.cell? ⟨g, j, none⟩ = some (.int k (L.getD j 0)) := fun j hj => by
    have h0 := hel j hj
    rw [hc, Nat.mul_one] at h0
    have hjx : j < xs.length := by omega
    rw [List.getElem?_eq_getElem hjx] at h0
    obtain ⟨z, e1, e2, _⟩ := DataW.trod_int hu2 h0
    have hxs : xs.map (·.1) = L.map fun i => .lit (.int k i) := by
      simp only [Prod.mk.injEq, DataW.agg.injEq] at hx
      exact hx.1.symm
    have hzj : (xs.map (·.1))[j]? = (L.map fun i => (.lit (.int k i) : DataW Unit))[j]? := by rw [hxs]
    rw [List.getElem?_map, List.getElem?_map, List.getElem?_eq_getElem hjx, List.getElem?_eq_getElem hj, e2] at hzj
    simp only [Option.map_some, Option.some.injEq, DataW.lit.injEq, Lit.int.injEq] at hzj
    have hz : z = L.getD j 0 := by rw [hzj.2]; simp [List.getD_eq_getElem?_getD, hj]
    have hcs : cs0[j]? = some (.int k z) := by
      have hl : cs0.toList.length = L.length := by rw [hlen, hc2]
      have hd : cs0.toList.drop j = cs0.toList[j]'(by omega) :: cs0.toList.drop (j + 1) := List.drop_eq_getElem_cons (by omega)
      rw [hd] at e1
      simp only [List.take_succ_cons, List.take_zero, List.cons.injEq, and_true] at e1
      rw [← Array.getElem?_toList, List.getElem?_eq_getElem (by omega), e1]
    rw [World.var?_cell hg hv0 j, hcs, hz]
  have hlt : g < W.heap.size := by
    cases L with
    | nil => exact absurd rfl hL
    | cons a l =>
      have := hcell 0 (by simp)
      unfold World.cell? at this
      cases hh : W.heap[g]? with
      | none => simp [hh] at this
      | some o => exact heap_lt hh
  refine .rptr _ g 0 (fun j => .int k (L.getD j 0)) ⟨hlt, fun h => h⟩ (fun j hj => ?_) (fun j hj => ?_)
  · rw [List.length_map] at hj
    rw [Nat.zero_add]
    exact hcell j hj
  · rw [List.length_map] at hj
    have e : (L.map (AV.int k)).getD j .any = .int k (L.getD j 0) := by simp [List.getD_eq_getElem?_getD, hj]
    rw [e]
    exact .int _ _
theorem laidMet_of_H {P : Program} {n : String} {k : IntKind} {L : List Int} {W : World} (h : laidMetH P [(n, .agg (L.map fun i => .lit (.int k i)))] W) : laidMet P [(n, .agg (L.map fun i => .lit (.int k i)))] W := by
  rw [MakeChecks.laidMetH_plain _ _ _ (by rfl)] at h
  exact h
end Go.AM

/- The shapes of the extension laws' arguments. -/
namespace Go.AM
open Go.Proofs
theorem fit_words {f : Nat} {x : List AV} (h : Fit Tryd.prog f 43 x) : ∃ W : List Int, x = [.rsl 1 (words W)] ∧ W.length ≤ 9223372036854775807 ∧ okW W := by
  obtain ⟨es, f2, rfl, h5, h6⟩ := fit_slice (m := 1) Tryd.underlying43 (by kernel_rfl) (by decide) h
  obtain ⟨ws, rfl, hw⟩ := exists_mapP (f := fun x : Int => [AV.int .u64 x]) (p := fun w => 0 ≤ w ∧ w ≤ 18446744073709551615) fun y hy => by
    obtain ⟨n, e, h1, h2⟩ := fit_int Tryd.underlying45 (h6 y hy)
    exact ⟨n, e, by simpa [IntKind.min, IntKind.signed] using h1, by simpa [IntKind.max, IntKind.signed, IntKind.bits] using h2⟩
  exact ⟨ws, rfl, by simpa [maxLen] using h5, okW_of hw⟩
theorem fit_set {f : Nat} {x : List AV} (h : Fit Tryd.prog f 47 x) : ∃ y : USet, x = rowV y ∧ y.W.length ≤ 9223372036854775807 ∧ okW y.W := by
  obtain ⟨f', parts, rfl, h2⟩ := fit_struct Tryd.underlying47 h
  obtain ⟨a, b, rfl, h3, h4⟩ := F2.two h2
  obtain ⟨i, rfl, _⟩ := fit_int Tryd.underlying3 h3
  obtain ⟨W, rfl, h5, h6⟩ := fit_words h4
  exact ⟨⟨i, W⟩, rfl, h5, h6⟩
theorem F2.one {α β : Type} {R : α → β → Prop} {a : α} {l : List β} (h : F2 R [a] l) : ∃ x, l = [x] ∧ R a x := by
  cases h with | cons h1 t => cases t with | nil => exact ⟨_, rfl, h1⟩
theorem fit_rel {f : Nat} {x : List AV} (h : Fit Tryd.prog f 24 x) : ∃ rs : List USet, x = [.rsl 2 (rs.map rowV)] ∧ (rs.length ≤ 9223372036854775807 ∧ ∀ y ∈ rs, y.W.length ≤ 9223372036854775807) ∧ ∀ y ∈ rs, okW y.W := by
  obtain ⟨f', parts, rfl, h2⟩ := fit_struct Tryd.underlying24 h
  obtain ⟨a, rfl, h3⟩ := F2.one h2
  obtain ⟨es, f2, rfl, h5, h6⟩ := fit_slice (m := 2) Tryd.underlying22 (by kernel_rfl) (by decide) h3
  obtain ⟨rs, rfl, hr⟩ := exists_mapP (f := rowV) (p := fun y => y.W.length ≤ 9223372036854775807 ∧ okW y.W) fun y hy => fit_set (h6 y hy)
  exact ⟨rs, rfl, ⟨by simpa [maxLen] using h5, fun y hy => (hr y hy).1⟩, fun y hy => (hr y hy).2⟩
theorem pgl {W : World} (h : laidMetH Tryd.prog [("math/bits.deBruijn64tab", .agg (tzTab.map fun i => .lit (.int .u8 i)))] W) : GL (immF W fun _ => False) W := fun g cs e => by
  cases g with
  | zero =>
    rw [globA_aux] at e
    obtain rfl := Option.some.inj e
    exact rptr_of_laid (L := tzTab) (by kernel_rfl : Tryd.prog.globalNamed "math/bits.deBruijn64tab" = some 0) (by kernel_rfl : (Tryd.prog.globals[0]?).map (·.type) = some 106) (e := 5) Tryd.underlying106 (by kernel_rfl) (by kernel_rfl) Tryd.underlying5 (by decide) (laidMet_of_H h)
  | succ g => cases e
theorem pmet (os : Os) (args : Array Value) : laidMetH Tryd.prog [("math/bits.deBruijn64tab", .agg (tzTab.map fun i => .lit (.int .u8 i)))] ((World.doorLaid Tryd.prog 400 os).forCall (fun _ _ => 0) ⟨#[], args, []⟩).memory :=
  laidMetH_of_parts3 (fuel := 8) (laidMet_of_run' 8 (by kernel_rfl) (by kernel_rfl)) (by kernel_rfl) (by kernel_rfl)
end Go.AM

