/- Lemmas and contracts, part 6: an abstract machine over the model, and the functions that the statement reaches. -/
import Derived.Test.YtjccpgehkjmacaaFlowDualityP5
import Derived.Below
import Derived.ChangeSame
import Derived.JoinedOf
import Derived.Handed
import Derived.Test.YtjccpgehkjmacaaRows
set_option linter.unusedVariables false
set_option linter.unusedSimpArgs false
/- A law's contract out of a contract over pure trees. -/
namespace Go.AM
open Go.RowKit Go.WideShapes Go.ChangeShapes

def aggT (P : Program) (t : TypeId) : Bool :=
  match P.underlying t with
  | some (.struct _) | some (.array _ _) => true
  | _ => false
def supT (P : Program) (t : TypeId) : Bool :=
  match P.underlying t with
  | some .bool | some (.int _) | some .string | some (.slice _) | some (.struct _) | some (.array _ _) => true
  | _ => false
def argAV (P : Program) (t : TypeId) (avs : List AV) : AV := if aggT P t then .agg avs else avs.getD 0 .any
def argsAV (P : Program) : List TypeId → List (List AV) → List AV
  | t :: ts, a :: avs => argAV P t a :: argsAV P ts avs
  | _, _ => []

theorem match_arg {P : Program} {w : World} {t : TypeId} {v : Value} {avs : List AV} {base : Nat} (hs : supT P t = true) (hok : Value.okWide P w .any base t v) (h : Match w avs v.cells.toList) : RelP (immW w) w (argAV P t avs) v := by
  have hone : (∀ cs, v ≠ .agg cs) → aggT P t = false → RelP (immW w) w (argAV P t avs) v := fun hv ha => by
    have hc : v.cells.toList = [v] := by
      cases v <;> first | rfl | exact absurd rfl (hv _)
    rw [hc] at h
    unfold argAV
    rw [ha]
    exact h.2 0 (by rw [h.1]; simp)
  have hagg : (∃ cs, v = .agg cs) → aggT P t = true → RelP (immW w) w (argAV P t avs) v := fun ⟨cs, e⟩ ha => by
    subst e
    unfold argAV
    rw [ha]
    obtain ⟨l⟩ := cs
    exact .agg _ _ h.1 h.2
  cases hu : P.underlying t with
  | none => simp [supT, hu] at hs
  | some d =>
    cases d <;> first | (simp [supT, hu] at hs; done) | skip
    case bool => obtain ⟨b, rfl⟩ := okWide_bool hu hok; exact hone (by simp) (by simp [aggT, hu])
    case int => obtain ⟨b, rfl⟩ := okWide_int hu hok; exact hone (by simp) (by simp [aggT, hu])
    case string => obtain ⟨b, rfl⟩ := okWide_string hu hok; exact hone (by simp) (by simp [aggT, hu])
    case slice => obtain ⟨b, _, _, rfl⟩ := okWide_slice hu hok; exact hone (by simp) (by simp [aggT, hu])
    case struct => obtain ⟨cs, rfl, _⟩ := okWide_struct hu hok; exact hagg ⟨_, rfl⟩ (by simp [aggT, hu])
    case array =>
      unfold Value.okWide at hok
      rw [hu] at hok
      obtain ⟨cs, rfl, _⟩ := hok
      exact hagg ⟨_, rfl⟩ (by simp [aggT, hu])

theorem args_match {H : Type} {enc : TypeId × Value → H} {P : Program} {w : World} {base : Nat} (hl : laidOutB P = true) : ∀ {ts : List TypeId} {vs : List Value} {ds : List (DataW H)} {ps : List MemPlace}, (∀ t ∈ ts, t < P.types.size ∧ supT P t = true) →
    (∀ (j : Nat) t v, ts[j]? = some t → vs[j]? = some v → Value.okWide P w .any base t v) → DataW.TrodAll enc P w 0 (fun _ => true) true ts vs ds ps →
    ∃ ass, F2 (fun t avs => ∃ n, Fit P n t avs) ts ass ∧ (argsAV P ts ass).length = vs.length ∧ ∀ i, i < vs.length → RelP (immW w) w ((argsAV P ts ass).getD i .any) (vs.getD i undef)
  | [], vs, ds, ps, _, _, h => by
    obtain ⟨rfl, _, _⟩ := trodAll_nil h
    exact ⟨[], .nil, rfl, by simp⟩
  | t :: ts, vs, ds, ps, hts, hv, h => by
    obtain ⟨v, vs', d, ds', p, q, rfl, rfl, rfl, ⟨n, h1⟩, h2⟩ := trodAll_cons h
    obtain ⟨avs, k1, k2⟩ := fit_of_trod hl n t _ _ (hts t (List.mem_cons_self ..)).1 h1
    obtain ⟨ass, j1, j2, j3⟩ := args_match hl (fun t ht => hts t (List.mem_cons_of_mem _ ht)) (fun j t v e1 e2 => hv (j + 1) t v (by simpa using e1) (by simpa using e2)) h2
    refine ⟨avs :: ass, .cons ⟨n, k1⟩ j1, by simp [argsAV, j2], fun i hi => ?_⟩
    cases i with
    | zero => simpa [argsAV] using match_arg (hts t (List.mem_cons_self ..)).2 (hv 0 t v rfl rfl) k2
    | succ i => simpa [argsAV] using j3 i (by simpa using hi)

theorem Ext.below {w w' : World} (h : Ext (fun _ => False) w w') : Below w.heap.size w w' := ⟨h.os, h.tape, h.output, h.size, fun k hk => h.block k hk fun e => e⟩

theorem trodAll_below {H : Type} {enc : TypeId × Value → H} {P : Program} {W W' : World} (hl : laidOutB P = true) (hb : Below W.heap.size W W') {sp : Nat → Bool} : ∀ {ts : List TypeId} {vs : List Value} {ds : List (DataW H)} {ps : List MemPlace},
    (∀ t ∈ ts, t < P.types.size ∧ P.readableRec t = true) → DataW.TrodAll enc P W 0 (fun _ => true) true ts vs ds ps → (∀ p ∈ ps, p.block < W.heap.size ∧ sp p.block = true) → DataW.TrodAll enc P W' 0 sp true ts vs ds ps
  | [], vs, ds, ps, _, h, _ => by
    obtain ⟨rfl, rfl, rfl⟩ := trodAll_nil h
    rfl
  | t :: ts, vs, ds, ps, hts, h, hp => by
    obtain ⟨v, vs', d, ds', p, q, rfl, rfl, rfl, h1, h2⟩ := trodAll_cons h
    obtain ⟨g1, g2⟩ := hts t (List.mem_cons_self ..)
    exact ⟨p, q, WideElems.Trod_stays hl g2 g1 h1 (fun x hx => hb.same (hp x (List.mem_append_left _ hx)).1) (fun x hx => (hp x (List.mem_append_left _ hx)).2),
      trodAll_below hl hb (fun t ht => hts t (List.mem_cons_of_mem _ ht)) h2 (fun x hx => hp x (List.mem_append_right _ hx)), rfl⟩

theorem trodAll_len {H : Type} {enc : TypeId × Value → H} {P : Program} {w : World} {b : Nat} {sp : Nat → Bool} {hd : Bool} : ∀ {ts : List TypeId} {vs : List Value} {ds : List (DataW H)} {ps : List MemPlace}, DataW.TrodAll enc P w b sp hd ts vs ds ps → vs.length = ts.length ∧ ds.length = ts.length
  | [], vs, ds, ps, h => by
    obtain ⟨rfl, rfl, rfl⟩ := trodAll_nil h
    exact ⟨rfl, rfl⟩
  | t :: ts, vs, ds, ps, h => by
    obtain ⟨v, vs', d, ds', p, q, rfl, rfl, rfl, _, h2⟩ := trodAll_cons h
    have := trodAll_len h2
    exact ⟨by simp [this.1], by simp [this.2]⟩

/-- What the form asks of a law's call, out of a contract over pure trees. -/
theorem law_contract {H : Type} {enc : TypeId × Value → H} {P : Program} {fn : Func} {f : FuncId} {s : ChangeSpec} (hl : laidOutB P = true) {ts : List TypeId} {T : TypeId} (hps : fn.params.toList = ts) (hrs : fn.resultTypes = #[T]) (hT : P.underlying T = some .bool)
    (hts : ts.all (fun t => decide (t < P.types.size) && supT P t && P.readableRec t) = true) (hvars : s.vars = []) (hs : ∀ ds : List (DataW H), ds.length = ts.length → s.fn H ds = { results := [.lit (.bool true)], args := ds })
    (hread : ∀ ass, F2 (fun t avs => ∃ n, Fit P n t avs) ts ass → Reads P f false (argsAV P ts ass) (.bool true))
    {W : World} {base : Nat} {args : Array Value} {ds gs : List (DataW H)} {before : List MemPlace} (hval : ∀ (j : Nat) t v, fn.params[j]? = some t → args[j]? = some v → Value.okWide P W .any base t v)
    (hW : DataW.Whole enc P fn.params.toList s.vars false W args.toList ds gs before) :
    Calls P f args W fun e W' => ∃ v, e = .returned v ∧ s.post enc P fn false true false false W args v W' := by
  have hts' : ∀ t ∈ ts, t < P.types.size ∧ supT P t = true ∧ P.readableRec t = true := fun t ht => by
    have := List.all_eq_true.1 hts t ht
    simpa [and_assoc] using this
  have hW' := hW
  obtain ⟨p, q, hA, hV, rfl, hfz, hnd⟩ := hW
  rw [hvars] at hV
  obtain ⟨rfl, rfl⟩ := trodVars_none hV
  rw [hps] at hA
  obtain ⟨hl1, hl2⟩ := trodAll_len hA
  obtain ⟨ass, j1, j2, j3⟩ := args_match hl (fun t ht => ⟨(hts' t ht).1, (hts' t ht).2.1⟩) (fun j t v e1 e2 => hval j t v (by rw [← hps] at e1; simpa using e1) (by simpa using e2)) hA
  have hc := hread ass j1 W (fun _ => False) args.toList (fun _ h => h.elim) j2.symm (fun i hi => j3 i (by omega))
  rw [show args.toList.toArray = args by simp] at hc
  refine hc.mono fun e W' ⟨u, h1, h2, h3⟩ => ⟨u, h1, ?_⟩
  have hu : u = .bool true := by cases h3; rfl
  subst hu
  have hb := h2.below
  have hlt : ∀ x ∈ p, x.block < W.heap.size := fun x hx => hW'.lt x (by simpa using hx)
  have hsf := hs ds hl2
  have hres : ∀ (b : Nat) (sp : Nat → Bool) (hd : Bool), DataW.TrodAll enc P W' b sp hd fn.resultTypes.toList ((Value.bool true).resultList fn.resultTypes.size) (s.fn H (ds ++ [])).results [] := fun b sp hd => by
    rw [hrs, List.append_nil, hsf]
    exact trodAll_mk1 (shut_bool hT true)
  have hargs : ∀ sp : Nat → Bool, (∀ x ∈ p, sp x.block = true) → DataW.TrodAll enc P W' 0 sp true fn.params.toList args.toList (s.fn H (ds ++ [])).args p := fun sp hsp => by
    rw [List.append_nil, hsf, hps]
    exact trodAll_below hl hb (fun t ht => ⟨(hts' t ht).1, (hts' t ht).2.2⟩) hA fun x hx => ⟨hlt x hx, hsp x hx⟩
  have hvs : ∀ sp : Nat → Bool, DataW.TrodVars enc P W' sp s.vars (s.fn H (ds ++ [])).vars [] := fun sp => by
    rw [List.append_nil, hsf, hvars]; rfl
  refine ⟨ds, [], p ++ [], [], p, [], hW', hres _ _ _, hargs _ (fun x hx => by simpa using hlt x hx), hvs _, World.keptBut_mono (fun x hx => ⟨hx, ?_⟩) (hb.frame (· ∈ p ++ [])), fun _ => ?_⟩
  · simpa using hx
  · refine ⟨ok_one hrs rfl (okWide_bool_mk hT _), _, _, ([] ++ p) ++ [], ⟨[] ++ p, [], trodAll_append (hargs _ (fun _ _ => rfl)) (hres _ _ _), hvs _, rfl, ?_, ?_⟩, ?_⟩
    · intro b off hp
      have hin : MemPlace.cell b off ∈ p := by simpa using hp
      rw [hb.frozen (hlt _ hin)]
      exact hfz b off (by simpa using hin)
    · intro ha; cases ha
    · intro x hx _
      simpa using hx

end Go.AM
/- The shapes of the flow laws' arguments. -/
namespace Go.AM
theorem fit_int {P : Program} {t : TypeId} {k : IntKind} (hu : P.underlying t = some (.int k)) {f : Nat} {x : List AV} (h : Fit P f t x) : ∃ n, x = [.int k n] ∧ k.min ≤ n ∧ n ≤ k.max := by
  cases f with
  | zero => exact h.elim
  | succ f => unfold Fit at h; rw [hu] at h; exact h
theorem fit_slice {P : Program} {t e : TypeId} {m : Nat} (hu : P.underlying t = some (.slice e)) (hm : P.cellsOf e = m) (h0 : m ≠ 0) {f : Nat} {x : List AV} (h : Fit P f t x) : ∃ es f', x = [.rsl m es] ∧ es.length ≤ maxLen ∧ ∀ y ∈ es, Fit P f' e y := by
  cases f with
  | zero => exact h.elim
  | succ f =>
    unfold Fit at h; rw [hu] at h
    rcases h with h | ⟨es, h1, h2, h3⟩
    · exact absurd (hm ▸ h) h0
    · rw [hm] at h1; exact ⟨es, f, h1, h2, fun y hy => (h3 y hy).2⟩
theorem fit_struct {P : Program} {t : TypeId} {fs : Array Field} (hu : P.underlying t = some (.struct fs)) {f : Nat} {x : List AV} (h : Fit P f t x) : ∃ f' parts, x = List.flatten parts ∧ F2 (fun (fl : Field) p => Fit P f' fl.type p) fs.toList parts := by
  cases f with
  | zero => exact h.elim
  | succ f =>
    unfold Fit at h; rw [hu] at h
    obtain ⟨parts, h1, h2⟩ := h
    exact ⟨f, parts, h1, forall2_imp (fun _ _ h => h.2) h2⟩
theorem fit_array {P : Program} {t e : TypeId} {m : Nat} (hu : P.underlying t = some (.array m e)) {f : Nat} {x : List AV} (h : Fit P f t x) : ∃ f' parts, x = List.flatten parts ∧ parts.length = m ∧ ∀ p ∈ parts, Fit P f' e p := by
  cases f with
  | zero => exact h.elim
  | succ f =>
    unfold Fit at h; rw [hu] at h
    obtain ⟨parts, h1, h2, h3⟩ := h
    exact ⟨f, parts, h1, h2, fun p hp => (h3 p hp).2⟩
theorem F2.two {α β : Type} {R : α → β → Prop} {a b : α} {l : List β} (h : F2 R [a, b] l) : ∃ x y, l = [x, y] ∧ R a x ∧ R b y := by
  cases h with | cons h1 t => cases t with | cons h2 t => cases t with | nil => exact ⟨_, _, rfl, h1, h2⟩
theorem F2.three {α β : Type} {R : α → β → Prop} {a b c : α} {l : List β} (h : F2 R [a, b, c] l) : ∃ x y z, l = [x, y, z] ∧ R a x ∧ R b y ∧ R c z := by
  cases h with | cons h1 t => cases t with | cons h2 t => cases t with | cons h3 t => cases t with | nil => exact ⟨_, _, _, rfl, h1, h2, h3⟩
theorem exists_map {α β : Type} {f : α → β} : ∀ {l : List β}, (∀ x ∈ l, ∃ a, x = f a) → ∃ m : List α, l = m.map f
  | [], _ => ⟨[], rfl⟩
  | x :: l, h => by
    obtain ⟨a, rfl⟩ := h x (List.mem_cons_self ..)
    obtain ⟨m, rfl⟩ := exists_map fun y hy => h y (List.mem_cons_of_mem _ hy)
    exact ⟨a :: m, rfl⟩
open Go.Proofs
theorem fit_edge {f : Nat} {x : List AV} (h : Fit Try.prog f 57 x) : ∃ e : Edg, x = edgeV e := by
  obtain ⟨f', parts, rfl, h2⟩ := fit_struct Try.underlying57 h
  obtain ⟨a, b, c, rfl, h3, h4, h5⟩ := F2.three h2
  obtain ⟨i, rfl, _⟩ := fit_int Try.underlying3 h3
  obtain ⟨j, rfl, _⟩ := fit_int Try.underlying3 h4
  obtain ⟨k, rfl, _⟩ := fit_int Try.underlying3 h5
  exact ⟨⟨i, j, k⟩, rfl⟩
theorem fit_net {f : Nat} {x : List AV} (h : Fit Try.prog f 24 x) : ∃ n : Net, x = [.int .i64 n.N, .rsl 3 (n.E.map edgeV)] ∧ n.E.length ≤ 9223372036854775807 := by
  obtain ⟨f', parts, rfl, h2⟩ := fit_struct Try.underlying24 h
  obtain ⟨a, b, rfl, h3, h4⟩ := F2.two h2
  obtain ⟨i, rfl, _⟩ := fit_int Try.underlying3 h3
  obtain ⟨es, f2, rfl, h5, h6⟩ := fit_slice (m := 3) Try.underlying22 (by kernel_rfl) (by decide) h4
  obtain ⟨E, rfl⟩ := exists_map fun y hy => fit_edge (h6 y hy)
  refine ⟨⟨i, E⟩, rfl, ?_⟩
  simpa [maxLen] using h5
end Go.AM
/- More shapes of the flow laws' arguments. -/
namespace Go.AM
open Go.Proofs
theorem fit_ints {f : Nat} {x : List AV} (h : Fit Try.prog f 27 x) : ∃ ws : List Int, x = [.rsl 1 (ints ws)] ∧ ws.length ≤ 9223372036854775807 := by
  obtain ⟨es, f2, rfl, h5, h6⟩ := fit_slice (m := 1) Try.underlying27 (by kernel_rfl) (by decide) h
  obtain ⟨ws, rfl⟩ := exists_map (f := fun x : Int => [AV.int .i64 x]) fun y hy => by
    obtain ⟨n, e, _⟩ := fit_int Try.underlying3 (h6 y hy)
    exact ⟨n, e⟩
  exact ⟨ws, rfl, by simpa [maxLen] using h5⟩
theorem fit_pair {f : Nat} {x : List AV} (h : Fit Try.prog f 49 x) : ∃ p : Int × Int, x = pairV p := by
  obtain ⟨f', parts, rfl, hl, h2⟩ := fit_array Try.underlying49 h
  match parts, hl, h2 with
  | [a, b], _, h2 =>
    obtain ⟨i, rfl, _⟩ := fit_int Try.underlying3 (h2 a (by simp))
    obtain ⟨j, rfl, _⟩ := fit_int Try.underlying3 (h2 b (by simp))
    exact ⟨(i, j), rfl⟩
theorem fit_pairs {f : Nat} {x : List AV} (h : Fit Try.prog f 44 x) : ∃ ns : List (Int × Int), x = [.rsl 2 (ns.map pairV)] ∧ ns.length ≤ 9223372036854775807 := by
  obtain ⟨es, f2, rfl, h5, h6⟩ := fit_slice (m := 2) Try.underlying44 (by kernel_rfl) (by decide) h
  obtain ⟨ns, rfl⟩ := exists_map (f := pairV) fun y hy => fit_pair (h6 y hy)
  exact ⟨ns, rfl, by simpa [maxLen] using h5⟩
end Go.AM
/- The shape of a set. -/
namespace Go.AM
open Go.Proofs
theorem F2.five {α β : Type} {R : α → β → Prop} {a b c d e : α} {l : List β} (h : F2 R [a, b, c, d, e] l) : ∃ x y z u v, l = [x, y, z, u, v] ∧ R a x ∧ R b y ∧ R c z ∧ R d u ∧ R e v := by
  cases h with | cons h1 t => cases t with | cons h2 t => cases t with | cons h3 t => cases t with | cons h4 t => cases t with | cons h5 t => cases t with | nil => exact ⟨_, _, _, _, _, rfl, h1, h2, h3, h4, h5⟩
theorem F2.four {α β : Type} {R : α → β → Prop} {a b c d : α} {l : List β} (h : F2 R [a, b, c, d] l) : ∃ x y z u, l = [x, y, z, u] ∧ R a x ∧ R b y ∧ R c z ∧ R d u := by
  cases h with | cons h1 t => cases t with | cons h2 t => cases t with | cons h3 t => cases t with | cons h4 t => cases t with | nil => exact ⟨_, _, _, _, rfl, h1, h2, h3, h4⟩
theorem exists_mapP {α β : Type} {f : α → β} {p : α → Prop} : ∀ {l : List β}, (∀ x ∈ l, ∃ a, x = f a ∧ p a) → ∃ m : List α, l = m.map f ∧ ∀ a ∈ m, p a
  | [], _ => ⟨[], rfl, fun _ h => by cases h⟩
  | x :: l, h => by
    obtain ⟨a, rfl, ha⟩ := h x (List.mem_cons_self ..)
    obtain ⟨m, rfl, hm⟩ := exists_mapP fun y hy => h y (List.mem_cons_of_mem _ hy)
    exact ⟨a :: m, rfl, fun b hb => by rcases List.mem_cons.1 hb with rfl | hb; exact ha; exact hm b hb⟩
theorem okW_of {W : List Int} (h : ∀ w ∈ W, 0 ≤ w ∧ w ≤ 18446744073709551615) : okW W := fun i => by
  by_cases hi : i < W.length
  · have := h _ (mem_getD hi 0); omega
  · rw [List.getD_eq_getElem?_getD, List.getElem?_eq_none (by omega)]; simp
theorem fit_words {f : Nat} {x : List AV} (h : Fit Try.prog f 35 x) : ∃ W : List Int, x = [.rsl 1 (words W)] ∧ W.length ≤ 9223372036854775807 ∧ okW W := by
  obtain ⟨es, f2, rfl, h5, h6⟩ := fit_slice (m := 1) Try.underlying35 (by kernel_rfl) (by decide) h
  obtain ⟨ws, rfl, hw⟩ := exists_mapP (f := fun x : Int => [AV.int .u64 x]) (p := fun w => 0 ≤ w ∧ w ≤ 18446744073709551615) fun y hy => by
    obtain ⟨n, e, h1, h2⟩ := fit_int Try.underlying54 (h6 y hy)
    exact ⟨n, e, by simpa [IntKind.min, IntKind.signed] using h1, by simpa [IntKind.max, IntKind.signed, IntKind.bits] using h2⟩
  exact ⟨ws, rfl, by simpa [maxLen] using h5, okW_of hw⟩
theorem fit_set {f : Nat} {x : List AV} (h : Fit Try.prog f 37 x) : ∃ (N : Int) (W : List Int), x = [.int .i64 N, .rsl 1 (words W)] ∧ W.length ≤ 9223372036854775807 ∧ okW W := by
  obtain ⟨f', parts, rfl, h2⟩ := fit_struct Try.underlying37 h
  obtain ⟨a, b, rfl, h3, h4⟩ := F2.two h2
  obtain ⟨i, rfl, _⟩ := fit_int Try.underlying3 h3
  obtain ⟨W, rfl, h5, h6⟩ := fit_words h4
  exact ⟨i, W, rfl, h5, h6⟩
end Go.AM
namespace Go.Proofs.F
open Go.AM Go
set_option maxRecDepth 100000
set_option maxHeartbeats 1000000
theorem dual_spec (n : Net) (s t : Int) (hlen : n.E.length ≤ 9223372036854775807) (hv : validB n = true) (he : endsB n s t = true) (hN : n.N ≤ 10) : ∃ (v : Int) (fl : List Int) (X : Nat),
    Reads Try.prog 12 false [netV n, .int .i64 s, .int .i64 t] (.tup [.int .i64 v, .rsl 1 (ints fl), .int .i64 ((0 : Nat) : Int)]) ∧
    Reads Try.prog 18 false [netV n, .int .i64 s, .int .i64 t] (.tup [.agg [.int .i64 n.N, .rsl 1 (words [(X : Int)])], .int .i64 v, .int .i64 ((0 : Nat) : Int)]) ∧
    fl.length = n.E.length ∧ checkS n s t fl n.N [(X : Int)] = true ∧ X < 2 ^ n.N.toNat ∧ ∀ m : Nat, m.testBit s.toNat = true → m.testBit t.toNat = false → v ≤ capAt n.E (bitS m) n.E.length ∧ (capAt n.E (bitS m) n.E.length = v → m &&& X = X) := by
  obtain ⟨hN1, hN2, hE⟩ := valid_size hv
  have hends : 0 ≤ s ∧ s < n.N ∧ 0 ≤ t ∧ t < n.N := by simp [endsB] at he; omega
  obtain ⟨v, fl, e, hM, _, _, hM3⟩ := max_spec n s t hlen
  obtain ⟨e0, hf, hvf, hmax⟩ := hM3 hv he
  obtain ⟨N, v2, W, e2, hC, _, _, _, hC3⟩ := cut_spec n s t hlen
  obtain ⟨e20, hNN, fl2, b, hf2, hv2, hmax2, hbl, hWb, hnear, hbt⟩ := hC3 hv he
  subst e0 e20 hNN
  have hvv : v2 = v := by have := hmax fl2 hf2; have := hmax2 fl hf; omega
  subst hvv
  obtain ⟨X, hX1, hX2, hX3⟩ := setW_mask (b := b) (by omega) (by omega)
  rw [hWb, hX1] at hC
  have hbs : b.getD s.toNat false = true := hnear.src
  have hm1 := setW_mem (b := b) (i := s) hends.1 (by omega)
  have hm2 := setW_mem (b := b) (i := t) hends.2.2.1 (by omega)
  have hcap : bal n fl s = capAt n.E (hasW (setW b b.length)) n.E.length := by
    rw [← hvf, hv2, near_val hv hends.1 hends.2.1 hf2 hnear hbt]
    refine capAt_congr (fun i hi => ?_) _ (Nat.le_refl _)
    have := edges_in hv i hi
    rw [setW_mem (by omega) (by omega), setW_mem (by omega) (by omega)]
    exact ⟨rfl, rfl⟩
  have hvs := validS_setW (b := b) (by omega)
  rw [show (b.length : Int) = n.N by omega] at hvs
  rw [hX1] at hm1 hm2 hcap hvs
  refine ⟨v2, fl, X, hM, hC, hf.len, ?_, by rw [← hbl]; exact hX2, fun m hs ht => ?_⟩
  · unfold checkS
    rw [hv, he, (flowB_iff (by omega)).2 hf, hvs, hm1, hm2, hbs, hbt, hcap]; simp
  · have := dual_min hv he hf2 (by omega) hbl hX2 hX3 hnear hbt m hs ht
    rw [hv2]; exact this
theorem law_dual (n : Net) (s t : Int) (hlen : n.E.length ≤ 9223372036854775807) : Reads Try.prog 8 false [netV n, .int .i64 s, .int .i64 t] (.bool true) := by
  have haw := awake_r
  have hval := rvalid_r n hlen
  have hend := rends_r n s t
  have hspec := dual_spec n s t hlen
  have hfc := fun fl N W h1 h2 h3 => fcheck_r n s t fl N W hlen h1 h2 h3
  have hcb := fun M hv j (hj : j ≤ n.E.length) => capAt_bnd (E := n.E) (S := bitS M) (B := 1125899906842624) (fun i hi => by have := valid_edge hv (eAt_get hi); omega) j hj
  unfold netV at *
  refine Reads.body (rs := [.tmp 6]) Try.func8 rfl Try.ntmps8 rfl (by simp) ?_
  generalize hQr : retQ _ _ _ = Qr
  refine AW.seq fun K1 hK1 => ?_
  -- region 0
  refine AW.regionK 0 (fun _ => none) [1, 2, 3] [3] ?_
  simp only [go_sem, reduceIte, reduceCtorEq, Nat.reduceAdd, Nat.reduceMul, Nat.reduceEqDiff, Nat.reduceLT, Nat.reduceLeDiff, Nat.reduceSub, Nat.reducePow, Nat.reduceBEq, Int.reduceToNat, List.reduceReplicate]
  repeat with_reducible refine cj ?_ ?_
  all_goals try first | omega
  refine hK1 _ _ _ ?_; clear hK1
  refine AW.seq fun K2 hK2 => ?_
  refine AW.seq fun K3 hK3 => ?_
  -- region 1
  refine AW.regionK 0 (fun ii => if ii = 0 then some (.reads false (.bool true)) else none) [1, 2, 3, 18] [3] ?_
  simp only [go_sem, reduceIte, reduceCtorEq, Nat.reduceAdd, Nat.reduceMul, Nat.reduceEqDiff, Nat.reduceLT, Nat.reduceLeDiff, Nat.reduceSub, Nat.reducePow, Nat.reduceBEq, Int.reduceToNat, List.reduceReplicate]
  repeat with_reducible refine cj ?_ ?_
  all_goals try first | (exact haw) | omega | exact ent (by kernel_rfl)
  refine hK3 _ _ _ ?_; clear hK3
  -- cond 1
  refine AW.cond rfl (by simp only [go_sem, reduceIte, reduceCtorEq, Nat.reduceAdd, Nat.reduceMul, Nat.reduceEqDiff, Nat.reduceLT, Nat.reduceLeDiff, Nat.reduceSub, Nat.reducePow, Nat.reduceBEq, Int.reduceToNat, List.reduceReplicate]) ?_ ?_
  · intro hb
    try simp only [hB, decide_eq_true_eq, decide_eq_false_iff_not] at hb
    simp at hb
  · intro hb
    try simp only [hB, decide_eq_true_eq, decide_eq_false_iff_not] at hb
    refine AW.skip ?_
    refine hK2 _ _ _ ?_; clear hK2
    refine AW.seq fun K4 hK4 => ?_
    refine AW.seq fun K5 hK5 => ?_
    -- region 3
    refine AW.regionK 0 (fun ii => if ii = 1 then some (.reads false (.bool (validB n))) else if ii = 7 then some (.reads false (.bool (endsB n s t))) else none) [1, 2, 3, 39] [3] ?_
    simp only [go_sem, reduceIte, reduceCtorEq, Nat.reduceAdd, Nat.reduceMul, Nat.reduceEqDiff, Nat.reduceLT, Nat.reduceLeDiff, Nat.reduceSub, Nat.reducePow, Nat.reduceBEq, Int.reduceToNat, List.reduceReplicate]
    repeat with_reducible refine cj ?_ ?_
    all_goals try first | (first | exact hval | (intro hh; exact ⟨hh, hend⟩)) | (intros; (repeat' apply And.intro) <;> first | assumption | (first | exact hval | (intro hh; exact ⟨hh, hend⟩))) | omega | exact ent (by kernel_rfl) | (intro hgd; exact absurd hgd (by decide)) | rfl | (simp only [go_sem, reduceIte, reduceCtorEq, Nat.reduceAdd, Nat.reduceMul, Nat.reduceEqDiff, Nat.reduceLT, Nat.reduceLeDiff, Nat.reduceSub, Nat.reducePow, Nat.reduceBEq, Int.reduceToNat, List.reduceReplicate]; done) | (intro _hgd; simp_all [go_sem]; done)
    refine hK5 _ _ _ ?_; clear hK5
    -- cond 2
    refine AW.cond rfl (by simp only [go_sem, reduceIte, reduceCtorEq, Nat.reduceAdd, Nat.reduceMul, Nat.reduceEqDiff, Nat.reduceLT, Nat.reduceLeDiff, Nat.reduceSub, Nat.reducePow, Nat.reduceBEq, Int.reduceToNat, List.reduceReplicate]) ?_ ?_
    · intro hb
      try simp only [hB, decide_eq_true_eq, decide_eq_false_iff_not] at hb
      refine AW.seq fun K6 hK6 => ?_
      -- region 4
      refine AW.regionK 0 (fun _ => none) [6] [] ?_
      simp only [go_sem, reduceIte, reduceCtorEq, Nat.reduceAdd, Nat.reduceMul, Nat.reduceEqDiff, Nat.reduceLT, Nat.reduceLeDiff, Nat.reduceSub, Nat.reducePow, Nat.reduceBEq, Int.reduceToNat, List.reduceReplicate]
      repeat with_reducible refine cj ?_ ?_
      all_goals try first | omega
      refine hK6 _ _ _ ?_; clear hK6
      refine AW.ret ?_
      rw [← hQr]
      simp only [go_sem, reduceIte, reduceCtorEq, Nat.reduceAdd, Nat.reduceMul, Nat.reduceEqDiff, Nat.reduceLT, Nat.reduceLeDiff, Nat.reduceSub, Nat.reducePow, Nat.reduceBEq, Int.reduceToNat, List.reduceReplicate]
      exact Wk.refl _
    · intro hb
      try simp only [hB, decide_eq_true_eq, decide_eq_false_iff_not] at hb
      have hv : validB n = true := by revert hb; cases validB n <;> simp
      have he : endsB n s t = true := by revert hb; cases endsB n s t <;> simp
      have hz : n.N ≤ 10 ∧ n.E.length ≤ 100 := by rw [hv, he] at hb; simp at hb; omega
      obtain ⟨hN1, hN2, hE⟩ := valid_size hv
      have hends : 0 ≤ s ∧ s < n.N ∧ 0 ≤ t ∧ t < n.N := by simp [endsB] at he; omega
      obtain ⟨v, fl, X, hM, hC, hfl, hck, hX, hbest⟩ := hspec hv he hz.1
      clear hspec
      have hp10 : 2 ^ n.N.toNat ≤ 1024 := by have : (2 : Nat) ^ n.N.toNat ≤ 2 ^ 10 := Nat.pow_le_pow_right (by decide) (by omega); simpa using this
      have hfc := hfc fl n.N [(X : Int)] (by omega) (by simp) (okW_of (by intro w hw; simp at hw; omega))
      rw [hck] at hfc
      have hcb := fun M => hcb M hv
      have hsh : bShl .u64 1 n.N = ((2 ^ n.N.toNat : Nat) : Int) := by have := bShl_nat (k := n.N.toNat) (by omega); rw [Int.toNat_of_nonneg (by omega)] at this; exact this
      generalize hT : 2 ^ n.N.toNat = T at *
      have hgX : (words [(X : Int)]).getD 0 [] = [.int .u64 X] := rfl
      have hlX : (words [(X : Int)]).length = 1 := rfl
      refine AW.skip ?_
      refine hK4 _ _ _ ?_; clear hK4
      refine AW.seq fun K7 hK7 => ?_
      -- region 5
      refine AW.regionK 0 (fun ii => if ii = 3 then some (.reads false (.tup [.int .i64 v, .rsl 1 (ints fl), .int .i64 ((0 : Nat) : Int)])) else none) [1, 2, 3, 7, 8, 9] [3] ?_
      simp only [go_sem, reduceIte, reduceCtorEq, Nat.reduceAdd, Nat.reduceMul, Nat.reduceEqDiff, Nat.reduceLT, Nat.reduceLeDiff, Nat.reduceSub, Nat.reducePow, Nat.reduceBEq, Int.reduceToNat, List.reduceReplicate]
      repeat with_reducible refine cj ?_ ?_
      all_goals try first | (exact hM) | omega | exact ent (by kernel_rfl)
      refine hK7 _ _ _ ?_; clear hK7
      refine AW.seq fun K8 hK8 => ?_
      -- region 6
      refine AW.regionK 0 (fun ii => if ii = 3 then some (.reads false (.tup [.agg [.int .i64 n.N, .rsl 1 (words [(X : Int)])], .int .i64 v, .int .i64 ((0 : Nat) : Int)])) else none) [1, 2, 3, 7, 8, 9, 10, 11, 12] [3, 10] ?_
      simp only [go_sem, reduceIte, reduceCtorEq, Nat.reduceAdd, Nat.reduceMul, Nat.reduceEqDiff, Nat.reduceLT, Nat.reduceLeDiff, Nat.reduceSub, Nat.reducePow, Nat.reduceBEq, Int.reduceToNat, List.reduceReplicate]
      repeat with_reducible refine cj ?_ ?_
      all_goals try first | (exact hC) | omega | exact ent (by kernel_rfl)
      refine hK8 _ _ _ ?_; clear hK8
      refine AW.seq fun K9 hK9 => ?_
      refine AW.seq fun K10 hK10 => ?_
      -- region 7
      refine AW.regionK 0 (fun ii => if ii = 17 then some (.reads false (.bool true)) else none) [1, 2, 3, 7, 10, 81] [3, 10] ?_
      simp only [go_sem, reduceIte, reduceCtorEq, Nat.reduceAdd, Nat.reduceMul, Nat.reduceEqDiff, Nat.reduceLT, Nat.reduceLeDiff, Nat.reduceSub, Nat.reducePow, Nat.reduceBEq, Int.reduceToNat, List.reduceReplicate, hlX]
      repeat with_reducible refine cj ?_ ?_
      all_goals try first | ((intro hh; exact ⟨hh, hfc⟩)) | (intros; (repeat' apply And.intro) <;> first | assumption | ((intro hh; exact ⟨hh, hfc⟩))) | omega | exact ent (by kernel_rfl) | (intro hgd; exact absurd hgd (by decide)) | rfl | (simp only [go_sem, reduceIte, reduceCtorEq, Nat.reduceAdd, Nat.reduceMul, Nat.reduceEqDiff, Nat.reduceLT, Nat.reduceLeDiff, Nat.reduceSub, Nat.reducePow, Nat.reduceBEq, Int.reduceToNat, List.reduceReplicate, hlX]; done) | (intro _hgd; simp_all [go_sem]; done)
      refine hK10 _ _ _ ?_; clear hK10
      -- cond 3
      refine AW.cond rfl (by simp only [go_sem, reduceIte, reduceCtorEq, Nat.reduceAdd, Nat.reduceMul, Nat.reduceEqDiff, Nat.reduceLT, Nat.reduceLeDiff, Nat.reduceSub, Nat.reducePow, Nat.reduceBEq, Int.reduceToNat, List.reduceReplicate]) ?_ ?_
      · intro hb
        try simp only [hB, decide_eq_true_eq, decide_eq_false_iff_not] at hb
        exfalso; simp at hb
      · intro hb
        try simp only [hB, decide_eq_true_eq, decide_eq_false_iff_not] at hb
        refine AW.skip ?_
        refine hK9 _ _ _ ?_; clear hK9
        refine AW.seq fun K11 hK11 => ?_
        refine AW.seq fun K12 hK12 => ?_
        -- region 9
        refine AW.regionK 0 (fun _ => none) [1, 2, 3, 7, 10, 84, 85] [3, 10] ?_
        simp only [go_sem, reduceIte, reduceCtorEq, Nat.reduceAdd, Nat.reduceMul, Nat.reduceEqDiff, Nat.reduceLT, Nat.reduceLeDiff, Nat.reduceSub, Nat.reducePow, Nat.reduceBEq, Int.reduceToNat, List.reduceReplicate, hsh]
        repeat with_reducible refine cj ?_ ?_
        all_goals try first | omega
        refine hK12 _ _ _ ?_; clear hK12
        refine AW.block ?_
        -- loop 1
        refine AW.loopE (fun mm ee ss kk => ∃ (M g3 v3 g10 v10 : Nat), T - M = mm ∧ ee = [(1, .int .i64 s), (2, .int .i64 t), (3, .ptr ⟨3, g3, none⟩ 0 0), (7, .int .i64 v), (10, .ptr ⟨10, g10, none⟩ 0 0), (84, .int .u64 (T : Nat)), (85, .int .u64 (M : Nat))] ∧ ss = [(3, some ⟨g3, v3, 2, [[.int .i64 n.N, .rsl 3 (n.E.map edgeV)]]⟩), (10, some ⟨g10, v10, 2, [[.int .i64 n.N, .rsl 1 (words [(X : Int)])]]⟩)] ∧ (M ≤ T)) ?_ ?_
        · refine ⟨_, 0, ?_, ?_, ?_, ?_, rfl, ?henv, ?hstore, ?hst⟩
          case henv =>
            repeat' (first | rfl | refine env_cons ?_ ?_ | refine st_cons ?_ ?_ ?_ ?_ | refine int_eq ?_ | refine bool_eq ?_ | refine rsl_eq ?_ | refine osl_eq ?_ | refine sl_eq ?_ ?_ ?_ | refine ptr_eq ?_ ?_ ?_ | refine agg_eq ?_ | refine es_cons ?_ ?_ | refine row_cons ?_ ?_)
            all_goals (first | (simp; done) | omega | (simp; omega))
          case hstore =>
            repeat' (first | rfl | refine env_cons ?_ ?_ | refine st_cons ?_ ?_ ?_ ?_ | refine int_eq ?_ | refine bool_eq ?_ | refine rsl_eq ?_ | refine osl_eq ?_ | refine sl_eq ?_ ?_ ?_ | refine ptr_eq ?_ ?_ ?_ | refine agg_eq ?_ | refine es_cons ?_ ?_ | refine row_cons ?_ ?_)
            all_goals (first | (simp; done) | omega | (simp; omega))
          case hst =>
            first | trivial | omega | (simp; done) | (simp; omega)
        rintro mm ee ss kk ⟨M, g3, v3, g10, v10, rfl, rfl, rfl, hI⟩
        generalize hQl1 : thenQ _ _ = Ql1
        refine AW.seq fun K13 hK13 => ?_
        -- region 10
        refine AW.regionK 0 (fun _ => none) [1, 2, 3, 7, 10, 84, 85, 86] [3, 10] ?_
        simp only [go_sem, reduceIte, reduceCtorEq, Nat.reduceAdd, Nat.reduceMul, Nat.reduceEqDiff, Nat.reduceLT, Nat.reduceLeDiff, Nat.reduceSub, Nat.reducePow, Nat.reduceBEq, Int.reduceToNat, List.reduceReplicate]
        repeat with_reducible refine cj ?_ ?_
        all_goals try first | omega
        refine hK13 _ _ _ ?_; clear hK13
        refine AW.seq fun K14 hK14 => ?_
        -- cond 4
        refine AW.cond rfl (by simp only [go_sem, reduceIte, reduceCtorEq, Nat.reduceAdd, Nat.reduceMul, Nat.reduceEqDiff, Nat.reduceLT, Nat.reduceLeDiff, Nat.reduceSub, Nat.reducePow, Nat.reduceBEq, Int.reduceToNat, List.reduceReplicate]) ?_ ?_
        · intro hb
          try simp only [hB, decide_eq_true_eq, decide_eq_false_iff_not] at hb
          have hwr : IntKind.u64.wrap ((M : Int) + 1) = (M : Int) + 1 := by simp [IntKind.wrap, IntKind.signed, IntKind.bits]; omega
          have hbs := bit_at (m := M) (by omega) (i := s) (by omega) (by omega)
          have hbt := bit_at (m := M) (by omega) (i := t) (by omega) (by omega)
          refine AW.skip ?_
          refine hK14 _ _ _ ?_; clear hK14
          refine AW.seq fun K15 hK15 => ?_
          refine AW.block ?_
          refine AW.seq fun K16 hK16 => ?_
          -- region 11
          refine AW.regionK 0 (fun _ => none) [1, 2, 3, 7, 10, 13, 84, 85] [3, 10] ?_
          simp only [go_sem, reduceIte, reduceCtorEq, Nat.reduceAdd, Nat.reduceMul, Nat.reduceEqDiff, Nat.reduceLT, Nat.reduceLeDiff, Nat.reduceSub, Nat.reducePow, Nat.reduceBEq, Int.reduceToNat, List.reduceReplicate]
          repeat with_reducible refine cj ?_ ?_
          all_goals try first | omega
          refine hK16 _ _ _ ?_; clear hK16
          refine AW.seq fun K17 hK17 => ?_
          refine AW.seq fun K18 hK18 => ?_
          -- region 12
          refine AW.regionK 0 (fun _ => none) [1, 2, 3, 7, 10, 13, 84, 85, 99] [3, 10] ?_
          simp only [go_sem, reduceIte, reduceCtorEq, Nat.reduceAdd, Nat.reduceMul, Nat.reduceEqDiff, Nat.reduceLT, Nat.reduceLeDiff, Nat.reduceSub, Nat.reducePow, Nat.reduceBEq, Int.reduceToNat, List.reduceReplicate]
          repeat with_reducible refine cj ?_ ?_
          all_goals try first | omega | (intros; (repeat' apply And.intro) <;> first | assumption | omega | decide) | (intro hgd; exact absurd hgd (by decide)) | rfl | (simp only [go_sem, reduceIte, reduceCtorEq, Nat.reduceAdd, Nat.reduceMul, Nat.reduceEqDiff, Nat.reduceLT, Nat.reduceLeDiff, Nat.reduceSub, Nat.reducePow, Nat.reduceBEq, Int.reduceToNat, List.reduceReplicate]; done) | (intro _hgd; simp_all [go_sem]; done)
          refine hK18 _ _ _ ?_; clear hK18
          -- cond 5
          refine AW.cond rfl (by simp only [go_sem, reduceIte, reduceCtorEq, Nat.reduceAdd, Nat.reduceMul, Nat.reduceEqDiff, Nat.reduceLT, Nat.reduceLeDiff, Nat.reduceSub, Nat.reducePow, Nat.reduceBEq, Int.reduceToNat, List.reduceReplicate]) ?_ ?_
          · intro hb
            try simp only [hB, decide_eq_true_eq, decide_eq_false_iff_not] at hb
            refine AW.keep [1, 2, 3, 7, 10, 84, 85] [3, 10] ?_
            try simp only [go_sem, reduceIte, reduceCtorEq, Nat.reduceAdd, Nat.reduceMul, Nat.reduceEqDiff, Nat.reduceLT, Nat.reduceLeDiff, Nat.reduceSub, Nat.reducePow, Nat.reduceBEq, Int.reduceToNat, List.reduceReplicate]
            refine AW.exit ?_
            refine hK15 _ _ _ ?_; clear hK15
            -- region 22
            refine AW.regionK 0 (fun _ => none) [1, 2, 3, 7, 10, 84, 85] [3, 10] ?_
            simp only [go_sem, reduceIte, reduceCtorEq, Nat.reduceAdd, Nat.reduceMul, Nat.reduceEqDiff, Nat.reduceLT, Nat.reduceLeDiff, Nat.reduceSub, Nat.reducePow, Nat.reduceBEq, Int.reduceToNat, List.reduceReplicate, hwr]
            repeat with_reducible refine cj ?_ ?_
            all_goals try first | omega
            rw [← hQl1]
            change Exists _
            refine ⟨_, ?hm, M + 1, ?_, ?_, ?_, ?_, rfl, ?henv, ?hstore, ?hst⟩
            case henv =>
              repeat' (first | rfl | refine env_cons ?_ ?_ | refine st_cons ?_ ?_ ?_ ?_ | refine int_eq ?_ | refine bool_eq ?_ | refine rsl_eq ?_ | refine osl_eq ?_ | refine sl_eq ?_ ?_ ?_ | refine ptr_eq ?_ ?_ ?_ | refine agg_eq ?_ | refine es_cons ?_ ?_ | refine row_cons ?_ ?_)
              all_goals (first | (simp; done) | omega | (simp; omega))
            case hstore =>
              repeat' (first | rfl | refine env_cons ?_ ?_ | refine st_cons ?_ ?_ ?_ ?_ | refine int_eq ?_ | refine bool_eq ?_ | refine rsl_eq ?_ | refine osl_eq ?_ | refine sl_eq ?_ ?_ ?_ | refine ptr_eq ?_ ?_ ?_ | refine agg_eq ?_ | refine es_cons ?_ ?_ | refine row_cons ?_ ?_)
              all_goals (first | (simp; done) | omega | (simp; omega))
            case hst =>
              first | trivial | omega | (simp; done) | (simp; omega)
            case hm => omega
          · intro hb
            try simp only [hB, decide_eq_true_eq, decide_eq_false_iff_not] at hb
            have hms : M.testBit s.toNat = true := by rw [hbs, hbt] at hb; revert hb; cases M.testBit s.toNat <;> simp
            have hmt : M.testBit t.toNat = false := by rw [hbs, hbt] at hb; revert hb; cases M.testBit t.toNat <;> simp
            obtain ⟨hq1, hq2⟩ := hbest M hms hmt
            have hcb := hcb M
            refine AW.skip ?_
            refine hK17 _ _ _ ?_; clear hK17
            refine AW.seq fun K19 hK19 => ?_
            -- region 13
            refine AW.regionK 0 (fun _ => none) [1, 2, 3, 7, 10, 13, 14, 84, 85] [3, 10] ?_
            simp only [go_sem, reduceIte, reduceCtorEq, Nat.reduceAdd, Nat.reduceMul, Nat.reduceEqDiff, Nat.reduceLT, Nat.reduceLeDiff, Nat.reduceSub, Nat.reducePow, Nat.reduceBEq, Int.reduceToNat, List.reduceReplicate]
            repeat with_reducible refine cj ?_ ?_
            all_goals try first | omega
            refine hK19 _ _ _ ?_; clear hK19
            refine AW.seq fun K20 hK20 => ?_
            refine AW.seq fun K21 hK21 => ?_
            -- region 14
            refine AW.regionK 0 (fun _ => none) [1, 2, 3, 7, 10, 13, 14, 84, 85, 101, 102, 103] [3, 10] ?_
            simp only [go_sem, reduceIte, reduceCtorEq, Nat.reduceAdd, Nat.reduceMul, Nat.reduceEqDiff, Nat.reduceLT, Nat.reduceLeDiff, Nat.reduceSub, Nat.reducePow, Nat.reduceBEq, Int.reduceToNat, List.reduceReplicate]
            repeat with_reducible refine cj ?_ ?_
            all_goals try first | omega
            refine hK21 _ _ _ ?_; clear hK21
            refine AW.block ?_
            -- loop 2
            refine AW.loopE (fun mm ee ss kk => ∃ (j g3 v3 g10 v10 : Nat), n.E.length - j = mm ∧ ee = [(1, .int .i64 s), (2, .int .i64 t), (3, .ptr ⟨3, g3, none⟩ 0 0), (7, .int .i64 v), (10, .ptr ⟨10, g10, none⟩ 0 0), (13, .int .u64 (M : Nat)), (14, .int .i64 (capAt n.E (bitS M) j)), (84, .int .u64 (T : Nat)), (85, .int .u64 (M : Nat)), (101, .rsl 3 (n.E.map edgeV)), (102, .int .i64 n.E.length), (103, .int .i64 (j : Nat))] ∧ ss = [(3, some ⟨g3, v3, 2, [[.int .i64 n.N, .rsl 3 (n.E.map edgeV)]]⟩), (10, some ⟨g10, v10, 2, [[.int .i64 n.N, .rsl 1 (words [(X : Int)])]]⟩)] ∧ (j ≤ n.E.length)) ?_ ?_
            · refine ⟨_, 0, ?_, ?_, ?_, ?_, rfl, ?henv, ?hstore, ?hst⟩
              case henv =>
                repeat' (first | rfl | refine env_cons ?_ ?_ | refine st_cons ?_ ?_ ?_ ?_ | refine int_eq ?_ | refine bool_eq ?_ | refine rsl_eq ?_ | refine osl_eq ?_ | refine sl_eq ?_ ?_ ?_ | refine ptr_eq ?_ ?_ ?_ | refine agg_eq ?_ | refine es_cons ?_ ?_ | refine row_cons ?_ ?_)
                all_goals (first | (simp; done) | omega | (simp; omega))
              case hstore =>
                repeat' (first | rfl | refine env_cons ?_ ?_ | refine st_cons ?_ ?_ ?_ ?_ | refine int_eq ?_ | refine bool_eq ?_ | refine rsl_eq ?_ | refine osl_eq ?_ | refine sl_eq ?_ ?_ ?_ | refine ptr_eq ?_ ?_ ?_ | refine agg_eq ?_ | refine es_cons ?_ ?_ | refine row_cons ?_ ?_)
                all_goals (first | (simp; done) | omega | (simp; omega))
              case hst =>
                first | trivial | omega | (simp; done) | (simp; omega)
            rintro mm ee ss kk ⟨j, g3, v3, g10, v10, rfl, rfl, rfl, hI⟩
            generalize hQl2 : thenQ _ _ = Ql2
            refine AW.seq fun K22 hK22 => ?_
            -- region 15
            refine AW.regionK 0 (fun _ => none) [1, 2, 3, 7, 10, 13, 14, 84, 85, 101, 102, 103, 104] [3, 10] ?_
            simp only [go_sem, reduceIte, reduceCtorEq, Nat.reduceAdd, Nat.reduceMul, Nat.reduceEqDiff, Nat.reduceLT, Nat.reduceLeDiff, Nat.reduceSub, Nat.reducePow, Nat.reduceBEq, Int.reduceToNat, List.reduceReplicate]
            repeat with_reducible refine cj ?_ ?_
            all_goals try first | omega
            refine hK22 _ _ _ ?_; clear hK22
            refine AW.seq fun K23 hK23 => ?_
            -- cond 6
            refine AW.cond rfl (by simp only [go_sem, reduceIte, reduceCtorEq, Nat.reduceAdd, Nat.reduceMul, Nat.reduceEqDiff, Nat.reduceLT, Nat.reduceLeDiff, Nat.reduceSub, Nat.reducePow, Nat.reduceBEq, Int.reduceToNat, List.reduceReplicate]) ?_ ?_
            · intro hb
              try simp only [hB, decide_eq_true_eq, decide_eq_false_iff_not] at hb
              obtain ⟨x, hx⟩ := getI (l := n.E) (j := j) (by omega)
              have hxv := getV (f := edgeV) hx
              have hea := eAt_of hx
              have hxr := valid_edge hv hx
              have hcs : capAt n.E (bitS M) (j + 1) = capAt n.E (bitS M) j + if bitS M (eAt n.E j).fr = true ∧ bitS M (eAt n.E j).to = false then (eAt n.E j).cap else 0 := rfl
              have hb0 := hcb j (by omega)
              rw [hea] at hcs
              have hbf := bit_at (m := M) (by omega) (i := x.fr) (by omega) (by omega)
              have hbo := bit_at (m := M) (by omega) (i := x.to) (by omega) (by omega)
              generalize capAt n.E (bitS M) j = cq at *
              refine AW.skip ?_
              refine hK23 _ _ _ ?_; clear hK23
              refine AW.seq fun K24 hK24 => ?_
              refine AW.block ?_
              refine AW.seq fun K25 hK25 => ?_
              -- region 16
              refine AW.regionK 0 (fun _ => none) [1, 2, 3, 7, 10, 13, 14, 16, 84, 85, 101, 102, 103] [3, 10, 16] ?_
              simp only [go_sem, reduceIte, reduceCtorEq, Nat.reduceAdd, Nat.reduceMul, Nat.reduceEqDiff, Nat.reduceLT, Nat.reduceLeDiff, Nat.reduceSub, Nat.reducePow, Nat.reduceBEq, Int.reduceToNat, List.reduceReplicate, hxv, edgeV]
              repeat with_reducible refine cj ?_ ?_
              all_goals try first | omega
              refine hK25 _ _ _ ?_; clear hK25
              refine AW.seq fun K26 hK26 => ?_
              -- region 17
              refine AW.regionK 0 (fun _ => none) [1, 2, 3, 7, 10, 13, 14, 16, 84, 85, 101, 102, 103, 120] [3, 10, 16] ?_
              simp only [go_sem, reduceIte, reduceCtorEq, Nat.reduceAdd, Nat.reduceMul, Nat.reduceEqDiff, Nat.reduceLT, Nat.reduceLeDiff, Nat.reduceSub, Nat.reducePow, Nat.reduceBEq, Int.reduceToNat, List.reduceReplicate]
              repeat with_reducible refine cj ?_ ?_
              all_goals try first | omega | (intros; (repeat' apply And.intro) <;> first | assumption | omega | decide) | (intro hgd; exact absurd hgd (by decide)) | rfl | (simp only [go_sem, reduceIte, reduceCtorEq, Nat.reduceAdd, Nat.reduceMul, Nat.reduceEqDiff, Nat.reduceLT, Nat.reduceLeDiff, Nat.reduceSub, Nat.reducePow, Nat.reduceBEq, Int.reduceToNat, List.reduceReplicate]; done) | (intro _hgd; simp_all [go_sem]; done)
              refine hK26 _ _ _ ?_; clear hK26
              -- cond 7
              refine AW.cond rfl (by simp only [go_sem, reduceIte, reduceCtorEq, Nat.reduceAdd, Nat.reduceMul, Nat.reduceEqDiff, Nat.reduceLT, Nat.reduceLeDiff, Nat.reduceSub, Nat.reducePow, Nat.reduceBEq, Int.reduceToNat, List.reduceReplicate]) ?_ ?_
              · intro hb
                try simp only [hB, decide_eq_true_eq, decide_eq_false_iff_not] at hb
                rw [if_pos (by unfold bitS; rw [hbf, hbo] at hb; revert hb; cases M.testBit x.fr.toNat <;> cases M.testBit x.to.toNat <;> simp)] at hcs
                -- region 18
                refine AW.regionK 0 (fun _ => none) [1, 2, 3, 7, 10, 13, 14, 84, 85, 101, 102, 103] [3, 10] ?_
                simp only [go_sem, reduceIte, reduceCtorEq, Nat.reduceAdd, Nat.reduceMul, Nat.reduceEqDiff, Nat.reduceLT, Nat.reduceLeDiff, Nat.reduceSub, Nat.reducePow, Nat.reduceBEq, Int.reduceToNat, List.reduceReplicate]
                repeat with_reducible refine cj ?_ ?_
                all_goals try first | omega
                refine hK24 _ _ _ ?_; clear hK24
                -- region 19
                refine AW.regionK 0 (fun _ => none) [1, 2, 3, 7, 10, 13, 14, 84, 85, 101, 102, 103] [3, 10] ?_
                simp only [go_sem, reduceIte, reduceCtorEq, Nat.reduceAdd, Nat.reduceMul, Nat.reduceEqDiff, Nat.reduceLT, Nat.reduceLeDiff, Nat.reduceSub, Nat.reducePow, Nat.reduceBEq, Int.reduceToNat, List.reduceReplicate]
                repeat with_reducible refine cj ?_ ?_
                all_goals try first | omega
                rw [← hQl2]
                change Exists _
                refine ⟨_, ?hm, j + 1, ?_, ?_, ?_, ?_, rfl, ?henv, ?hstore, ?hst⟩
                case henv =>
                  repeat' (first | rfl | refine env_cons ?_ ?_ | refine st_cons ?_ ?_ ?_ ?_ | refine int_eq ?_ | refine bool_eq ?_ | refine rsl_eq ?_ | refine osl_eq ?_ | refine sl_eq ?_ ?_ ?_ | refine ptr_eq ?_ ?_ ?_ | refine agg_eq ?_ | refine es_cons ?_ ?_ | refine row_cons ?_ ?_)
                  all_goals (rw [hcs]; try omega)
                case hstore =>
                  repeat' (first | rfl | refine env_cons ?_ ?_ | refine st_cons ?_ ?_ ?_ ?_ | refine int_eq ?_ | refine bool_eq ?_ | refine rsl_eq ?_ | refine osl_eq ?_ | refine sl_eq ?_ ?_ ?_ | refine ptr_eq ?_ ?_ ?_ | refine agg_eq ?_ | refine es_cons ?_ ?_ | refine row_cons ?_ ?_)
                  all_goals (first | (simp; done) | omega | (simp; omega))
                case hst =>
                  first | trivial | omega | (simp; done) | (simp; omega)
                case hm => omega
              · intro hb
                try simp only [hB, decide_eq_true_eq, decide_eq_false_iff_not] at hb
                rw [if_neg (by unfold bitS; rw [hbf, hbo] at hb; revert hb; cases M.testBit x.fr.toNat <;> cases M.testBit x.to.toNat <;> simp)] at hcs
                refine AW.skip ?_
                refine hK24 _ _ _ ?_; clear hK24
                -- region 19
                refine AW.regionK 0 (fun _ => none) [1, 2, 3, 7, 10, 13, 14, 84, 85, 101, 102, 103] [3, 10] ?_
                simp only [go_sem, reduceIte, reduceCtorEq, Nat.reduceAdd, Nat.reduceMul, Nat.reduceEqDiff, Nat.reduceLT, Nat.reduceLeDiff, Nat.reduceSub, Nat.reducePow, Nat.reduceBEq, Int.reduceToNat, List.reduceReplicate]
                repeat with_reducible refine cj ?_ ?_
                all_goals try first | omega
                rw [← hQl2]
                change Exists _
                refine ⟨_, ?hm, j + 1, ?_, ?_, ?_, ?_, rfl, ?henv, ?hstore, ?hst⟩
                case henv =>
                  repeat' (first | rfl | refine env_cons ?_ ?_ | refine st_cons ?_ ?_ ?_ ?_ | refine int_eq ?_ | refine bool_eq ?_ | refine rsl_eq ?_ | refine osl_eq ?_ | refine sl_eq ?_ ?_ ?_ | refine ptr_eq ?_ ?_ ?_ | refine agg_eq ?_ | refine es_cons ?_ ?_ | refine row_cons ?_ ?_)
                  all_goals (rw [hcs]; try omega)
                case hstore =>
                  repeat' (first | rfl | refine env_cons ?_ ?_ | refine st_cons ?_ ?_ ?_ ?_ | refine int_eq ?_ | refine bool_eq ?_ | refine rsl_eq ?_ | refine osl_eq ?_ | refine sl_eq ?_ ?_ ?_ | refine ptr_eq ?_ ?_ ?_ | refine agg_eq ?_ | refine es_cons ?_ ?_ | refine row_cons ?_ ?_)
                  all_goals (first | (simp; done) | omega | (simp; omega))
                case hst =>
                  first | trivial | omega | (simp; done) | (simp; omega)
                case hm => omega
            · intro hb
              try simp only [hB, decide_eq_true_eq, decide_eq_false_iff_not] at hb
              have hj : j = n.E.length := by omega
              subst hj
              have hcv := hcb n.E.length (Nat.le_refl _)
              generalize capAt n.E (bitS M) n.E.length = cq at *
              have hand : cq = v → bAnd .u64 (M : Int) (X : Int) = X := fun h => by rw [bAnd_nat (by omega) (by omega), hq2 h]
              refine AW.keep [1, 2, 3, 7, 10, 13, 14, 84, 85] [3, 10] ?_
              try simp only [go_sem, reduceIte, reduceCtorEq, Nat.reduceAdd, Nat.reduceMul, Nat.reduceEqDiff, Nat.reduceLT, Nat.reduceLeDiff, Nat.reduceSub, Nat.reducePow, Nat.reduceBEq, Int.reduceToNat, List.reduceReplicate]
              refine AW.exit ?_
              rw [← hQl2]
              refine hK20 _ _ _ ?_; clear hK20
              refine AW.seq fun K27 hK27 => ?_
              -- region 20
              refine AW.regionD mixed 0 (fun _ => none) [1, 2, 3, 7, 10, 84, 85, 146] [3, 10] ?_
              simp only [go_sem, reduceIte, reduceCtorEq, Nat.reduceAdd, Nat.reduceMul, Nat.reduceEqDiff, Nat.reduceLT, Nat.reduceLeDiff, Nat.reduceSub, Nat.reducePow, Nat.reduceBEq, Int.reduceToNat, List.reduceReplicate, hgX]
              repeat with_reducible refine cj ?_ ?_
              all_goals try first | omega | exact chk (by kernel_rfl) | (intros; (repeat' apply And.intro) <;> first | assumption | omega | decide) | (intro hgd; exact absurd hgd (by decide)) | rfl | (simp only [go_sem, reduceIte, reduceCtorEq, Nat.reduceAdd, Nat.reduceMul, Nat.reduceEqDiff, Nat.reduceLT, Nat.reduceLeDiff, Nat.reduceSub, Nat.reducePow, Nat.reduceBEq, Int.reduceToNat, List.reduceReplicate, hgX]; done) | (intro _hgd; simp_all [go_sem]; done)
              refine hK27 _ _ _ ?_; clear hK27
              -- cond 8
              refine AW.cond rfl (by simp only [go_sem, reduceIte, reduceCtorEq, Nat.reduceAdd, Nat.reduceMul, Nat.reduceEqDiff, Nat.reduceLT, Nat.reduceLeDiff, Nat.reduceSub, Nat.reducePow, Nat.reduceBEq, Int.reduceToNat, List.reduceReplicate]) ?_ ?_
              · intro hb
                try simp only [hB, decide_eq_true_eq, decide_eq_false_iff_not] at hb
                exfalso; rcases hb with hb | hb; omega; exact hb.2 (hand hb.1)
              · intro hb
                try simp only [hB, decide_eq_true_eq, decide_eq_false_iff_not] at hb
                refine AW.skip ?_
                refine hK15 _ _ _ ?_; clear hK15
                -- region 22
                refine AW.regionK 0 (fun _ => none) [1, 2, 3, 7, 10, 84, 85] [3, 10] ?_
                simp only [go_sem, reduceIte, reduceCtorEq, Nat.reduceAdd, Nat.reduceMul, Nat.reduceEqDiff, Nat.reduceLT, Nat.reduceLeDiff, Nat.reduceSub, Nat.reducePow, Nat.reduceBEq, Int.reduceToNat, List.reduceReplicate, hwr]
                repeat with_reducible refine cj ?_ ?_
                all_goals try first | omega
                rw [← hQl1]
                change Exists _
                refine ⟨_, ?hm, M + 1, ?_, ?_, ?_, ?_, rfl, ?henv, ?hstore, ?hst⟩
                case henv =>
                  repeat' (first | rfl | refine env_cons ?_ ?_ | refine st_cons ?_ ?_ ?_ ?_ | refine int_eq ?_ | refine bool_eq ?_ | refine rsl_eq ?_ | refine osl_eq ?_ | refine sl_eq ?_ ?_ ?_ | refine ptr_eq ?_ ?_ ?_ | refine agg_eq ?_ | refine es_cons ?_ ?_ | refine row_cons ?_ ?_)
                  all_goals (first | (simp; done) | omega | (simp; omega))
                case hstore =>
                  repeat' (first | rfl | refine env_cons ?_ ?_ | refine st_cons ?_ ?_ ?_ ?_ | refine int_eq ?_ | refine bool_eq ?_ | refine rsl_eq ?_ | refine osl_eq ?_ | refine sl_eq ?_ ?_ ?_ | refine ptr_eq ?_ ?_ ?_ | refine agg_eq ?_ | refine es_cons ?_ ?_ | refine row_cons ?_ ?_)
                  all_goals (first | (simp; done) | omega | (simp; omega))
                case hst =>
                  first | trivial | omega | (simp; done) | (simp; omega)
                case hm => omega
        · intro hb
          try simp only [hB, decide_eq_true_eq, decide_eq_false_iff_not] at hb
          refine AW.keep [] [] ?_
          try simp only [go_sem, reduceIte, reduceCtorEq, Nat.reduceAdd, Nat.reduceMul, Nat.reduceEqDiff, Nat.reduceLT, Nat.reduceLeDiff, Nat.reduceSub, Nat.reducePow, Nat.reduceBEq, Int.reduceToNat, List.reduceReplicate]
          refine AW.exit ?_
          rw [← hQl1]
          refine hK11 _ _ _ ?_; clear hK11
          refine AW.seq fun K28 hK28 => ?_
          -- region 23
          refine AW.regionK 0 (fun _ => none) [6] [] ?_
          simp only [go_sem, reduceIte, reduceCtorEq, Nat.reduceAdd, Nat.reduceMul, Nat.reduceEqDiff, Nat.reduceLT, Nat.reduceLeDiff, Nat.reduceSub, Nat.reducePow, Nat.reduceBEq, Int.reduceToNat, List.reduceReplicate]
          repeat with_reducible refine cj ?_ ?_
          all_goals try first | omega
          refine hK28 _ _ _ ?_; clear hK28
          refine AW.ret ?_
          rw [← hQr]
          simp only [go_sem, reduceIte, reduceCtorEq, Nat.reduceAdd, Nat.reduceMul, Nat.reduceEqDiff, Nat.reduceLT, Nat.reduceLeDiff, Nat.reduceSub, Nat.reducePow, Nat.reduceBEq, Int.reduceToNat, List.reduceReplicate]
          exact Wk.refl _
end Go.Proofs.F
