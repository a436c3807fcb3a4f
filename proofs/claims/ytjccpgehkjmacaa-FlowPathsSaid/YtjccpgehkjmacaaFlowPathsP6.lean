/- Lemmas and contracts, part 6: an abstract machine over the model, and the functions that the statement reaches. -/
import Derived.Test.YtjccpgehkjmacaaFlowPathsP5
import Derived.Below
import Derived.ChangeSame
import Derived.JoinedOf
import Derived.Handed
import Derived.Test.YtjccpgehkjmacaaRows
set_option linter.unusedVariables false
set_option linter.unusedSimpArgs false
/- A law's contract out of a contract over pure trees. -/
namespace Go.AM
open Go.RowKit Go.WideShapes Go.ChangeShapes

def aggT (P : Program) (t : TypeId) : Bool :=
  match P.underlying t with
  | some (.struct _) | some (.array _ _) => true
  | _ => false
def supT (P : Program) (t : TypeId) : Bool :=
  match P.underlying t with
  | some .bool | some (.int _) | some .string | some (.slice _) | some (.struct _) | some (.array _ _) => true
  | _ => false
def argAV (P : Program) (t : TypeId) (avs : List AV) : AV := if aggT P t then .agg avs else avs.getD 0 .any
def argsAV (P : Program) : List TypeId → List (List AV) → List AV
  | t :: ts, a :: avs => argAV P t a :: argsAV P ts avs
  | _, _ => []

theorem match_arg {P : Program} {w : World} {t : TypeId} {v : Value} {avs : List AV} {base : Nat} (hs : supT P t = true) (hok : Value.okWide P w .any base t v) (h : Match w avs v.cells.toList) : RelP (immW w) w (argAV P t avs) v := by
  have hone : (∀ cs, v ≠ .agg cs) → aggT P t = false → RelP (immW w) w (argAV P t avs) v := fun hv ha => by
    have hc : v.cells.toList = [v] := by
      cases v <;> first | rfl | exact absurd rfl (hv _)
    rw [hc] at h
    unfold argAV
    rw [ha]
    exact h.2 0 (by rw [h.1]; simp)
  have hagg : (∃ cs, v = .agg cs) → aggT P t = true → RelP (immW w) w (argAV P t avs) v := fun ⟨cs, e⟩ ha => by
    subst e
    unfold argAV
    rw [ha]
    obtain ⟨l⟩ := cs
    exact .agg _ _ h.1 h.2
  cases hu : P.underlying t with
  | none => simp [supT, hu] at hs
  | some d =>
    cases d <;> first | (simp [supT, hu] at hs; done) | skip
    case bool => obtain ⟨b, rfl⟩ := okWide_bool hu hok; exact hone (by simp) (by simp [aggT, hu])
    case int => obtain ⟨b, rfl⟩ := okWide_int hu hok; exact hone (by simp) (by simp [aggT, hu])
    case string => obtain ⟨b, rfl⟩ := okWide_string hu hok; exact hone (by simp) (by simp [aggT, hu])
    case slice => obtain ⟨b, _, _, rfl⟩ := okWide_slice hu hok; exact hone (by simp) (by simp [aggT, hu])
    case struct => obtain ⟨cs, rfl, _⟩ := okWide_struct hu hok; exact hagg ⟨_, rfl⟩ (by simp [aggT, hu])
    case array =>
      unfold Value.okWide at hok
      rw [hu] at hok
      obtain ⟨cs, rfl, _⟩ := hok
      exact hagg ⟨_, rfl⟩ (by simp [aggT, hu])

theorem args_match {H : Type} {enc : TypeId × Value → H} {P : Program} {w : World} {base : Nat} (hl : laidOutB P = true) : ∀ {ts : List TypeId} {vs : List Value} {ds : List (DataW H)} {ps : List MemPlace}, (∀ t ∈ ts, t < P.types.size ∧ supT P t = true) →
    (∀ (j : Nat) t v, ts[j]? = some t → vs[j]? = some v → Value.okWide P w .any base t v) → DataW.TrodAll enc P w 0 (fun _ => true) true ts vs ds ps →
    ∃ ass, F2 (fun t avs => ∃ n, Fit P n t avs) ts ass ∧ (argsAV P ts ass).length = vs.length ∧ ∀ i, i < vs.length → RelP (immW w) w ((argsAV P ts ass).getD i .any) (vs.getD i undef)
  | [], vs, ds, ps, _, _, h => by
    obtain ⟨rfl, _, _⟩ := trodAll_nil h
    exact ⟨[], .nil, rfl, by simp⟩
  | t :: ts, vs, ds, ps, hts, hv, h => by
    obtain ⟨v, vs', d, ds', p, q, rfl, rfl, rfl, ⟨n, h1⟩, h2⟩ := trodAll_cons h
    obtain ⟨avs, k1, k2⟩ := fit_of_trod hl n t _ _ (hts t (List.mem_cons_self ..)).1 h1
    obtain ⟨ass, j1, j2, j3⟩ := args_match hl (fun t ht => hts t (List.mem_cons_of_mem _ ht)) (fun j t v e1 e2 => hv (j + 1) t v (by simpa using e1) (by simpa using e2)) h2
    refine ⟨avs :: ass, .cons ⟨n, k1⟩ j1, by simp [argsAV, j2], fun i hi => ?_⟩
    cases i with
    | zero => simpa [argsAV] using match_arg (hts t (List.mem_cons_self ..)).2 (hv 0 t v rfl rfl) k2
    | succ i => simpa [argsAV] using j3 i (by simpa using hi)

theorem Ext.below {w w' : World} (h : Ext (fun _ => False) w w') : Below w.heap.size w w' := ⟨h.os, h.tape, h.output, h.size, fun k hk => h.block k hk fun e => e⟩

theorem trodAll_below {H : Type} {enc : TypeId × Value → H} {P : Program} {W W' : World} (hl : laidOutB P = true) (hb : Below W.heap.size W W') {sp : Nat → Bool} : ∀ {ts : List TypeId} {vs : List Value} {ds : List (DataW H)} {ps : List MemPlace},
    (∀ t ∈ ts, t < P.types.size ∧ P.readableRec t = true) → DataW.TrodAll enc P W 0 (fun _ => true) true ts vs ds ps → (∀ p ∈ ps, p.block < W.heap.size ∧ sp p.block = true) → DataW.TrodAll enc P W' 0 sp true ts vs ds ps
  | [], vs, ds, ps, _, h, _ => by
    obtain ⟨rfl, rfl, rfl⟩ := trodAll_nil h
    rfl
  | t :: ts, vs, ds, ps, hts, h, hp => by
    obtain ⟨v, vs', d, ds', p, q, rfl, rfl, rfl, h1, h2⟩ := trodAll_cons h
    obtain ⟨g1, g2⟩ := hts t (List.mem_cons_self ..)
    exact ⟨p, q, WideElems.Trod_stays hl g2 g1 h1 (fun x hx => hb.same (hp x (List.mem_append_left _ hx)).1) (fun x hx => (hp x (List.mem_append_left _ hx)).2),
      trodAll_below hl hb (fun t ht => hts t (List.mem_cons_of_mem _ ht)) h2 (fun x hx => hp x (List.mem_append_right _ hx)), rfl⟩

theorem trodAll_len {H : Type} {enc : TypeId × Value → H} {P : Program} {w : World} {b : Nat} {sp : Nat → Bool} {hd : Bool} : ∀ {ts : List TypeId} {vs : List Value} {ds : List (DataW H)} {ps : List MemPlace}, DataW.TrodAll enc P w b sp hd ts vs ds ps → vs.length = ts.length ∧ ds.length = ts.length
  | [], vs, ds, ps, h => by
    obtain ⟨rfl, rfl, rfl⟩ := trodAll_nil h
    exact ⟨rfl, rfl⟩
  | t :: ts, vs, ds, ps, h => by
    obtain ⟨v, vs', d, ds', p, q, rfl, rfl, rfl, _, h2⟩ := trodAll_cons h
    have := trodAll_len h2
    exact ⟨by simp [this.1], by simp [this.2]⟩

/-- What the form asks of a law's call, out of a contract over pure trees. -/
theorem law_contract {H : Type} {enc : TypeId × Value → H} {P : Program} {fn : Func} {f : FuncId} {s : ChangeSpec} (hl : laidOutB P = true) {ts : List TypeId} {T : TypeId} (hps : fn.params.toList = ts) (hrs : fn.resultTypes = #[T]) (hT : P.underlying T = some .bool)
    (hts : ts.all (fun t => decide (t < P.types.size) && supT P t && P.readableRec t) = true) (hvars : s.vars = []) (hs : ∀ ds : List (DataW H), ds.length = ts.length → s.fn H ds = { results := [.lit (.bool true)], args := ds })
    (hread : ∀ ass, F2 (fun t avs => ∃ n, Fit P n t avs) ts ass → Reads P f false (argsAV P ts ass) (.bool true))
    {W : World} {base : Nat} {args : Array Value} {ds gs : List (DataW H)} {before : List MemPlace} (hval : ∀ (j : Nat) t v, fn.params[j]? = some t → args[j]? = some v → Value.okWide P W .any base t v)
    (hW : DataW.Whole enc P fn.params.toList s.vars false W args.toList ds gs before) :
    Calls P f args W fun e W' => ∃ v, e = .returned v ∧ s.post enc P fn false true false false W args v W' := by
  have hts' : ∀ t ∈ ts, t < P.types.size ∧ supT P t = true ∧ P.readableRec t = true := fun t ht => by
    have := List.all_eq_true.1 hts t ht
    simpa [and_assoc] using this
  have hW' := hW
  obtain ⟨p, q, hA, hV, rfl, hfz, hnd⟩ := hW
  rw [hvars] at hV
  obtain ⟨rfl, rfl⟩ := trodVars_none hV
  rw [hps] at hA
  obtain ⟨hl1, hl2⟩ := trodAll_len hA
  obtain ⟨ass, j1, j2, j3⟩ := args_match hl (fun t ht => ⟨(hts' t ht).1, (hts' t ht).2.1⟩) (fun j t v e1 e2 => hval j t v (by rw [← hps] at e1; simpa using e1) (by simpa using e2)) hA
  have hc := hread ass j1 W (fun _ => False) args.toList (fun _ h => h.elim) j2.symm (fun i hi => j3 i (by omega))
  rw [show args.toList.toArray = args by simp] at hc
  refine hc.mono fun e W' ⟨u, h1, h2, h3⟩ => ⟨u, h1, ?_⟩
  have hu : u = .bool true := by cases h3; rfl
  subst hu
  have hb := h2.below
  have hlt : ∀ x ∈ p, x.block < W.heap.size := fun x hx => hW'.lt x (by simpa using hx)
  have hsf := hs ds hl2
  have hres : ∀ (b : Nat) (sp : Nat → Bool) (hd : Bool), DataW.TrodAll enc P W' b sp hd fn.resultTypes.toList ((Value.bool true).resultList fn.resultTypes.size) (s.fn H (ds ++ [])).results [] := fun b sp hd => by
    rw [hrs, List.append_nil, hsf]
    exact trodAll_mk1 (shut_bool hT true)
  have hargs : ∀ sp : Nat → Bool, (∀ x ∈ p, sp x.block = true) → DataW.TrodAll enc P W' 0 sp true fn.params.toList args.toList (s.fn H (ds ++ [])).args p := fun sp hsp => by
    rw [List.append_nil, hsf, hps]
    exact trodAll_below hl hb (fun t ht => ⟨(hts' t ht).1, (hts' t ht).2.2⟩) hA fun x hx => ⟨hlt x hx, hsp x hx⟩
  have hvs : ∀ sp : Nat → Bool, DataW.TrodVars enc P W' sp s.vars (s.fn H (ds ++ [])).vars [] := fun sp => by
    rw [List.append_nil, hsf, hvars]; rfl
  refine ⟨ds, [], p ++ [], [], p, [], hW', hres _ _ _, hargs _ (fun x hx => by simpa using hlt x hx), hvs _, World.keptBut_mono (fun x hx => ⟨hx, ?_⟩) (hb.frame (· ∈ p ++ [])), fun _ => ?_⟩
  · simpa using hx
  · refine ⟨ok_one hrs rfl (okWide_bool_mk hT _), _, _, ([] ++ p) ++ [], ⟨[] ++ p, [], trodAll_append (hargs _ (fun _ _ => rfl)) (hres _ _ _), hvs _, rfl, ?_, ?_⟩, ?_⟩
    · intro b off hp
      have hin : MemPlace.cell b off ∈ p := by simpa using hp
      rw [hb.frozen (hlt _ hin)]
      exact hfz b off (by simpa using hin)
    · intro ha; cases ha
    · intro x hx _
      simpa using hx

end Go.AM
/- The shapes of the flow laws' arguments. -/
namespace Go.AM
theorem fit_int {P : Program} {t : TypeId} {k : IntKind} (hu : P.underlying t = some (.int k)) {f : Nat} {x : List AV} (h : Fit P f t x) : ∃ n, x = [.int k n] ∧ k.min ≤ n ∧ n ≤ k.max := by
  cases f with
  | zero => exact h.elim
  | succ f => unfold Fit at h; rw [hu] at h; exact h
theorem fit_slice {P : Program} {t e : TypeId} {m : Nat} (hu : P.underlying t = some (.slice e)) (hm : P.cellsOf e = m) (h0 : m ≠ 0) {f : Nat} {x : List AV} (h : Fit P f t x) : ∃ es f', x = [.rsl m es] ∧ es.length ≤ maxLen ∧ ∀ y ∈ es, Fit P f' e y := by
  cases f with
  | zero => exact h.elim
  | succ f =>
    unfold Fit at h; rw [hu] at h
    rcases h with h | ⟨es, h1, h2, h3⟩
    · exact absurd (hm ▸ h) h0
    · rw [hm] at h1; exact ⟨es, f, h1, h2, fun y hy => (h3 y hy).2⟩
theorem fit_struct {P : Program} {t : TypeId} {fs : Array Field} (hu : P.underlying t = some (.struct fs)) {f : Nat} {x : List AV} (h : Fit P f t x) : ∃ f' parts, x = List.flatten parts ∧ F2 (fun (fl : Field) p => Fit P f' fl.type p) fs.toList parts := by
  cases f with
  | zero => exact h.elim
  | succ f =>
    unfold Fit at h; rw [hu] at h
    obtain ⟨parts, h1, h2⟩ := h
    exact ⟨f, parts, h1, forall2_imp (fun _ _ h => h.2) h2⟩
theorem fit_array {P : Program} {t e : TypeId} {m : Nat} (hu : P.underlying t = some (.array m e)) {f : Nat} {x : List AV} (h : Fit P f t x) : ∃ f' parts, x = List.flatten parts ∧ parts.length = m ∧ ∀ p ∈ parts, Fit P f' e p := by
  cases f with
  | zero => exact h.elim
  | succ f =>
    unfold Fit at h; rw [hu] at h
    obtain ⟨parts, h1, h2, h3⟩ := h
    exact ⟨f, parts, h1, h2, fun p hp => (h3 p hp).2⟩
theorem F2.two {α β : Type} {R : α → β → Prop} {a b : α} {l : List β} (h : F2 R [a, b] l) : ∃ x y, l = [x, y] ∧ R a x ∧ R b y := by
  cases h with | cons h1 t => cases t with | cons h2 t => cases t with | nil => exact ⟨_, _, rfl, h1, h2⟩
theorem F2.three {α β : Type} {R : α → β → Prop} {a b c : α} {l : List β} (h : F2 R [a, b, c] l) : ∃ x y z, l = [x, y, z] ∧ R a x ∧ R b y ∧ R c z := by
  cases h with | cons h1 t => cases t with | cons h2 t => cases t with | cons h3 t => cases t with | nil => exact ⟨_, _, _, rfl, h1, h2, h3⟩
theorem exists_map {α β : Type} {f : α → β} : ∀ {l : List β}, (∀ x ∈ l, ∃ a, x = f a) → ∃ m : List α, l = m.map f
  | [], _ => ⟨[], rfl⟩
  | x :: l, h => by
    obtain ⟨a, rfl⟩ := h x (List.mem_cons_self ..)
    obtain ⟨m, rfl⟩ := exists_map fun y hy => h y (List.mem_cons_of_mem _ hy)
    exact ⟨a :: m, rfl⟩
open Go.Proofs
theorem fit_edge {f : Nat} {x : List AV} (h : Fit Try.prog f 57 x) : ∃ e : Edg, x = edgeV e := by
  obtain ⟨f', parts, rfl, h2⟩ := fit_struct Try.underlying57 h
  obtain ⟨a, b, c, rfl, h3, h4, h5⟩ := F2.three h2
  obtain ⟨i, rfl, _⟩ := fit_int Try.underlying3 h3
  obtain ⟨j, rfl, _⟩ := fit_int Try.underlying3 h4
  obtain ⟨k, rfl, _⟩ := fit_int Try.underlying3 h5
  exact ⟨⟨i, j, k⟩, rfl⟩
theorem fit_net {f : Nat} {x : List AV} (h : Fit Try.prog f 24 x) : ∃ n : Net, x = [.int .i64 n.N, .rsl 3 (n.E.map edgeV)] ∧ n.E.length ≤ 9223372036854775807 := by
  obtain ⟨f', parts, rfl, h2⟩ := fit_struct Try.underlying24 h
  obtain ⟨a, b, rfl, h3, h4⟩ := F2.two h2
  obtain ⟨i, rfl, _⟩ := fit_int Try.underlying3 h3
  obtain ⟨es, f2, rfl, h5, h6⟩ := fit_slice (m := 3) Try.underlying22 (by kernel_rfl) (by decide) h4
  obtain ⟨E, rfl⟩ := exists_map fun y hy => fit_edge (h6 y hy)
  refine ⟨⟨i, E⟩, rfl, ?_⟩
  simpa [maxLen] using h5
end Go.AM
/- More shapes of the flow laws' arguments. -/
namespace Go.AM
open Go.Proofs
theorem fit_ints {f : Nat} {x : List AV} (h : Fit Try.prog f 27 x) : ∃ ws : List Int, x = [.rsl 1 (ints ws)] ∧ ws.length ≤ 9223372036854775807 := by
  obtain ⟨es, f2, rfl, h5, h6⟩ := fit_slice (m := 1) Try.underlying27 (by kernel_rfl) (by decide) h
  obtain ⟨ws, rfl⟩ := exists_map (f := fun x : Int => [AV.int .i64 x]) fun y hy => by
    obtain ⟨n, e, _⟩ := fit_int Try.underlying3 (h6 y hy)
    exact ⟨n, e⟩
  exact ⟨ws, rfl, by simpa [maxLen] using h5⟩
theorem fit_pair {f : Nat} {x : List AV} (h : Fit Try.prog f 49 x) : ∃ p : Int × Int, x = pairV p := by
  obtain ⟨f', parts, rfl, hl, h2⟩ := fit_array Try.underlying49 h
  match parts, hl, h2 with
  | [a, b], _, h2 =>
    obtain ⟨i, rfl, _⟩ := fit_int Try.underlying3 (h2 a (by simp))
    obtain ⟨j, rfl, _⟩ := fit_int Try.underlying3 (h2 b (by simp))
    exact ⟨(i, j), rfl⟩
theorem fit_pairs {f : Nat} {x : List AV} (h : Fit Try.prog f 44 x) : ∃ ns : List (Int × Int), x = [.rsl 2 (ns.map pairV)] ∧ ns.length ≤ 9223372036854775807 := by
  obtain ⟨es, f2, rfl, h5, h6⟩ := fit_slice (m := 2) Try.underlying44 (by kernel_rfl) (by decide) h
  obtain ⟨ns, rfl⟩ := exists_map (f := pairV) fun y hy => fit_pair (h6 y hy)
  exact ⟨ns, rfl, by simpa [maxLen] using h5⟩
end Go.AM
/- The shape of a set. -/
namespace Go.AM
open Go.Proofs
theorem F2.five {α β : Type} {R : α → β → Prop} {a b c d e : α} {l : List β} (h : F2 R [a, b, c, d, e] l) : ∃ x y z u v, l = [x, y, z, u, v] ∧ R a x ∧ R b y ∧ R c z ∧ R d u ∧ R e v := by
  cases h with | cons h1 t => cases t with | cons h2 t => cases t with | cons h3 t => cases t with | cons h4 t => cases t with | cons h5 t => cases t with | nil => exact ⟨_, _, _, _, _, rfl, h1, h2, h3, h4, h5⟩
theorem F2.four {α β : Type} {R : α → β → Prop} {a b c d : α} {l : List β} (h : F2 R [a, b, c, d] l) : ∃ x y z u, l = [x, y, z, u] ∧ R a x ∧ R b y ∧ R c z ∧ R d u := by
  cases h with | cons h1 t => cases t with | cons h2 t => cases t with | cons h3 t => cases t with | cons h4 t => cases t with | nil => exact ⟨_, _, _, _, rfl, h1, h2, h3, h4⟩
theorem exists_mapP {α β : Type} {f : α → β} {p : α → Prop} : ∀ {l : List β}, (∀ x ∈ l, ∃ a, x = f a ∧ p a) → ∃ m : List α, l = m.map f ∧ ∀ a ∈ m, p a
  | [], _ => ⟨[], rfl, fun _ h => by cases h⟩
  | x :: l, h => by
    obtain ⟨a, rfl, ha⟩ := h x (List.mem_cons_self ..)
    obtain ⟨m, rfl, hm⟩ := exists_mapP fun y hy => h y (List.mem_cons_of_mem _ hy)
    exact ⟨a :: m, rfl, fun b hb => by rcases List.mem_cons.1 hb with rfl | hb; exact ha; exact hm b hb⟩
theorem okW_of {W : List Int} (h : ∀ w ∈ W, 0 ≤ w ∧ w ≤ 18446744073709551615) : okW W := fun i => by
  by_cases hi : i < W.length
  · have := h _ (mem_getD hi 0); omega
  · rw [List.getD_eq_getElem?_getD, List.getElem?_eq_none (by omega)]; simp
theorem fit_words {f : Nat} {x : List AV} (h : Fit Try.prog f 35 x) : ∃ W : List Int, x = [.rsl 1 (words W)] ∧ W.length ≤ 9223372036854775807 ∧ okW W := by
  obtain ⟨es, f2, rfl, h5, h6⟩ := fit_slice (m := 1) Try.underlying35 (by kernel_rfl) (by decide) h
  obtain ⟨ws, rfl, hw⟩ := exists_mapP (f := fun x : Int => [AV.int .u64 x]) (p := fun w => 0 ≤ w ∧ w ≤ 18446744073709551615) fun y hy => by
    obtain ⟨n, e, h1, h2⟩ := fit_int Try.underlying54 (h6 y hy)
    exact ⟨n, e, by simpa [IntKind.min, IntKind.signed] using h1, by simpa [IntKind.max, IntKind.signed, IntKind.bits] using h2⟩
  exact ⟨ws, rfl, by simpa [maxLen] using h5, okW_of hw⟩
theorem fit_set {f : Nat} {x : List AV} (h : Fit Try.prog f 37 x) : ∃ (N : Int) (W : List Int), x = [.int .i64 N, .rsl 1 (words W)] ∧ W.length ≤ 9223372036854775807 ∧ okW W := by
  obtain ⟨f', parts, rfl, h2⟩ := fit_struct Try.underlying37 h
  obtain ⟨a, b, rfl, h3, h4⟩ := F2.two h2
  obtain ⟨i, rfl, _⟩ := fit_int Try.underlying3 h3
  obtain ⟨W, rfl, h5, h6⟩ := fit_words h4
  exact ⟨i, W, rfl, h5, h6⟩
end Go.AM
namespace Go.Proofs.F
open Go.AM Go
set_option maxRecDepth 100000
set_option maxHeartbeats 1000000
theorem dual_spec (n : Net) (s t : Int) (hlen : n.E.length ≤ 9223372036854775807) (hv : validB n = true) (he : endsB n s t = true) (hN : n.N ≤ 10) : ∃ (v : Int) (fl : List Int) (X : Nat),
    Reads Try.prog 12 false [netV n, .int .i64 s, .int .i64 t] (.tup [.int .i64 v, .rsl 1 (ints fl), .int .i64 ((0 : Nat) : Int)]) ∧
    Reads Try.prog 18 false [netV n, .int .i64 s, .int .i64 t] (.tup [.agg [.int .i64 n.N, .rsl 1 (words [(X : Int)])], .int .i64 v, .int .i64 ((0 : Nat) : Int)]) ∧
    fl.length = n.E.length ∧ checkS n s t fl n.N [(X : Int)] = true ∧ X < 2 ^ n.N.toNat ∧ ∀ m : Nat, m.testBit s.toNat = true → m.testBit t.toNat = false → v ≤ capAt n.E (bitS m) n.E.length ∧ (capAt n.E (bitS m) n.E.length = v → m &&& X = X) := by
  obtain ⟨hN1, hN2, hE⟩ := valid_size hv
  have hends : 0 ≤ s ∧ s < n.N ∧ 0 ≤ t ∧ t < n.N := by simp [endsB] at he; omega
  obtain ⟨v, fl, e, hM, _, _, hM3⟩ := max_spec n s t hlen
  obtain ⟨e0, hf, hvf, hmax⟩ := hM3 hv he
  obtain ⟨N, v2, W, e2, hC, _, _, _, hC3⟩ := cut_spec n s t hlen
  obtain ⟨e20, hNN, fl2, b, hf2, hv2, hmax2, hbl, hWb, hnear, hbt⟩ := hC3 hv he
  subst e0 e20 hNN
  have hvv : v2 = v := by have := hmax fl2 hf2; have := hmax2 fl hf; omega
  subst hvv
  obtain ⟨X, hX1, hX2, hX3⟩ := setW_mask (b := b) (by omega) (by omega)
  rw [hWb, hX1] at hC
  have hbs : b.getD s.toNat false = true := hnear.src
  have hm1 := setW_mem (b := b) (i := s) hends.1 (by omega)
  have hm2 := setW_mem (b := b) (i := t) hends.2.2.1 (by omega)
  have hcap : bal n fl s = capAt n.E (hasW (setW b b.length)) n.E.length := by
    rw [← hvf, hv2, near_val hv hends.1 hends.2.1 hf2 hnear hbt]
    refine capAt_congr (fun i hi => ?_) _ (Nat.le_refl _)
    have := edges_in hv i hi
    rw [setW_mem (by omega) (by omega), setW_mem (by omega) (by omega)]
    exact ⟨rfl, rfl⟩
  have hvs := validS_setW (b := b) (by omega)
  rw [show (b.length : Int) = n.N by omega] at hvs
  rw [hX1] at hm1 hm2 hcap hvs
  refine ⟨v2, fl, X, hM, hC, hf.len, ?_, by rw [← hbl]; exact hX2, fun m hs ht => ?_⟩
  · unfold checkS
    rw [hv, he, (flowB_iff (by omega)).2 hf, hvs, hm1, hm2, hbs, hbt, hcap]; simp
  · have := dual_min hv he hf2 (by omega) hbl hX2 hX3 hnear hbt m hs ht
    rw [hv2]; exact this
theorem law_dual (n : Net) (s t : Int) (hlen : n.E.length ≤ 9223372036854775807) : Reads Try.prog 8 false [netV n, .int .i64 s, .int .i64 t] (.bool true) := by
  have haw := awake_r
  have hval := rvalid_r n hlen
  have hend := rends_r n s t
  have hspec := dual_spec n s t hlen
  have hfc := fun fl N W h1 h2 h3 => fcheck_r n s t fl N W hlen h1 h2 h3
  have hcb := fun M hv j (hj : j ≤ n.E.length) => capAt_bnd (E := n.E) (S := bitS M) (B := 1125899906842624) (fun i hi => by have := valid_edge hv (eAt_get hi); omega) j hj
  unfold netV at *
  refine Reads.body (rs := [.tmp 6]) Try.func8 rfl Try.ntmps8 rfl (by simp) ?_
  generalize hQr : retQ _ _ _ = Qr
  refine AW.seq fun K1 hK1 => ?_
  -- region 0
  refine AW.regionK 0 (fun _ => none) [1, 2, 3] [3] ?_
  simp only [go_sem, reduceIte, reduceCtorEq, Nat.reduceAdd, Nat.reduceMul, Nat.reduceEqDiff, Nat.reduceLT, Nat.reduceLeDiff, Nat.reduceSub, Nat.reducePow, Nat.reduceBEq, Int.reduceToNat, List.reduceReplicate]
  repeat with_reducible refine cj ?_ ?_
  all_goals try first | omega
  refine hK1 _ _ _ ?_; clear hK1
  refine AW.seq fun K2 hK2 => ?_
  refine AW.seq fun K3 hK3 => ?_
  -- region 1
  refine AW.regionK 0 (fun ii => if ii = 0 then some (.reads false (.bool true)) else none) [1, 2, 3, 18] [3] ?_
  simp only [go_sem, reduceIte, reduceCtorEq, Nat.reduceAdd, Nat.reduceMul, Nat.reduceEqDiff, Nat.reduceLT, Nat.reduceLeDiff, Nat.reduceSub, Nat.reducePow, Nat.reduceBEq, Int.reduceToNat, List.reduceReplicate]
  repeat with_reducible refine cj ?_ ?_
  all_goals try first | (exact haw) | omega | exact ent (by kernel_rfl)
  refine hK3 _ _ _ ?_; clear hK3
  -- cond 1
  refine AW.cond rfl (by simp only [go_sem, reduceIte, reduceCtorEq, Nat.reduceAdd, Nat.reduceMul, Nat.reduceEqDiff, Nat.reduceLT, Nat.reduceLeDiff, Nat.reduceSub, Nat.reducePow, Nat.reduceBEq, Int.reduceToNat, List.reduceReplicate]) ?_ ?_
  · intro hb
    try simp only [hB, decide_eq_true_eq, decide_eq_false_iff_not] at hb
    simp at hb
  · intro hb
    try simp only [hB, decide_eq_true_eq, decide_eq_false_iff_not] at hb
    refine AW.skip ?_
    refine hK2 _ _ _ ?_; clear hK2
    refine AW.seq fun K4 hK4 => ?_
    refine AW.seq fun K5 hK5 => ?_
    -- region 3
    refine AW.regionK 0 (fun ii => if ii = 1 then some (.reads false (.bool (validB n))) else if ii = 7 then some (.reads false (.bool (endsB n s t))) else none) [1, 2, 3, 39] [3] ?_
    simp only [go_sem, reduceIte, reduceCtorEq, Nat.reduceAdd, Nat.reduceMul, Nat.reduceEqDiff, Nat.reduceLT, Nat.reduceLeDiff, Nat.reduceSub, Nat.reducePow, Nat.reduceBEq, Int.reduceToNat, List.reduceReplicate]
    repeat with_reducible refine cj ?_ ?_
    all_goals try first | (first | exact hval | (intro hh; exact ⟨hh, hend⟩)) | (intros; (repeat' apply And.intro) <;> first | assumption | (first | exact hval | (intro hh; exact ⟨hh, hend⟩))) | omega | exact ent (by kernel_rfl) | (intro hgd; exact absurd hgd (by decide)) | rfl | (simp only [go_sem, reduceIte, reduceCtorEq, Nat.reduceAdd, Nat.reduceMul, Nat.reduceEqDiff, Nat.reduceLT, Nat.reduceLeDiff, Nat.reduceSub, Nat.reducePow, Nat.reduceBEq, Int.reduceToNat, List.reduceReplicate]; done) | (intro _hgd; simp_all [go_sem]; done)
    refine hK5 _ _ _ ?_; clear hK5
    -- cond 2
    refine AW.cond rfl (by simp only [go_sem, reduceIte, reduceCtorEq, Nat.reduceAdd, Nat.reduceMul, Nat.reduceEqDiff, Nat.reduceLT, Nat.reduceLeDiff, Nat.reduceSub, Nat.reducePow, Nat.reduceBEq, Int.reduceToNat, List.reduceReplicate]) ?_ ?_
    · intro hb
      try simp only [hB, decide_eq_true_eq, decide_eq_false_iff_not] at hb
      refine AW.seq fun K6 hK6 => ?_
      -- region 4
      refine AW.regionK 0 (fun _ => none) [6] [] ?_
      simp only [go_sem, reduceIte, reduceCtorEq, Nat.reduceAdd, Nat.reduceMul, Nat.reduceEqDiff, Nat.reduceLT, Nat.reduceLeDiff, Nat.reduceSub, Nat.reducePow, Nat.reduceBEq, Int.reduceToNat, List.reduceReplicate]
      repeat with_reducible refine cj ?_ ?_
      all_goals try first | omega
      refine hK6 _ _ _ ?_; clear hK6
      refine AW.ret ?_
      rw [← hQr]
      simp only [go_sem, reduceIte, reduceCtorEq, Nat.reduceAdd, Nat.reduceMul, Nat.reduceEqDiff, Nat.reduceLT, Nat.reduceLeDiff, Nat.reduceSub, Nat.reducePow, Nat.reduceBEq, Int.reduceToNat, List.reduceReplicate]
      exact Wk.refl _
    · intro hb
      try simp only [hB, decide_eq_true_eq, decide_eq_false_iff_not] at hb
      have hv : validB n = true := by revert hb; cases validB n <;> simp
      have he : endsB n s t = true := by revert hb; cases endsB n s t <;> simp
      have hz : n.N ≤ 10 ∧ n.E.length ≤ 100 := by rw [hv, he] at hb; simp at hb; omega
      obtain ⟨hN1, hN2, hE⟩ := valid_size hv
      have hends : 0 ≤ s ∧ s < n.N ∧ 0 ≤ t ∧ t < n.N := by simp [endsB] at he; omega
      obtain ⟨v, fl, X, hM, hC, hfl, hck, hX, hbest⟩ := hspec hv he hz.1
      clear hspec
      have hp10 : 2 ^ n.N.toNat ≤ 1024 := by have : (2 : Nat) ^ n.N.toNat ≤ 2 ^ 10 := Nat.pow_le_pow_right (by decide) (by omega); simpa using this
      have hfc := hfc fl n.N [(X : Int)] (by omega) (by simp) (okW_of (by intro w hw; simp at hw; omega))
      rw [hck] at hfc
      have hcb := fun M => hcb M hv
      have hsh : bShl .u64 1 n.N = ((2 ^ n.N.toNat : Nat) : Int) := by have := bShl_nat (k := n.N.toNat) (by omega); rw [Int.toNat_of_nonneg (by omega)] at this; exact this
      generalize hT : 2 ^ n.N.toNat = T at *
      have hgX : (words [(X : Int)]).getD 0 [] = [.int .u64 X] := rfl
      have hlX : (words [(X : Int)]).length = 1 := rfl
      refine AW.skip ?_
      refine hK4 _ _ _ ?_; clear hK4
      refine AW.seq fun K7 hK7 => ?_
      -- region 5
      refine AW.regionK 0 (fun ii => if ii = 3 then some (.reads false (.tup [.int .i64 v, .rsl 1 (ints fl), .int .i64 ((0 : Nat) : Int)])) else none) [1, 2, 3, 7, 8, 9] [3] ?_
      simp only [go_sem, reduceIte, reduceCtorEq, Nat.reduceAdd, Nat.reduceMul, Nat.reduceEqDiff, Nat.reduceLT, Nat.reduceLeDiff, Nat.reduceSub, Nat.reducePow, Nat.reduceBEq, Int.reduceToNat, List.reduceReplicate]
      repeat with_reducible refine cj ?_ ?_
      all_goals try first | (exact hM) | omega | exact ent (by kernel_rfl)
      refine hK7 _ _ _ ?_; clear hK7
      refine AW.seq fun K8 hK8 => ?_
      -- region 6
      refine AW.regionK 0 (fun ii => if ii = 3 then some (.reads false (.tup [.agg [.int .i64 n.N, .rsl 1 (words [(X : Int)])], .int .i64 v, .int .i64 ((0 : Nat) : Int)])) else none) [1, 2, 3, 7, 8, 9, 10, 11, 12] [3, 10] ?_
      simp only [go_sem, reduceIte, reduceCtorEq, Nat.reduceAdd, Nat.reduceMul, Nat.reduceEqDiff, Nat.reduceLT, Nat.reduceLeDiff, Nat.reduceSub, Nat.reducePow, Nat.reduceBEq, Int.reduceToNat, List.reduceReplicate]
      repeat with_reducible refine cj ?_ ?_
      all_goals try first | (exact hC) | omega | exact ent (by kernel_rfl)
      refine hK8 _ _ _ ?_; clear hK8
      refine AW.seq fun K9 hK9 => ?_
      refine AW.seq fun K10 hK10 => ?_
      -- region 7
      refine AW.regionK 0 (fun ii => if ii = 17 then some (.reads false (.bool true)) else none) [1, 2, 3, 7, 10, 81] [3, 10] ?_
      simp only [go_sem, reduceIte, reduceCtorEq, Nat.reduceAdd, Nat.reduceMul, Nat.reduceEqDiff, Nat.reduceLT, Nat.reduceLeDiff, Nat.reduceSub, Nat.reducePow, Nat.reduceBEq, Int.reduceToNat, List.reduceReplicate, hlX]
      repeat with_reducible refine cj ?_ ?_
      all_goals try first | ((intro hh; exact ⟨hh, hfc⟩)) | (intros; (repeat' apply And.intro) <;> first | assumption | ((intro hh; exact ⟨hh, hfc⟩))) | omega | exact ent (by kernel_rfl) | (intro hgd; exact absurd hgd (by decide)) | rfl | (simp only [go_sem, reduceIte, reduceCtorEq, Nat.reduceAdd, Nat.reduceMul, Nat.reduceEqDiff, Nat.reduceLT, Nat.reduceLeDiff, Nat.reduceSub, Nat.reducePow, Nat.reduceBEq, Int.reduceToNat, List.reduceReplicate, hlX]; done) | (intro _hgd; simp_all [go_sem]; done)
      refine hK10 _ _ _ ?_; clear hK10
      -- cond 3
      refine AW.cond rfl (by simp only [go_sem, reduceIte, reduceCtorEq, Nat.reduceAdd, Nat.reduceMul, Nat.reduceEqDiff, Nat.reduceLT, Nat.reduceLeDiff, Nat.reduceSub, Nat.reducePow, Nat.reduceBEq, Int.reduceToNat, List.reduceReplicate]) ?_ ?_
      · intro hb
        try simp only [hB, decide_eq_true_eq, decide_eq_false_iff_not] at hb
        exfalso; simp at hb
      · intro hb
        try simp only [hB, decide_eq_true_eq, decide_eq_false_iff_not] at hb
        refine AW.skip ?_
        refine hK9 _ _ _ ?_; clear hK9
        refine AW.seq fun K11 hK11 => ?_
        refine AW.seq fun K12 hK12 => ?_
        -- region 9
        refine AW.regionK 0 (fun _ => none) [1, 2, 3, 7, 10, 84, 85] [3, 10] ?_
        simp only [go_sem, reduceIte, reduceCtorEq, Nat.reduceAdd, Nat.reduceMul, Nat.reduceEqDiff, Nat.reduceLT, Nat.reduceLeDiff, Nat.reduceSub, Nat.reducePow, Nat.reduceBEq, Int.reduceToNat, List.reduceReplicate, hsh]
        repeat with_reducible refine cj ?_ ?_
        all_goals try first | omega
        refine hK12 _ _ _ ?_; clear hK12
        refine AW.block ?_
        -- loop 1
        refine AW.loopE (fun mm ee ss kk => ∃ (M g3 v3 g10 v10 : Nat), T - M = mm ∧ ee = [(1, .int .i64 s), (2, .int .i64 t), (3, .ptr ⟨3, g3, none⟩ 0 0), (7, .int .i64 v), (10, .ptr ⟨10, g10, none⟩ 0 0), (84, .int .u64 (T : Nat)), (85, .int .u64 (M : Nat))] ∧ ss = [(3, some ⟨g3, v3, 2, [[.int .i64 n.N, .rsl 3 (n.E.map edgeV)]]⟩), (10, some ⟨g10, v10, 2, [[.int .i64 n.N, .rsl 1 (words [(X : Int)])]]⟩)] ∧ (M ≤ T)) ?_ ?_
        · refine ⟨_, 0, ?_, ?_, ?_, ?_, rfl, ?henv, ?hstore, ?hst⟩
          case henv =>
            repeat' (first | rfl | refine env_cons ?_ ?_ | refine st_cons ?_ ?_ ?_ ?_ | refine int_eq ?_ | refine bool_eq ?_ | refine rsl_eq ?_ | refine osl_eq ?_ | refine sl_eq ?_ ?_ ?_ | refine ptr_eq ?_ ?_ ?_ | refine agg_eq ?_ | refine es_cons ?_ ?_ | refine row_cons ?_ ?_)
            all_goals (first | (simp; done) | omega | (simp; omega))
          case hstore =>
            repeat' (first | rfl | refine env_cons ?_ ?_ | refine st_cons ?_ ?_ ?_ ?_ | refine int_eq ?_ | refine bool_eq ?_ | refine rsl_eq ?_ | refine osl_eq ?_ | refine sl_eq ?_ ?_ ?_ | refine ptr_eq ?_ ?_ ?_ | refine agg_eq ?_ | refine es_cons ?_ ?_ | refine row_cons ?_ ?_)
            all_goals (first | (simp; done) | omega | (simp; omega))
          case hst =>
            first | trivial | omega | (simp; done) | (simp; omega)
        rintro mm ee ss kk ⟨M, g3, v3, g10, v10, rfl, rfl, rfl, hI⟩
        generalize hQl1 : thenQ _ _ = Ql1
        refine AW.seq fun K13 hK13 => ?_
        -- region 10
        refine AW.regionK 0 (fun _ => none) [1, 2, 3, 7, 10, 84, 85, 86] [3, 10] ?_
        simp only [go_sem, reduceIte, reduceCtorEq, Nat.reduceAdd, Nat.reduceMul, Nat.reduceEqDiff, Nat.reduceLT, Nat.reduceLeDiff, Nat.reduceSub, Nat.reducePow, Nat.reduceBEq, Int.reduceToNat, List.reduceReplicate]
        repeat with_reducible refine cj ?_ ?_
        all_goals try first | omega
        refine hK13 _ _ _ ?_; clear hK13
        refine AW.seq fun K14 hK14 => ?_
        -- cond 4
        refine AW.cond rfl (by simp only [go_sem, reduceIte, reduceCtorEq, Nat.reduceAdd, Nat.reduceMul, Nat.reduceEqDiff, Nat.reduceLT, Nat.reduceLeDiff, Nat.reduceSub, Nat.reducePow, Nat.reduceBEq, Int.reduceToNat, List.reduceReplicate]) ?_ ?_
        · intro hb
          try simp only [hB, decide_eq_true_eq, decide_eq_false_iff_not] at hb
          have hwr : IntKind.u64.wrap ((M : Int) + 1) = (M : Int) + 1 := by simp [IntKind.wrap, IntKind.signed, IntKind.bits]; omega
          have hbs := bit_at (m := M) (by omega) (i := s) (by omega) (by omega)
          have hbt := bit_at (m := M) (by omega) (i := t) (by omega) (by omega)
          refine AW.skip ?_
          refine hK14 _ _ _ ?_; clear hK14
          refine AW.seq fun K15 hK15 => ?_
          refine AW.block ?_
          refine AW.seq fun K16 hK16 => ?_
          -- region 11
          refine AW.regionK 0 (fun _ => none) [1, 2, 3, 7, 10, 13, 84, 85] [3, 10] ?_
          simp only [go_sem, reduceIte, reduceCtorEq, Nat.reduceAdd, Nat.reduceMul, Nat.reduceEqDiff, Nat.reduceLT, Nat.reduceLeDiff, Nat.reduceSub, Nat.reducePow, Nat.reduceBEq, Int.reduceToNat, List.reduceReplicate]
          repeat with_reducible refine cj ?_ ?_
          all_goals try first | omega
          refine hK16 _ _ _ ?_; clear hK16
          refine AW.seq fun K17 hK17 => ?_
          refine AW.seq fun K18 hK18 => ?_
          -- region 12
          refine AW.regionK 0 (fun _ => none) [1, 2, 3, 7, 10, 13, 84, 85, 99] [3, 10] ?_
          simp only [go_sem, reduceIte, reduceCtorEq, Nat.reduceAdd, Nat.reduceMul, Nat.reduceEqDiff, Nat.reduceLT, Nat.reduceLeDiff, Nat.reduceSub, Nat.reducePow, Nat.reduceBEq, Int.reduceToNat, List.reduceReplicate]
          repeat with_reducible refine cj ?_ ?_
          all_goals try first | omega | (intros; (repeat' apply And.intro) <;> first | assumption | omega | decide) | (intro hgd; exact absurd hgd (by decide)) | rfl | (simp only [go_sem, reduceIte, reduceCtorEq, Nat.reduceAdd, Nat.reduceMul, Nat.reduceEqDiff, Nat.reduceLT, Nat.reduceLeDiff, Nat.reduceSub, Nat.reducePow, Nat.reduceBEq, Int.reduceToNat, List.reduceReplicate]; done) | (intro _hgd; simp_all [go_sem]; done)
          refine hK18 _ _ _ ?_; clear hK18
          -- cond 5
          refine AW.cond rfl (by simp only [go_sem, reduceIte, reduceCtorEq, Nat.reduceAdd, Nat.reduceMul, Nat.reduceEqDiff, Nat.reduceLT, Nat.reduceLeDiff, Nat.reduceSub, Nat.reducePow, Nat.reduceBEq, Int.reduceToNat, List.reduceReplicate]) ?_ ?_
          · intro hb
            try simp only [hB, decide_eq_true_eq, decide_eq_false_iff_not] at hb
            refine AW.keep [1, 2, 3, 7, 10, 84, 85] [3, 10] ?_
            try simp only [go_sem, reduceIte, reduceCtorEq, Nat.reduceAdd, Nat.reduceMul, Nat.reduceEqDiff, Nat.reduceLT, Nat.reduceLeDiff, Nat.reduceSub, Nat.reducePow, Nat.reduceBEq, Int.reduceToNat, List.reduceReplicate]
            refine AW.exit ?_
            refine hK15 _ _ _ ?_; clear hK15
            -- region 22
            refine AW.regionK 0 (fun _ => none) [1, 2, 3, 7, 10, 84, 85] [3, 10] ?_
            simp only [go_sem, reduceIte, reduceCtorEq, Nat.reduceAdd, Nat.reduceMul, Nat.reduceEqDiff, Nat.reduceLT, Nat.reduceLeDiff, Nat.reduceSub, Nat.reducePow, Nat.reduceBEq, Int.reduceToNat, List.reduceReplicate, hwr]
            repeat with_reducible refine cj ?_ ?_
            all_goals try first | omega
            rw [← hQl1]
            change Exists _
            refine ⟨_, ?hm, M + 1, ?_, ?_, ?_, ?_, rfl, ?henv, ?hstore, ?hst⟩
            case henv =>
              repeat' (first | rfl | refine env_cons ?_ ?_ | refine st_cons ?_ ?_ ?_ ?_ | refine int_eq ?_ | refine bool_eq ?_ | refine rsl_eq ?_ | refine osl_eq ?_ | refine sl_eq ?_ ?_ ?_ | refine ptr_eq ?_ ?_ ?_ | refine agg_eq ?_ | refine es_cons ?_ ?_ | refine row_cons ?_ ?_)
              all_goals (first | (simp; done) | omega | (simp; omega))
            case hstore =>
              repeat' (first | rfl | refine env_cons ?_ ?_ | refine st_cons ?_ ?_ ?_ ?_ | refine int_eq ?_ | refine bool_eq ?_ | refine rsl_eq ?_ | refine osl_eq ?_ | refine sl_eq ?_ ?_ ?_ | refine ptr_eq ?_ ?_ ?_ | refine agg_eq ?_ | refine es_cons ?_ ?_ | refine row_cons ?_ ?_)
              all_goals (first | (simp; done) | omega | (simp; omega))
            case hst =>
              first | trivial | omega | (simp; done) | (simp; omega)
            case hm => omega
          · intro hb
            try simp only [hB, decide_eq_true_eq, decide_eq_false_iff_not] at hb
            have hms : M.testBit s.toNat = true := by rw [hbs, hbt] at hb; revert hb; cases M.testBit s.toNat <;> simp
            have hmt : M.testBit t.toNat = false := by rw [hbs, hbt] at hb; revert hb; cases M.testBit t.toNat <;> simp
            obtain ⟨hq1, hq2⟩ := hbest M hms hmt
            have hcb := hcb M
            refine AW.skip ?_
            refine hK17 _ _ _ ?_; clear hK17
            refine AW.seq fun K19 hK19 => ?_
            -- region 13
            refine AW.regionK 0 (fun _ => none) [1, 2, 3, 7, 10, 13, 14, 84, 85] [3, 10] ?_
            simp only [go_sem, reduceIte, reduceCtorEq, Nat.reduceAdd, Nat.reduceMul, Nat.reduceEqDiff, Nat.reduceLT, Nat.reduceLeDiff, Nat.reduceSub, Nat.reducePow, Nat.reduceBEq, Int.reduceToNat, List.reduceReplicate]
            repeat with_reducible refine cj ?_ ?_
            all_goals try first | omega
            refine hK19 _ _ _ ?_; clear hK19
            refine AW.seq fun K20 hK20 => ?_
            refine AW.seq fun K21 hK21 => ?_
            -- region 14
            refine AW.regionK 0 (fun _ => none) [1, 2, 3, 7, 10, 13, 14, 84, 85, 101, 102, 103] [3, 10] ?_
            simp only [go_sem, reduceIte, reduceCtorEq, Nat.reduceAdd, Nat.reduceMul, Nat.reduceEqDiff, Nat.reduceLT, Nat.reduceLeDiff, Nat.reduceSub, Nat.reducePow, Nat.reduceBEq, Int.reduceToNat, List.reduceReplicate]
            repeat with_reducible refine cj ?_ ?_
            all_goals try first | omega
            refine hK21 _ _ _ ?_; clear hK21
            refine AW.block ?_
            -- loop 2
            refine AW.loopE (fun mm ee ss kk => ∃ (j g3 v3 g10 v10 : Nat), n.E.length - j = mm ∧ ee = [(1, .int .i64 s), (2, .int .i64 t), (3, .ptr ⟨3, g3, none⟩ 0 0), (7, .int .i64 v), (10, .ptr ⟨10, g10, none⟩ 0 0), (13, .int .u64 (M : Nat)), (14, .int .i64 (capAt n.E (bitS M) j)), (84, .int .u64 (T : Nat)), (85, .int .u64 (M : Nat)), (101, .rsl 3 (n.E.map edgeV)), (102, .int .i64 n.E.length), (103, .int .i64 (j : Nat))] ∧ ss = [(3, some ⟨g3, v3, 2, [[.int .i64 n.N, .rsl 3 (n.E.map edgeV)]]⟩), (10, some ⟨g10, v10, 2, [[.int .i64 n.N, .rsl 1 (words [(X : Int)])]]⟩)] ∧ (j ≤ n.E.length)) ?_ ?_
            · refine ⟨_, 0, ?_, ?_, ?_, ?_, rfl, ?henv, ?hstore, ?hst⟩
              case henv =>
                repeat' (first | rfl | refine env_cons ?_ ?_ | refine st_cons ?_ ?_ ?_ ?_ | refine int_eq ?_ | refine bool_eq ?_ | refine rsl_eq ?_ | refine osl_eq ?_ | refine sl_eq ?_ ?_ ?_ | refine ptr_eq ?_ ?_ ?_ | refine agg_eq ?_ | refine es_cons ?_ ?_ | refine row_cons ?_ ?_)
                all_goals (first | (simp; done) | omega | (simp; omega))
              case hstore =>
                repeat' (first | rfl | refine env_cons ?_ ?_ | refine st_cons ?_ ?_ ?_ ?_ | refine int_eq ?_ | refine bool_eq ?_ | refine rsl_eq ?_ | refine osl_eq ?_ | refine sl_eq ?_ ?_ ?_ | refine ptr_eq ?_ ?_ ?_ | refine agg_eq ?_ | refine es_cons ?_ ?_ | refine row_cons ?_ ?_)
                all_goals (first | (simp; done) | omega | (simp; omega))
              case hst =>
                first | trivial | omega | (simp; done) | (simp; omega)
            rintro mm ee ss kk ⟨j, g3, v3, g10, v10, rfl, rfl, rfl, hI⟩
            generalize hQl2 : thenQ _ _ = Ql2
            refine AW.seq fun K22 hK22 => ?_
            -- region 15
            refine AW.regionK 0 (fun _ => none) [1, 2, 3, 7, 10, 13, 14, 84, 85, 101, 102, 103, 104] [3, 10] ?_
            simp only [go_sem, reduceIte, reduceCtorEq, Nat.reduceAdd, Nat.reduceMul, Nat.reduceEqDiff, Nat.reduceLT, Nat.reduceLeDiff, Nat.reduceSub, Nat.reducePow, Nat.reduceBEq, Int.reduceToNat, List.reduceReplicate]
            repeat with_reducible refine cj ?_ ?_
            all_goals try first | omega
            refine hK22 _ _ _ ?_; clear hK22
            refine AW.seq fun K23 hK23 => ?_
            -- cond 6
            refine AW.cond rfl (by simp only [go_sem, reduceIte, reduceCtorEq, Nat.reduceAdd, Nat.reduceMul, Nat.reduceEqDiff, Nat.reduceLT, Nat.reduceLeDiff, Nat.reduceSub, Nat.reducePow, Nat.reduceBEq, Int.reduceToNat, List.reduceReplicate]) ?_ ?_
            · intro hb
              try simp only [hB, decide_eq_true_eq, decide_eq_false_iff_not] at hb
              obtain ⟨x, hx⟩ := getI (l := n.E) (j := j) (by omega)
              have hxv := getV (f := edgeV) hx
              have hea := eAt_of hx
              have hxr := valid_edge hv hx
              have hcs : capAt n.E (bitS M) (j + 1) = capAt n.E (bitS M) j + if bitS M (eAt n.E j).fr = true ∧ bitS M (eAt n.E j).to = false then (eAt n.E j).cap else 0 := rfl
              have hb0 := hcb j (by omega)
              rw [hea] at hcs
              have hbf := bit_at (m := M) (by omega) (i := x.fr) (by omega) (by omega)
              have hbo := bit_at (m := M) (by omega) (i := x.to) (by omega) (by omega)
              generalize capAt n.E (bitS M) j = cq at *
              refine AW.skip ?_
              refine hK23 _ _ _ ?_; clear hK23
              refine AW.seq fun K24 hK24 => ?_
              refine AW.block ?_
              refine AW.seq fun K25 hK25 => ?_
              -- region 16
              refine AW.regionK 0 (fun _ => none) [1, 2, 3, 7, 10, 13, 14, 16, 84, 85, 101, 102, 103] [3, 10, 16] ?_
              simp only [go_sem, reduceIte, reduceCtorEq, Nat.reduceAdd, Nat.reduceMul, Nat.reduceEqDiff, Nat.reduceLT, Nat.reduceLeDiff, Nat.reduceSub, Nat.reducePow, Nat.reduceBEq, Int.reduceToNat, List.reduceReplicate, hxv, edgeV]
              repeat with_reducible refine cj ?_ ?_
              all_goals try first | omega
              refine hK25 _ _ _ ?_; clear hK25
              refine AW.seq fun K26 hK26 => ?_
              -- region 17
              refine AW.regionK 0 (fun _ => none) [1, 2, 3, 7, 10, 13, 14, 16, 84, 85, 101, 102, 103, 120] [3, 10, 16] ?_
              simp only [go_sem, reduceIte, reduceCtorEq, Nat.reduceAdd, Nat.reduceMul, Nat.reduceEqDiff, Nat.reduceLT, Nat.reduceLeDiff, Nat.reduceSub, Nat.reducePow, Nat.reduceBEq, Int.reduceToNat, List.reduceReplicate]
              repeat with_reducible refine cj ?_ ?_
              all_goals try first | omega | (intros; (repeat' apply And.intro) <;> first | assumption | omega | decide) | (intro hgd; exact absurd hgd (by decide)) | rfl | (simp only [go_sem, reduceIte, reduceCtorEq, Nat.reduceAdd, Nat.reduceMul, Nat.reduceEqDiff, Nat.reduceLT, Nat.reduceLeDiff, Nat.reduceSub, Nat.reducePow, Nat.reduceBEq, Int.reduceToNat, List.reduceReplicate]; done) | (intro _hgd; simp_all [go_sem]; done)
              refine hK26 _ _ _ ?_; clear hK26
              -- cond 7
              refine AW.cond rfl (by simp only [go_sem, reduceIte, reduceCtorEq, Nat.reduceAdd, Nat.reduceMul, Nat.reduceEqDiff, Nat.reduceLT, Nat.reduceLeDiff, Nat.reduceSub, Nat.reducePow, Nat.reduceBEq, Int.reduceToNat, List.reduceReplicate]) ?_ ?_
              · intro hb
                try simp only [hB, decide_eq_true_eq, decide_eq_false_iff_not] at hb
                rw [if_pos (by unfold bitS; rw [hbf, hbo] at hb; revert hb; cases M.testBit x.fr.toNat <;> cases M.testBit x.to.toNat <;> simp)] at hcs
                -- region 18
                refine AW.regionK 0 (fun _ => none) [1, 2, 3, 7, 10, 13, 14, 84, 85, 101, 102, 103] [3, 10] ?_
                simp only [go_sem, reduceIte, reduceCtorEq, Nat.reduceAdd, Nat.reduceMul, Nat.reduceEqDiff, Nat.reduceLT, Nat.reduceLeDiff, Nat.reduceSub, Nat.reducePow, Nat.reduceBEq, Int.reduceToNat, List.reduceReplicate]
                repeat with_reducible refine cj ?_ ?_
                all_goals try first | omega
                refine hK24 _ _ _ ?_; clear hK24
                -- region 19
                refine AW.regionK 0 (fun _ => none) [1, 2, 3, 7, 10, 13, 14, 84, 85, 101, 102, 103] [3, 10] ?_
                simp only [go_sem, reduceIte, reduceCtorEq, Nat.reduceAdd, Nat.reduceMul, Nat.reduceEqDiff, Nat.reduceLT, Nat.reduceLeDiff, Nat.reduceSub, Nat.reducePow, Nat.reduceBEq, Int.reduceToNat, List.reduceReplicate]
                repeat with_reducible refine cj ?_ ?_
                all_goals try first | omega
                rw [← hQl2]
                change Exists _
                refine ⟨_, ?hm, j + 1, ?_, ?_, ?_, ?_, rfl, ?henv, ?hstore, ?hst⟩
                case henv =>
                  repeat' (first | rfl | refine env_cons ?_ ?_ | refine st_cons ?_ ?_ ?_ ?_ | refine int_eq ?_ | refine bool_eq ?_ | refine rsl_eq ?_ | refine osl_eq ?_ | refine sl_eq ?_ ?_ ?_ | refine ptr_eq ?_ ?_ ?_ | refine agg_eq ?_ | refine es_cons ?_ ?_ | refine row_cons ?_ ?_)
                  all_goals (rw [hcs]; try omega)
                case hstore =>
                  repeat' (first | rfl | refine env_cons ?_ ?_ | refine st_cons ?_ ?_ ?_ ?_ | refine int_eq ?_ | refine bool_eq ?_ | refine rsl_eq ?_ | refine osl_eq ?_ | refine sl_eq ?_ ?_ ?_ | refine ptr_eq ?_ ?_ ?_ | refine agg_eq ?_ | refine es_cons ?_ ?_ | refine row_cons ?_ ?_)
                  all_goals (first | (simp; done) | omega | (simp; omega))
                case hst =>
                  first | trivial | omega | (simp; done) | (simp; omega)
                case hm => omega
              · intro hb
                try simp only [hB, decide_eq_true_eq, decide_eq_false_iff_not] at hb
                rw [if_neg (by unfold bitS; rw [hbf, hbo] at hb; revert hb; cases M.testBit x.fr.toNat <;> cases M.testBit x.to.toNat <;> simp)] at hcs
                refine AW.skip ?_
                refine hK24 _ _ _ ?_; clear hK24
                -- region 19
                refine AW.regionK 0 (fun _ => none) [1, 2, 3, 7, 10, 13, 14, 84, 85, 101, 102, 103] [3, 10] ?_
                simp only [go_sem, reduceIte, reduceCtorEq, Nat.reduceAdd, Nat.reduceMul, Nat.reduceEqDiff, Nat.reduceLT, Nat.reduceLeDiff, Nat.reduceSub, Nat.reducePow, Nat.reduceBEq, Int.reduceToNat, List.reduceReplicate]
                repeat with_reducible refine cj ?_ ?_
                all_goals try first | omega
                rw [← hQl2]
                change Exists _
                refine ⟨_, ?hm, j + 1, ?_, ?_, ?_, ?_, rfl, ?henv, ?hstore, ?hst⟩
                case henv =>
                  repeat' (first | rfl | refine env_cons ?_ ?_ | refine st_cons ?_ ?_ ?_ ?_ | refine int_eq ?_ | refine bool_eq ?_ | refine rsl_eq ?_ | refine osl_eq ?_ | refine sl_eq ?_ ?_ ?_ | refine ptr_eq ?_ ?_ ?_ | refine agg_eq ?_ | refine es_cons ?_ ?_ | refine row_cons ?_ ?_)
                  all_goals (rw [hcs]; try omega)
                case hstore =>
                  repeat' (first | rfl | refine env_cons ?_ ?_ | refine st_cons ?_ ?_ ?_ ?_ | refine int_eq ?_ | refine bool_eq ?_ | refine rsl_eq ?_ | refine osl_eq ?_ | refine sl_eq ?_ ?_ ?_ | refine ptr_eq ?_ ?_ ?_ | refine agg_eq ?_ | refine es_cons ?_ ?_ | refine row_cons ?_ ?_)
                  all_goals (first | (simp; done) | omega | (simp; omega))
                case hst =>
                  first | trivial | omega | (simp; done) | (simp; omega)
                case hm => omega
            · intro hb
              try simp only [hB, decide_eq_true_eq, decide_eq_false_iff_not] at hb
              have hj : j = n.E.length := by omega
              subst hj
              have hcv := hcb n.E.length (Nat.le_refl _)
              generalize capAt n.E (bitS M) n.E.length = cq at *
              have hand : cq = v → bAnd .u64 (M : Int) (X : Int) = X := fun h => by rw [bAnd_nat (by omega) (by omega), hq2 h]
              refine AW.keep [1, 2, 3, 7, 10, 13, 14, 84, 85] [3, 10] ?_
              try simp only [go_sem, reduceIte, reduceCtorEq, Nat.reduceAdd, Nat.reduceMul, Nat.reduceEqDiff, Nat.reduceLT, Nat.reduceLeDiff, Nat.reduceSub, Nat.reducePow, Nat.reduceBEq, Int.reduceToNat, List.reduceReplicate]
              refine AW.exit ?_
              rw [← hQl2]
              refine hK20 _ _ _ ?_; clear hK20
              refine AW.seq fun K27 hK27 => ?_
              -- region 20
              refine AW.regionD mixed 0 (fun _ => none) [1, 2, 3, 7, 10, 84, 85, 146] [3, 10] ?_
              simp only [go_sem, reduceIte, reduceCtorEq, Nat.reduceAdd, Nat.reduceMul, Nat.reduceEqDiff, Nat.reduceLT, Nat.reduceLeDiff, Nat.reduceSub, Nat.reducePow, Nat.reduceBEq, Int.reduceToNat, List.reduceReplicate, hgX]
              repeat with_reducible refine cj ?_ ?_
              all_goals try first | omega | exact chk (by kernel_rfl) | (intros; (repeat' apply And.intro) <;> first | assumption | omega | decide) | (intro hgd; exact absurd hgd (by decide)) | rfl | (simp only [go_sem, reduceIte, reduceCtorEq, Nat.reduceAdd, Nat.reduceMul, Nat.reduceEqDiff, Nat.reduceLT, Nat.reduceLeDiff, Nat.reduceSub, Nat.reducePow, Nat.reduceBEq, Int.reduceToNat, List.reduceReplicate, hgX]; done) | (intro _hgd; simp_all [go_sem]; done)
              refine hK27 _ _ _ ?_; clear hK27
              -- cond 8
              refine AW.cond rfl (by simp only [go_sem, reduceIte, reduceCtorEq, Nat.reduceAdd, Nat.reduceMul, Nat.reduceEqDiff, Nat.reduceLT, Nat.reduceLeDiff, Nat.reduceSub, Nat.reducePow, Nat.reduceBEq, Int.reduceToNat, List.reduceReplicate]) ?_ ?_
              · intro hb
                try simp only [hB, decide_eq_true_eq, decide_eq_false_iff_not] at hb
                exfalso; rcases hb with hb | hb; omega; exact hb.2 (hand hb.1)
              · intro hb
                try simp only [hB, decide_eq_true_eq, decide_eq_false_iff_not] at hb
                refine AW.skip ?_
                refine hK15 _ _ _ ?_; clear hK15
                -- region 22
                refine AW.regionK 0 (fun _ => none) [1, 2, 3, 7, 10, 84, 85] [3, 10] ?_
                simp only [go_sem, reduceIte, reduceCtorEq, Nat.reduceAdd, Nat.reduceMul, Nat.reduceEqDiff, Nat.reduceLT, Nat.reduceLeDiff, Nat.reduceSub, Nat.reducePow, Nat.reduceBEq, Int.reduceToNat, List.reduceReplicate, hwr]
                repeat with_reducible refine cj ?_ ?_
                all_goals try first | omega
                rw [← hQl1]
                change Exists _
                refine ⟨_, ?hm, M + 1, ?_, ?_, ?_, ?_, rfl, ?henv, ?hstore, ?hst⟩
                case henv =>
                  repeat' (first | rfl | refine env_cons ?_ ?_ | refine st_cons ?_ ?_ ?_ ?_ | refine int_eq ?_ | refine bool_eq ?_ | refine rsl_eq ?_ | refine osl_eq ?_ | refine sl_eq ?_ ?_ ?_ | refine ptr_eq ?_ ?_ ?_ | refine agg_eq ?_ | refine es_cons ?_ ?_ | refine row_cons ?_ ?_)
                  all_goals (first | (simp; done) | omega | (simp; omega))
                case hstore =>
                  repeat' (first | rfl | refine env_cons ?_ ?_ | refine st_cons ?_ ?_ ?_ ?_ | refine int_eq ?_ | refine bool_eq ?_ | refine rsl_eq ?_ | refine osl_eq ?_ | refine sl_eq ?_ ?_ ?_ | refine ptr_eq ?_ ?_ ?_ | refine agg_eq ?_ | refine es_cons ?_ ?_ | refine row_cons ?_ ?_)
                  all_goals (first | (simp; done) | omega | (simp; omega))
                case hst =>
                  first | trivial | omega | (simp; done) | (simp; omega)
                case hm => omega
        · intro hb
          try simp only [hB, decide_eq_true_eq, decide_eq_false_iff_not] at hb
          refine AW.keep [] [] ?_
          try simp only [go_sem, reduceIte, reduceCtorEq, Nat.reduceAdd, Nat.reduceMul, Nat.reduceEqDiff, Nat.reduceLT, Nat.reduceLeDiff, Nat.reduceSub, Nat.reducePow, Nat.reduceBEq, Int.reduceToNat, List.reduceReplicate]
          refine AW.exit ?_
          rw [← hQl1]
          refine hK11 _ _ _ ?_; clear hK11
          refine AW.seq fun K28 hK28 => ?_
          -- region 23
          refine AW.regionK 0 (fun _ => none) [6] [] ?_
          simp only [go_sem, reduceIte, reduceCtorEq, Nat.reduceAdd, Nat.reduceMul, Nat.reduceEqDiff, Nat.reduceLT, Nat.reduceLeDiff, Nat.reduceSub, Nat.reducePow, Nat.reduceBEq, Int.reduceToNat, List.reduceReplicate]
          repeat with_reducible refine cj ?_ ?_
          all_goals try first | omega
          refine hK28 _ _ _ ?_; clear hK28
          refine AW.ret ?_
          rw [← hQr]
          simp only [go_sem, reduceIte, reduceCtorEq, Nat.reduceAdd, Nat.reduceMul, Nat.reduceEqDiff, Nat.reduceLT, Nat.reduceLeDiff, Nat.reduceSub, Nat.reducePow, Nat.reduceBEq, Int.reduceToNat, List.reduceReplicate]
          exact Wk.refl _
end Go.Proofs.F
/- A flow, taken apart into paths. -/
namespace Go.AM
/-- The network whose capacities are a flow. -/
def capN (n : Net) (f : List Int) : Net := ⟨n.N, (List.range n.E.length).map fun i => ⟨(eAt n.E i).fr, (eAt n.E i).to, f.getD i 0⟩⟩
theorem capN_len (n : Net) (f : List Int) : (capN n f).E.length = n.E.length := by simp [capN]
theorem capN_get (n : Net) (f : List Int) {i : Nat} (h : i < n.E.length) : (capN n f).E[i]? = some ⟨(eAt n.E i).fr, (eAt n.E i).to, f.getD i 0⟩ := by simp [capN, h]
theorem capN_at (n : Net) (f : List Int) {i : Nat} (h : i < n.E.length) : eAt (capN n f).E i = ⟨(eAt n.E i).fr, (eAt n.E i).to, f.getD i 0⟩ := eAt_of (capN_get n f h)
theorem capN_valid {n : Net} {f : List Int} (hv : validB n = true) (hf : ∀ i, i < n.E.length → 0 ≤ f.getD i 0 ∧ f.getD i 0 ≤ 1125899906842624) : validB (capN n f) = true := by
  have hz := valid_size hv
  simp only [validB, Bool.and_eq_true, List.all_eq_true]
  refine ⟨by rw [capN_len]; simp [capN]; omega, fun x hx => ?_⟩
  simp only [capN, List.mem_map, List.mem_range] at hx
  obtain ⟨i, hi, rfl⟩ := hx
  have h1 := valid_edge hv (eAt_get hi)
  have h2 := hf i hi
  have e : (capN n f).N = n.N := rfl
  simp only [edgeOk, e, Bool.not_eq_true', Bool.or_eq_false_iff, decide_eq_false_iff_not]; omega
theorem capN_bal (n : Net) (f g : List Int) (v : Int) : ∀ j, j ≤ n.E.length → balAt (capN n f).E g v j = balAt n.E g v j
  | 0, _ => rfl
  | j + 1, h => by rw [balAt, balAt, capN_bal n f g v j (by omega)]; unfold balStep; rw [capN_at n f (by omega)]
theorem capN_bal' (n : Net) (f g : List Int) (v : Int) : bal (capN n f) g v = bal n g v := by
  show balAt _ _ _ _ = balAt _ _ _ _
  rw [capN_len, capN_bal n f g v _ (Nat.le_refl _)]
theorem capN_open {n : Net} (f : List Int) : ∀ j, j ≤ n.E.length → (openAt (capN n f) j).2 = (openAt n j).2 ∧ (openAt (capN n f) j).1.length = (openAt n j).1.length
  | 0, _ => ⟨rfl, rfl⟩
  | j + 1, h => by
    obtain ⟨h1, h2⟩ := capN_open (n := n) f j (by omega)
    rw [openAt_succ (capN_get n f (by omega)), openAt_succ (eAt_get (E := n.E) (i := j) (by omega))]
    simp only [openStep, h1, h2, List.length_append, List.length_cons, List.length_nil, and_self]
theorem capN_leave {n : Net} (f : List Int) : (openP (capN n f)).2 = (openP n).2 := by
  have := (capN_open f n.E.length (Nat.le_refl _)).1
  rw [openAt_all (Nat.le_of_eq (capN_len n f)), openAt_all (Nat.le_refl _)] at this
  exact this
def zer (n : Net) : List Int := List.replicate n.E.length 0
theorem zer_get (n : Net) (i : Nat) : (zer n).getD i 0 = 0 := by
  unfold zer; rw [List.getD_eq_getElem?_getD, List.getElem?_replicate]; split <;> rfl
theorem zer_cap (n : Net) (f : List Int) : zer (capN n f) = zer n := by unfold zer; rw [capN_len]
theorem zer_flow {n : Net} {s t : Int} (f : List Int) (hv : validB (capN n f) = true) : IsFlow (capN n f) s t (zer n) := by
  rw [← zer_cap n f]; exact zero_flow hv
/-- The arcs show a flow that is left. -/
abbrev Arcs (n : Net) (A : List Arc) (f : List Int) : Prop := Rep (capN n f) A (zer n)
theorem Arcs.len' {n : Net} {A : List Arc} {f : List Int} (h : Arcs n A f) : A.length = 2 * n.E.length := by have := h.len; rw [capN_len] at this; exact this
theorem Arcs.ev' {n : Net} {A : List Arc} {f : List Int} (h : Arcs n A f) {e : Nat} (he : e < n.E.length) : A.getD (2 * e) (0, 0) = ((eAt n.E e).to, f.getD e 0) := by
  have := h.ev e (by rw [capN_len]; exact he)
  rw [capN_at n f he, zer_get] at this; simpa using this
theorem Arcs.od' {n : Net} {A : List Arc} {f : List Int} (h : Arcs n A f) {e : Nat} (he : e < n.E.length) : A.getD (2 * e + 1) (0, 0) = ((eAt n.E e).fr, 0) := by
  have := h.od e (by rw [capN_len]; exact he)
  rw [capN_at n f he, zer_get] at this; exact this
theorem Arcs.mk' {n : Net} {A : List Arc} {f : List Int} (h1 : A.length = 2 * n.E.length) (h2 : ∀ e, e < n.E.length → A.getD (2 * e) (0, 0) = ((eAt n.E e).to, f.getD e 0)) (h3 : ∀ e, e < n.E.length → A.getD (2 * e + 1) (0, 0) = ((eAt n.E e).fr, 0)) : Arcs n A f := by
  refine ⟨by rw [capN_len]; exact h1, by rw [capN_len]; simp [zer], fun e he => ?_, fun e he => ?_⟩
  · rw [capN_len] at he; rw [capN_at n f he, zer_get, h2 e he]; simp
  · rw [capN_len] at he; rw [capN_at n f he, zer_get, h3 e he]
/-! ### The flow becomes the capacities. -/
def setCaps (A : List Arc) (f : List Int) : Nat → List Arc
  | 0 => A
  | j + 1 => aSet (setCaps A f j) (2 * (j : Int)) (f.getD j 0)
theorem setCaps_len (A : List Arc) (f : List Int) : ∀ j, (setCaps A f j).length = A.length
  | 0 => rfl
  | j + 1 => by rw [setCaps, aSet_len, setCaps_len A f j]
theorem setCaps_get (A : List Arc) (f : List Int) : ∀ j i, 2 * j ≤ A.length → (setCaps A f j).getD i (0, 0) = if i % 2 = 0 ∧ i / 2 < j then ((A.getD i (0, 0)).1, f.getD (i / 2) 0) else A.getD i (0, 0)
  | 0, i, _ => by rw [setCaps, if_neg (by omega)]
  | j + 1, i, h => by
    have ih := setCaps_get A f j i (by omega)
    rw [setCaps]; unfold aSet
    rw [show (2 * (j : Int)).toNat = 2 * j by omega]
    by_cases hi : i = 2 * j
    · subst hi
      rw [Go.AM.getD_set_eq (by rw [setCaps_len]; omega), if_pos (by omega)]
      have e : aTo (setCaps A f j) (2 * (j : Int)) = (A.getD (2 * j) (0, 0)).1 := by
        unfold aTo; rw [show (2 * (j : Int)).toNat = 2 * j by omega, ih, if_neg (by omega)]
      rw [e, show 2 * j / 2 = j by omega]
    · rw [Go.AM.getD_set_ne (Ne.symm hi), ih]
      by_cases hc : i % 2 = 0 ∧ i / 2 < j
      · rw [if_pos hc, if_pos (by omega)]
      · rw [if_neg hc, if_neg (by omega)]
theorem setCaps_arcs {n : Net} (hv : validB n = true) (f : List Int) : Arcs n (setCaps (openP n).1 f n.E.length) f := by
  have ho := open_len hv
  refine Arcs.mk' (by rw [setCaps_len, ho.len]) (fun e he => ?_) fun e he => ?_
  · rw [setCaps_get _ _ _ _ (by rw [ho.len]; omega), if_pos (by omega), ho.ev e he, show 2 * e / 2 = e by omega]
  · rw [setCaps_get _ _ _ _ (by rw [ho.len]; omega), if_neg (by omega), ho.od e he]
/-! ### A path is taken away. -/
def dec1 (A : List Arc) (k : Int) : List Arc := aSet A k (aLeft A k - 1)
def decA (A : List Arc) (ks : List Int) : List Arc := ks.foldl dec1 A
theorem dec1_len (A : List Arc) (k : Int) : (dec1 A k).length = A.length := aSet_len _ _ _
theorem dec1_to (A : List Arc) (k j : Int) : aTo (dec1 A k) j = aTo A j := aTo_set _ _ _ _
theorem decA_snoc (A : List Arc) (ks : List Int) (k : Int) : decA A (ks ++ [k]) = dec1 (decA A ks) k := by simp [decA]
theorem decA_len (A : List Arc) (ks : List Int) : (decA A ks).length = A.length := by
  unfold decA
  induction ks generalizing A with
  | nil => rfl
  | cons k ks ih => simp only [List.foldl_cons]; rw [ih, dec1_len]
theorem decA_to (A : List Arc) (ks : List Int) (j : Int) : aTo (decA A ks) j = aTo A j := by
  unfold decA
  induction ks generalizing A with
  | nil => rfl
  | cons k ks ih => simp only [List.foldl_cons]; rw [ih, dec1_to]
theorem dec1_bnd {A : List Arc} {B k : Int} (h : Bnd A B) (hk : 0 ≤ k) : Bnd (dec1 A k) (B + 1) := by
  intro j
  have hj := h j
  have hk1 := h k
  unfold dec1
  by_cases hkj : k.toNat = j.toNat
  · by_cases hl : k.toNat < A.length
    · have : aLeft (aSet A k (aLeft A k - 1)) j = aLeft A k - 1 := by
        have := aLeft_set_eq (arcs := A) (k := k) (aLeft A k - 1) hl
        unfold aLeft at this ⊢; rw [← hkj]; exact this
      rw [this]; omega
    · have : aSet A k (aLeft A k - 1) = A := by unfold aSet; exact List.set_eq_of_length_le (by omega)
      rw [this]; omega
  · rw [aLeft_set_ne A (aLeft A k - 1) hkj]; omega
theorem dec_arcs {n : Net} {A : List Arc} {f : List Int} (h : Arcs n A f) {e : Nat} (he : e < n.E.length) (hf : f.length = n.E.length) : Arcs n (dec1 A (2 * (e : Int))) (f.set e (f.getD e 0 - 1)) := by
  have hl := h.len'
  have ht : (2 * (e : Int)).toNat = 2 * e := by omega
  have hg : ∀ i, (dec1 A (2 * (e : Int))).getD i (0, 0) = if i = 2 * e then ((eAt n.E e).to, f.getD e 0 - 1) else A.getD i (0, 0) := fun i => by
    unfold dec1 aSet aTo aLeft
    rw [ht, h.ev' he]
    by_cases hi : i = 2 * e
    · subst hi; rw [Go.AM.getD_set_eq (by omega), if_pos rfl]
    · rw [Go.AM.getD_set_ne (Ne.symm hi), if_neg hi]
  refine Arcs.mk' (by rw [dec1_len, hl]) (fun i hi => ?_) fun i hi => ?_
  · rw [hg]
    by_cases hie : i = e
    · subst hie; rw [if_pos rfl, Go.AM.getD_set_eq (by omega)]
    · rw [if_neg (by omega), Go.AM.getD_set_ne (Ne.symm hie), h.ev' hi]
  · rw [hg, if_neg (by omega), h.od' hi]
/-- The nodes of a path, from its arcs. -/
def nodes (A : List Arc) (P : List Int) (ks : List Int) : List Int := ks.foldl (fun P k => aTo A (x1 k) :: P) P
theorem nodes_snoc (A : List Arc) (P ks : List Int) (k : Int) : nodes A P (ks ++ [k]) = aTo A (x1 k) :: nodes A P ks := by simp [nodes]
theorem nodes_len (A : List Arc) : ∀ (ks P : List Int), (nodes A P ks).length = ks.length + P.length
  | [], P => by simp [nodes]
  | k :: ks, P => by
    have := nodes_len A ks (aTo A (x1 k) :: P)
    simp only [nodes, List.foldl_cons, List.length_cons] at this ⊢
    rw [this]; omega
/-- The steps of a path, as numbers. -/
def keysOf (N : Int) : List Int → List Nat
  | a :: b :: l => (a * N + b).toNat :: keysOf N (b :: l)
  | _ => []
def keyE (N : Int) (x : Edg) : Nat := (x.fr * N + x.to).toNat
def keySum (n : Net) (f : List Int) (k : Nat) : Nat → Int
  | 0 => 0
  | j + 1 => keySum n f k j + if keyE n.N (eAt n.E j) = k then f.getD j 0 else 0
theorem keySum_set (n : Net) (f : List Int) (k e : Nat) (x : Int) (he : e < f.length) : ∀ j, keySum n (f.set e x) k j = keySum n f k j + if e < j ∧ keyE n.N (eAt n.E e) = k then x - f.getD e 0 else 0
  | 0 => by simp [keySum]
  | j + 1 => by
    rw [keySum, keySum, keySum_set n f k e x he j]
    by_cases hj : e = j
    · subst hj
      rw [Go.AM.getD_set_eq he, if_neg (by omega)]
      by_cases hk : keyE n.N (eAt n.E e) = k
      · rw [if_pos hk, if_pos hk, if_pos ⟨by omega, hk⟩]; omega
      · rw [if_neg hk, if_neg hk, if_neg (by rintro ⟨_, h⟩; exact hk h)]
    · rw [Go.AM.getD_set_ne hj]
      have e1 : (e < j + 1 ∧ keyE n.N (eAt n.E e) = k) = (e < j ∧ keyE n.N (eAt n.E e) = k) := propext ⟨fun h => ⟨by have := h.1; omega, h.2⟩, fun h => ⟨by have := h.1; omega, h.2⟩⟩
      simp only [e1]; omega
theorem keySum_nn {n : Net} {f : List Int} (k : Nat) : ∀ j, (∀ i, i < j → 0 ≤ f.getD i 0) → 0 ≤ keySum n f k j
  | 0, _ => by simp [keySum]
  | j + 1, h => by
    have ih := keySum_nn (n := n) k j fun i hi => h i (by omega)
    have := h j (by omega)
    rw [keySum]; split <;> omega
structure PathOk (N s t : Int) (p : List Int) : Prop where
  long : 2 ≤ p.length ∧ p.length ≤ N.toNat
  rng : ∀ v ∈ p, 0 ≤ v ∧ v < N
  nd : p.Nodup
  hd : p.head? = some s
  lst : p.getLast? = some t
/-- Along a path backwards. -/
theorem walk_back {n : Net} {s t : Int} {rank : Int → Nat} (hv : validB n = true) : ∀ (ks : List Int) (A : List Arc) (f : List Int) (v : Int) (P : List Int), Arcs n A f → f.length = n.E.length →
    (∀ k ∈ ks, 0 ≤ k ∧ k < A.length) → TrB (capN n f).E (zer n) rank s (ks.map cd) v →
    (∃ P', P = v :: P') → P.Nodup → (∀ u ∈ P, 0 ≤ u ∧ u < n.N ∧ rank v ≤ rank u) → P.getLast? = some t →
    ∃ f', Arcs n (decA A ks) f' ∧ f'.length = n.E.length ∧ (∀ i, 0 ≤ f.getD i 0 → 0 ≤ f'.getD i 0 ∧ f'.getD i 0 ≤ f.getD i 0) ∧
      (∀ u, bal n f' u = bal n f u - (ind (s = u) - ind (v = u))) ∧ (nodes A P ks).Nodup ∧ (∀ u ∈ nodes A P ks, 0 ≤ u ∧ u < n.N) ∧ (nodes A P ks).head? = some s ∧ (nodes A P ks).getLast? = some t ∧
      ∀ k, ((keysOf n.N (nodes A P ks)).count k : Int) + keySum n f' k n.E.length = (keysOf n.N P).count k + keySum n f k n.E.length := by
  intro ks
  induction ks with
  | nil =>
    rintro A f v P hA hfl _ hT ⟨P', rfl⟩ hnd hr hl
    have hT : v = s := hT
    subst hT
    exact ⟨f, hA, hfl, fun i h => ⟨h, Int.le_refl _⟩, fun u => by omega, hnd, fun u hu => ⟨(hr u hu).1, (hr u hu).2.1⟩, rfl, hl, fun k => rfl⟩
  | cons k ks ih =>
    rintro A f v P hA hfl hk hT ⟨P', rfl⟩ hnd hr hl
    obtain ⟨t1, t2, t3, t4, t5⟩ := hT
    obtain ⟨hk0, hk1⟩ := hk k (by simp)
    have hAl := hA.len'
    have hk2 : k % 2 = 0 := by
      rcases (show k % 2 = 0 ∨ k % 2 = 1 by omega) with h | h
      · exact h
      · exfalso
        have e : cd k = -2 - k / 2 := by unfold cd; rw [if_neg (by omega)]
        rw [e] at t4; unfold room at t4; rw [if_neg (by omega), zer_get] at t4; omega
    obtain ⟨e, he⟩ : ∃ e : Nat, k = 2 * e := ⟨(k / 2).toNat, by omega⟩
    have hcd : cd k = e := by unfold cd; rw [if_pos hk2]; omega
    have hel : e < n.E.length := by omega
    have hcap := capN_at n f hel
    have hsrc : srcB (capN n f).E (cd k) = (eAt n.E e).fr := by rw [hcd]; unfold srcB; rw [if_pos (by omega), Int.toNat_natCast, hcap]
    have hdst : dstB (capN n f).E (cd k) = (eAt n.E e).to := by rw [hcd]; unfold dstB; rw [if_pos (by omega), Int.toNat_natCast, hcap]
    have hroom : 0 < f.getD e 0 := by
      rw [hcd] at t4; unfold room at t4; rw [if_pos (by omega), Int.toNat_natCast, hcap, zer_get] at t4; simpa using t4
    have hx1 : aTo A (x1 k) = (eAt n.E e).fr := by
      have e1 : x1 k = 2 * e + 1 := by unfold x1; rw [if_pos hk2]; omega
      unfold aTo; rw [e1, show (2 * (e : Int) + 1).toNat = 2 * e + 1 by omega, hA.od' hel]
    have hin := edges_in hv e hel
    rw [hsrc] at t3 t5
    rw [hdst] at t2
    have hA2 := dec_arcs hA hel hfl
    rw [← he] at hA2
    have hnotin : (eAt n.E e).fr ∉ v :: P' := fun hm => by have := (hr _ hm).2.2; omega
    have hneq : ∀ c ∈ ks.map cd, idx c ≠ idx (cd k) := by
      have : TrB (capN n f).E (zer n) rank s (cd k :: ks.map cd) v := ⟨t1, by rw [hdst]; exact t2, by rw [hsrc]; exact t3, t4, by rw [hsrc]; exact t5⟩
      exact this.head_new
    have hT2 : ∀ (l : List Int) (w : Int), TrB (capN n f).E (zer n) rank s l w → (∀ c ∈ l, idx c ≠ idx (cd k)) → TrB (capN n (f.set e (f.getD e 0 - 1))).E (zer n) rank s l w := by
      intro l
      induction l with
      | nil => intro w h _; exact h
      | cons c l ihl =>
        rintro w ⟨a1, a2, a3, a4, a5⟩ hn
        have hc := idxB_lt a1
        rw [capN_len] at hc
        have hix : idx (cd k) = e := by rw [hcd]; unfold idx; rw [if_pos (by omega)]; omega
        have hne : idx c ≠ e := by rw [← hix]; exact hn c (by simp)
        have hfe : (f.set e (f.getD e 0 - 1)).getD (idx c) 0 = f.getD (idx c) 0 := Go.AM.getD_set_ne (Ne.symm hne) _ _
        have hsame : srcB (capN n (f.set e (f.getD e 0 - 1))).E c = srcB (capN n f).E c ∧ dstB (capN n (f.set e (f.getD e 0 - 1))).E c = dstB (capN n f).E c := by
          unfold srcB dstB
          unfold idx at hc
          split
          · rename_i h0; rw [if_pos h0] at hc
            rw [capN_at n _ hc, capN_at n _ hc]; exact ⟨rfl, rfl⟩
          · rename_i h0; rw [if_neg h0] at hc
            rw [capN_at n _ hc, capN_at n _ hc]; exact ⟨rfl, rfl⟩
        refine ⟨?_, by rw [hsame.2]; exact a2, by rw [hsame.1]; exact a3, ?_, by rw [hsame.1]; exact ihl _ a5 fun d hd => hn d (by simp [hd])⟩
        · unfold okB at a1 ⊢; rw [capN_len] at a1 ⊢; exact a1
        · rw [room_eq] at a4 ⊢
          rw [capN_at n _ hc] at a4 ⊢
          rw [hfe]; exact a4
    obtain ⟨f', r1, r2, r3, r4, r5, r6, r7, r8, r9⟩ := ih (dec1 A k) (f.set e (f.getD e 0 - 1)) (eAt n.E e).fr ((eAt n.E e).fr :: v :: P') hA2 (by simp [hfl]) (fun c hc => by rw [dec1_len]; exact hk c (by simp [hc])) (hT2 _ _ t5 hneq) ⟨_, rfl⟩
      (List.nodup_cons.2 ⟨hnotin, hnd⟩) (fun u hu => by
        rcases List.mem_cons.1 hu with rfl | hu
        · exact ⟨hin.1, by omega, Nat.le_refl _⟩
        · have := hr u hu; exact ⟨this.1, this.2.1, by omega⟩) (by rw [List.getLast?_cons_cons]; exact hl)
    have hnod : nodes (dec1 A k) ((eAt n.E e).fr :: v :: P') ks = nodes A (v :: P') (k :: ks) := by
      unfold nodes
      simp only [List.foldl_cons, hx1]
      congr 1
      funext P c
      rw [dec1_to]
    rw [hnod] at r5 r6 r7 r8 r9
    refine ⟨f', r1, r2, fun i hi => ?_, fun u => ?_, r5, r6, r7, r8, fun q => ?_⟩
    · by_cases hie : i = e
      · subst hie
        have := r3 i (by rw [Go.AM.getD_set_eq (by omega)]; omega)
        rw [Go.AM.getD_set_eq (by omega)] at this
        omega
      · have := r3 i (by rw [Go.AM.getD_set_ne (Ne.symm hie)]; exact hi)
        rw [Go.AM.getD_set_ne (Ne.symm hie)] at this
        exact this
    · rw [r4]
      show balAt n.E _ u n.E.length - _ = balAt n.E _ u n.E.length - _
      rw [balAt_set n.E f u e (by omega), if_pos hel, t2]
      have : f.getD e 0 - 1 - f.getD e 0 = -1 := by omega
      rw [this]; omega
    · rw [r9, keySum_set n f q e _ (by omega)]
      have hkq : keysOf n.N ((eAt n.E e).fr :: v :: P') = keyE n.N (eAt n.E e) :: keysOf n.N (v :: P') := by
        unfold keyE; rw [t2]; rfl
      rw [hkq, List.count_cons]
      by_cases hq : keyE n.N (eAt n.E e) = q
      · rw [if_pos (by simpa using hq), if_pos ⟨hel, hq⟩]; omega
      · rw [if_neg (by simpa using hq), if_neg (by rintro ⟨_, h⟩; exact hq h)]; omega
/-- What Paths returns. -/
def pathsP (leave : List (List Int)) (s t : Int) : Nat → List Arc → Option (List (List Int))
  | 0, _ => some []
  | m + 1, A => match reachP A leave s with
    | none => none
    | some pr => match path A pr (leave.length + 1) t with
      | none => none
      | some ks => (pathsP leave s t m (decA A ks)).map (nodes A [t] ks :: ·)
def PInv (n : Net) (s t : Int) (A : List Arc) (m : Nat) : Prop := ∃ f, Arcs n A f ∧ IsFlow n s t f ∧ bal n f s = m
theorem path_step_ok {n : Net} {s t : Int} {A : List Arc} {f : List Int} {m : Nat} (hv : validB n = true) (hst : endsB n s t = true) (hA : Arcs n A f) (hf : IsFlow n s t f) (hb : bal n f s = m + 1) :
    ∃ pr ks f', reachP A (openP n).2 s = some pr ∧ path A pr (n.N.toNat + 1) t = some ks ∧ WfB A pr n.N.toNat ∧ Arcs n (decA A ks) f' ∧ IsFlow n s t f' ∧ bal n f' s = m ∧ PathOk n.N s t (nodes A [t] ks) ∧
      ∀ k, ((keysOf n.N (nodes A [t] ks)).count k : Int) + keySum n f' k n.E.length = keySum n f k n.E.length := by
  have he := ends_of hst
  have hfb := fun i => flow_bnd hv hf i
  have hcv := capN_valid (f := f) hv fun i _ => hfb i
  have hz := zer_flow (s := s) (t := t) f hcv
  have hfc : IsFlow (capN n f) s t f := ⟨by rw [capN_len]; exact hf.len, fun i hi => by
    rw [capN_len] at hi; rw [capN_at n f hi]; exact ⟨(hfb i).1, Int.le_refl _⟩, fun u h0 h1 h2 h3 => by rw [capN_bal']; exact hf.cons u h0 h1 h2 h3⟩
  have hce : endsB (capN n f) s t = true := hst
  obtain ⟨pr, q, k1, k2⟩ := reach_pi hcv hA he.1 he.2.1
  rw [capN_leave] at k1
  have htr : pr.getD t.toNat 0 ≠ -1 := fun h => by
    have := fill_best hcv hce hz hA (by rw [capN_leave]; exact k1) h f hfc
    rw [capN_bal', capN_bal'] at this
    have hz0 : bal n (zer n) s = 0 := by
      have : ∀ j, balAt n.E (zer n) s j = 0 := fun j => by
        induction j with
        | zero => rfl
        | succ j ih => rw [balAt, balStep_eq, ih, zer_get]; simp
      exact this _
    omega
  have htq := (k2.seen t he.2.2.1 (by show t < n.N.toNat; omega)).1 htr
  obtain ⟨j, hj, hjt⟩ := List.mem_iff_getElem.1 htq
  have hlen := nodup_bound _ _ k2.nd k2.rng
  have hjl : j < q.length := hj
  have hqN : q.length ≤ n.N.toNat := hlen
  obtain ⟨ks, hks⟩ := path_some hA k2 (n.N.toNat + 1) j t (by rw [List.getElem?_eq_getElem hj, hjt]) (by omega)
  obtain ⟨hT, hkr⟩ := path_tr hA k2 (n.N.toNat + 1) t ks htq hks
  obtain ⟨f', r1, r2, r3, r4, r5, r6, r7, r8, r9⟩ := walk_back (t := t) hv ks A f t [t] hA hf.len hkr hT ⟨[], rfl⟩ (by simp) (fun u hu => by simp at hu; subst hu; exact ⟨he.2.2.1, he.2.2.2.1, Nat.le_refl _⟩) rfl
  have hst1 : s ≠ t := he.2.2.2.2
  refine ⟨pr, ks, f', k1, hks, ⟨k2.l1, k2.vals⟩, r1, ⟨r2, fun i hi => ?_, fun u h0 h1 h2 h3 => ?_⟩, ?_, ⟨?_, r6, r5, r7, r8⟩, fun k => ?_⟩
  · have := r3 i (hfb i).1
    have := hf.caps i hi
    omega
  · rw [r4, hf.cons u h0 h1 h2 h3]; simp [ind, Ne.symm h2, Ne.symm h3]
  · rw [r4, hb]; simp [ind, Ne.symm hst1]
  · rw [nodes_len]
    have hb2 := nodup_bound n.N.toNat _ r5 (fun u hu => by have := r6 u hu; omega)
    rw [nodes_len] at hb2
    have hne : ks ≠ [] := by
      rintro rfl
      have : t = s := hT
      exact hst1 this.symm
    have := List.length_pos_iff.2 hne
    simp only [List.length_singleton] at hb2 ⊢
    omega
  · have := r9 k
    rw [this]; simp [keysOf]
def cntAll (N : Int) (ps : List (List Int)) (k : Nat) : Int := (ps.map fun p => ((keysOf N p).count k : Int)).sum
theorem paths_total {n : Net} {s t : Int} (hv : validB n = true) (hst : endsB n s t = true) : ∀ (m : Nat) (A : List Arc) (f : List Int), Arcs n A f → IsFlow n s t f → bal n f s = m →
    ∃ ps, pathsP (openP n).2 s t m A = some ps ∧ ps.length = m ∧ (∀ p ∈ ps, PathOk n.N s t p) ∧ ∀ k, cntAll n.N ps k ≤ keySum n f k n.E.length
  | 0, A, f, hA, hf, hb => ⟨[], rfl, rfl, fun _ h => (by cases h), fun k => by
      have := keySum_nn (n := n) (f := f) k n.E.length fun i hi => (hf.caps i hi).1
      simpa [cntAll] using this⟩
  | m + 1, A, f, hA, hf, hb => by
    obtain ⟨pr, ks, f', h1, h2, _, h3, h4, h5, h6, h7⟩ := path_step_ok hv hst hA hf (m := m) (by omega)
    obtain ⟨ps, g1, g2, g3, g4⟩ := paths_total hv hst m (decA A ks) f' h3 h4 h5
    refine ⟨nodes A [t] ks :: ps, ?_, by simp [g2], fun p hp => ?_, fun k => ?_⟩
    · unfold pathsP
      rw [h1]; simp only
      rw [(open_len hv).ll, h2]; simp only
      rw [g1]; rfl
    · rcases List.mem_cons.1 hp with rfl | hp
      · exact h6
      · exact g3 p hp
    · have := h7 k
      have := g4 k
      simp only [cntAll, List.map_cons, List.sum_cons] at *
      omega
/-- What holds along the way. -/
theorem pinv_ok {n : Net} {s t : Int} (hv : validB n = true) (hst : endsB n s t = true) {A : List Arc} {m : Nat} (h : PInv n s t A m) : WfR A (openP n).2 n.N.toNat ∧ A.length % 2 = 0 ∧ Bnd A 1125899906842624 ∧
    (∀ pr, reachP A (openP n).2 s = some pr → WfB A pr n.N.toNat) ∧ ∀ m' pr ks, m = m' + 1 → reachP A (openP n).2 s = some pr → path A pr (n.N.toNat + 1) t = some ks → PInv n s t (decA A ks) m' := by
  obtain ⟨f, hA, hf, hb⟩ := h
  have he := ends_of hst
  have hfb := fun i => flow_bnd hv hf i
  have hcv := capN_valid (f := f) hv fun i _ => hfb i
  have hz := zer_flow (s := s) (t := t) f hcv
  have hl := hA.len'
  have hw := wf_r hcv hA
  rw [capN_leave] at hw
  refine ⟨hw, by omega, bnd_r hcv hz hA, fun pr hr => ?_, fun m' pr ks hm hr hp => ?_⟩
  · obtain ⟨r, q, k1, k2⟩ := reach_pi hcv hA he.1 he.2.1
    rw [capN_leave, hr] at k1
    obtain rfl := Option.some.inj k1
    exact ⟨k2.l1, k2.vals⟩
  · obtain ⟨pr2, ks2, f', h1, h2, _, h3, h4, h5, _⟩ := path_step_ok hv hst hA hf (m := m') (by omega)
    rw [hr] at h1; obtain rfl := Option.some.inj h1
    rw [hp] at h2; obtain rfl := Option.some.inj h2
    exact ⟨f', h3, h4, h5⟩
end Go.AM
namespace Go.Proofs.F
open Go.AM Go
set_option maxRecDepth 100000
set_option maxHeartbeats 2000000
def lists (ps : List (List Int)) : List (List AV) := ps.map fun p => [.rsl 1 (ints p)]
theorem lists_len (ps : List (List Int)) : (lists ps).length = ps.length := by simp [lists]
theorem lists_app (ps : List (List Int)) (p : List Int) : lists ps ++ [[.rsl 1 (ints p)]] = lists (ps ++ [p]) := by simp [lists]
theorem lists_get {ps : List (List Int)} {i : Nat} {p : List Int} (h : ps[i]? = some p) : (lists ps).getD i [] = [.rsl 1 (ints p)] := getV h
theorem cons_app_one (x : Int) (p : List Int) : [[AV.int .i64 x]] ++ ints p = ints (x :: p) := by simp [ints]
theorem scP_ints (l : List Int) : scP (ints l) := fun cs h a ha => by
  simp only [ints, List.mem_map] at h
  obtain ⟨x, _, rfl⟩ := h
  simp at ha; subst ha; rfl
theorem vwc_lists (s : Store) (d : Nat) (ps : List (List Int)) : (lists ps).map (fun cs => cs.map (vwc s d)) = lists ps := by simp [lists, vwc_rsl]
theorem one_ints (x : Int) : [[AV.int .i64 x]] = ints [x] := rfl
theorem paths_err (n : Net) (s t : Int) (fl : List Int) (hE0 : n.E.length ≤ 9223372036854775807) (hl : fl.length ≤ 9223372036854775807) (e : Nat) (he : e = if checkC n s t ≠ 0 then checkC n s t else if !flowB n s t fl || decide (bal n fl s < 0) then 17 else if 1000 < bal n fl s then 5 else 0) (h0 : e ≠ 0) :
    Reads Try.prog 33 false [netV n, .int .i64 s, .int .i64 t, .rsl 1 (ints fl)] (.tup [.rsl 1 [], .int .i64 e]) := by
  have hck := check_r n s t hE0
  have hwo := fun hv he => worth_r n s t fl hv he hl
  have hchk : checkC n s t = 0 → validB n = true ∧ endsB n s t = true := by
    intro h; unfold checkC at h
    cases h1 : validB n <;> cases h2 : endsB n s t <;> simp_all
  unfold netV at *
  refine Reads.body (rs := [.tmp 8, .tmp 9]) Try.func33 rfl Try.ntmps33 rfl (by simp) ?_
  generalize hQr : retQ _ _ _ = Qr
  refine AW.seq fun K1 hK1 => ?_
  -- region 0
  refine AW.regionK 0 (fun _ => none) [1, 2, 3, 4] [4] ?_
  simp only [go_sem, reduceIte, reduceCtorEq, Nat.reduceAdd, Nat.reduceMul, Nat.reduceEqDiff, Nat.reduceLT, Nat.reduceLeDiff, Nat.reduceSub, Nat.reducePow, Nat.reduceBEq, Int.reduceToNat, List.reduceReplicate]
  repeat with_reducible refine cj ?_ ?_
  all_goals try first | omega
  refine hK1 _ _ _ ?_; clear hK1
  refine AW.seq fun K2 hK2 => ?_
  refine AW.seq fun K3 hK3 => ?_
  -- region 1
  refine AW.regionK 0 (fun ii => if ii = 3 then some (.reads false (.int .i64 (checkC n s t))) else none) [1, 2, 3, 4, 10] [4] ?_
  simp only [go_sem, reduceIte, reduceCtorEq, Nat.reduceAdd, Nat.reduceMul, Nat.reduceEqDiff, Nat.reduceLT, Nat.reduceLeDiff, Nat.reduceSub, Nat.reducePow, Nat.reduceBEq, Int.reduceToNat, List.reduceReplicate]
  repeat with_reducible refine cj ?_ ?_
  all_goals try first | (exact hck) | omega | exact ent (by kernel_rfl)
  refine hK3 _ _ _ ?_; clear hK3
  refine AW.seq fun K4 hK4 => ?_
  -- region 2
  refine AW.regionK 0 (fun _ => none) [1, 2, 3, 4, 10, 25] [4] ?_
  simp only [go_sem, reduceIte, reduceCtorEq, Nat.reduceAdd, Nat.reduceMul, Nat.reduceEqDiff, Nat.reduceLT, Nat.reduceLeDiff, Nat.reduceSub, Nat.reducePow, Nat.reduceBEq, Int.reduceToNat, List.reduceReplicate]
  repeat with_reducible refine cj ?_ ?_
  all_goals try first | omega
  refine hK4 _ _ _ ?_; clear hK4
  -- cond 1
  refine AW.cond rfl (by simp only [go_sem, reduceIte, reduceCtorEq, Nat.reduceAdd, Nat.reduceMul, Nat.reduceEqDiff, Nat.reduceLT, Nat.reduceLeDiff, Nat.reduceSub, Nat.reducePow, Nat.reduceBEq, Int.reduceToNat, List.reduceReplicate]) ?_ ?_
  · intro hb
    try simp only [hB, decide_eq_true_eq, decide_eq_false_iff_not] at hb
    refine AW.seq fun K5 hK5 => ?_
    -- region 3
    refine AW.regionK 0 (fun _ => none) [8, 9] [] ?_
    simp only [go_sem, reduceIte, reduceCtorEq, Nat.reduceAdd, Nat.reduceMul, Nat.reduceEqDiff, Nat.reduceLT, Nat.reduceLeDiff, Nat.reduceSub, Nat.reducePow, Nat.reduceBEq, Int.reduceToNat, List.reduceReplicate]
    repeat with_reducible refine cj ?_ ?_
    all_goals try first | omega
    refine hK5 _ _ _ ?_; clear hK5
    refine AW.ret ?_
    rw [← hQr]
    simp only [go_sem, reduceIte, reduceCtorEq, Nat.reduceAdd, Nat.reduceMul, Nat.reduceEqDiff, Nat.reduceLT, Nat.reduceLeDiff, Nat.reduceSub, Nat.reducePow, Nat.reduceBEq, Int.reduceToNat, List.reduceReplicate]
    refine Wk.tup2 (Wk.nil 1) (Wk.of_eq ?_)
    rw [he, if_pos (by omega)]
  · intro hb
    try simp only [hB, decide_eq_true_eq, decide_eq_false_iff_not] at hb
    obtain ⟨hv, hen⟩ := hchk (by omega)
    have hwo := hwo hv hen
    rw [if_neg (by omega)] at he
    refine AW.skip ?_
    refine hK2 _ _ _ ?_; clear hK2
    refine AW.seq fun K6 hK6 => ?_
    -- region 4
    refine AW.regionK 0 (fun ii => if ii = 4 then some (.reads false (.tup [.int .i64 (if flowB n s t fl then bal n fl s else 0), .bool (flowB n s t fl)])) else none) [1, 2, 3, 4, 11, 12] [4] ?_
    simp only [go_sem, reduceIte, reduceCtorEq, Nat.reduceAdd, Nat.reduceMul, Nat.reduceEqDiff, Nat.reduceLT, Nat.reduceLeDiff, Nat.reduceSub, Nat.reducePow, Nat.reduceBEq, Int.reduceToNat, List.reduceReplicate]
    repeat with_reducible refine cj ?_ ?_
    all_goals try first | (exact hwo) | omega | exact ent (by kernel_rfl)
    refine hK6 _ _ _ ?_; clear hK6
    refine AW.seq fun K7 hK7 => ?_
    refine AW.block ?_
    refine AW.seq fun K8 hK8 => ?_
    -- region 5
    refine AW.regionK 0 (fun _ => none) [1, 2, 3, 4, 11, 35] [4] ?_
    simp only [go_sem, reduceIte, reduceCtorEq, Nat.reduceAdd, Nat.reduceMul, Nat.reduceEqDiff, Nat.reduceLT, Nat.reduceLeDiff, Nat.reduceSub, Nat.reducePow, Nat.reduceBEq, Int.reduceToNat, List.reduceReplicate]
    repeat with_reducible refine cj ?_ ?_
    all_goals try first | omega | (intros; (repeat' apply And.intro) <;> first | assumption | omega | decide) | (intro hgd; exact absurd hgd (by decide)) | rfl | (simp only [go_sem, reduceIte, reduceCtorEq, Nat.reduceAdd, Nat.reduceMul, Nat.reduceEqDiff, Nat.reduceLT, Nat.reduceLeDiff, Nat.reduceSub, Nat.reducePow, Nat.reduceBEq, Int.reduceToNat, List.reduceReplicate]; done) | (intro _hgd; simp_all [go_sem]; done)
    refine hK8 _ _ _ ?_; clear hK8
    -- cond 2
    refine AW.cond rfl (by simp only [go_sem, reduceIte, reduceCtorEq, Nat.reduceAdd, Nat.reduceMul, Nat.reduceEqDiff, Nat.reduceLT, Nat.reduceLeDiff, Nat.reduceSub, Nat.reducePow, Nat.reduceBEq, Int.reduceToNat, List.reduceReplicate]) ?_ ?_
    · intro hb
      try simp only [hB, decide_eq_true_eq, decide_eq_false_iff_not] at hb
      refine AW.seq fun K9 hK9 => ?_
      -- region 6
      refine AW.regionK 0 (fun _ => none) [8, 9] [] ?_
      simp only [go_sem, reduceIte, reduceCtorEq, Nat.reduceAdd, Nat.reduceMul, Nat.reduceEqDiff, Nat.reduceLT, Nat.reduceLeDiff, Nat.reduceSub, Nat.reducePow, Nat.reduceBEq, Int.reduceToNat, List.reduceReplicate]
      repeat with_reducible refine cj ?_ ?_
      all_goals try first | omega
      refine hK9 _ _ _ ?_; clear hK9
      refine AW.ret ?_
      rw [← hQr]
      simp only [go_sem, reduceIte, reduceCtorEq, Nat.reduceAdd, Nat.reduceMul, Nat.reduceEqDiff, Nat.reduceLT, Nat.reduceLeDiff, Nat.reduceSub, Nat.reducePow, Nat.reduceBEq, Int.reduceToNat, List.reduceReplicate]
      refine Wk.tup2 (Wk.nil 1) (Wk.of_eq ?_)
      have hc : (!flowB n s t fl || decide (bal n fl s < 0)) = true := by revert hb; cases flowB n s t fl <;> simp
      rw [he, if_pos hc]; rfl
    · intro hb
      try simp only [hB, decide_eq_true_eq, decide_eq_false_iff_not] at hb
      have hfl : flowB n s t fl = true := by revert hb; cases flowB n s t fl <;> simp
      rw [hfl] at hb he
      have hge : 0 ≤ bal n fl s := by simp at hb; omega
      rw [if_neg (by simp; omega)] at he
      refine AW.seq fun K10 hK10 => ?_
      -- region 7
      refine AW.regionK 0 (fun _ => none) [1, 2, 3, 4, 11, 42] [4] ?_
      simp only [go_sem, reduceIte, reduceCtorEq, Nat.reduceAdd, Nat.reduceMul, Nat.reduceEqDiff, Nat.reduceLT, Nat.reduceLeDiff, Nat.reduceSub, Nat.reducePow, Nat.reduceBEq, Int.reduceToNat, List.reduceReplicate]
      repeat with_reducible refine cj ?_ ?_
      all_goals try first | omega
      refine hK10 _ _ _ ?_; clear hK10
      -- cond 3
      refine AW.cond rfl (by simp only [go_sem, reduceIte, reduceCtorEq, Nat.reduceAdd, Nat.reduceMul, Nat.reduceEqDiff, Nat.reduceLT, Nat.reduceLeDiff, Nat.reduceSub, Nat.reducePow, Nat.reduceBEq, Int.reduceToNat, List.reduceReplicate]) ?_ ?_
      · intro hb
        try simp only [hB, decide_eq_true_eq, decide_eq_false_iff_not] at hb
        refine AW.seq fun K11 hK11 => ?_
        -- region 8
        refine AW.regionK 0 (fun _ => none) [8, 9] [] ?_
        simp only [go_sem, reduceIte, reduceCtorEq, Nat.reduceAdd, Nat.reduceMul, Nat.reduceEqDiff, Nat.reduceLT, Nat.reduceLeDiff, Nat.reduceSub, Nat.reducePow, Nat.reduceBEq, Int.reduceToNat, List.reduceReplicate]
        repeat with_reducible refine cj ?_ ?_
        all_goals try first | omega
        refine hK11 _ _ _ ?_; clear hK11
        refine AW.ret ?_
        rw [← hQr]
        simp only [go_sem, reduceIte, reduceCtorEq, Nat.reduceAdd, Nat.reduceMul, Nat.reduceEqDiff, Nat.reduceLT, Nat.reduceLeDiff, Nat.reduceSub, Nat.reducePow, Nat.reduceBEq, Int.reduceToNat, List.reduceReplicate]
        refine Wk.tup2 (Wk.nil 1) (Wk.of_eq ?_)
        rw [if_pos hfl] at hb
        rw [he, if_pos hb]; rfl
      · intro hb
        try simp only [hB, decide_eq_true_eq, decide_eq_false_iff_not] at hb
        exfalso; rw [if_pos hfl] at hb; rw [if_neg (by omega)] at he; exact h0 he
end Go.Proofs.F
namespace Go.Proofs.F
open Go.AM Go
set_option maxRecDepth 100000
set_option maxHeartbeats 2000000
theorem paths_r (n : Net) (s t : Int) (fl : List Int) (hv : validB n = true) (hst : endsB n s t = true) (hl : fl.length ≤ 9223372036854775807) (hf : flowB n s t fl = true) (v : Nat) (hb0 : bal n fl s = v) (hv1 : v ≤ 1000) (ps : List (List Int))
    (hps : pathsP (openP n).2 s t v (setCaps (openP n).1 fl n.E.length) = some ps) (hpl : ps.length = v) :
    Reads Try.prog 33 false [netV n, .int .i64 s, .int .i64 t, .rsl 1 (ints fl)] (.tup [.rsl 1 (lists ps), .int .i64 ((0 : Nat) : Int)]) := by
  obtain ⟨hN1, hN2, hE⟩ := valid_size hv
  have hck := check_r n s t (by omega)
  have hc0 : checkC n s t = 0 := by simp [checkC, hv, hst]
  rw [hc0] at hck
  have hends : 0 ≤ s ∧ s < n.N ∧ 0 ≤ t ∧ t < n.N := by simp [endsB] at hst; omega
  have hwo := worth_r n s t fl hv hst hl
  rw [hf, if_pos rfl, hb0] at hwo
  have hop := open_u n hv
  have hif := (flowB_iff (by omega)).1 hf
  have hol := open_len hv
  have hsl := setCaps_len (openP n).1 fl
  have hlt : (leaveV (openP n).2).take n.N.toNat = leaveV (openP n).2 := List.take_of_length_le (by rw [leaveV_len, hol.ll]; exact Nat.le_refl _)
  have hpi0 : PInv n s t (setCaps (openP n).1 fl n.E.length) v := ⟨fl, setCaps_arcs hv fl, hif, hb0⟩
  have hfll := hif.len
  unfold netV at *
  refine Reads.body (rs := [.tmp 8, .tmp 9]) Try.func33 rfl Try.ntmps33 rfl (by simp) ?_
  generalize hQr : retQ _ _ _ = Qr
  refine AW.seq fun K1 hK1 => ?_
  -- region 0
  refine AW.regionK 0 (fun _ => none) [1, 2, 3, 4] [4] ?_
  simp only [go_sem, reduceIte, reduceCtorEq, Nat.reduceAdd, Nat.reduceMul, Nat.reduceEqDiff, Nat.reduceLT, Nat.reduceLeDiff, Nat.reduceSub, Nat.reducePow, Nat.reduceBEq, Int.reduceToNat, List.reduceReplicate, ren_arcs, renC_leave, vw_arcs, vwc_leave, hlt]
  repeat with_reducible refine cj ?_ ?_
  all_goals try first | omega
  refine hK1 _ _ _ ?_; clear hK1
  refine AW.seq fun K2 hK2 => ?_
  refine AW.seq fun K3 hK3 => ?_
  -- region 1
  refine AW.regionK 0 (fun ii => if ii = 3 then some (.reads false (.int .i64 ((0 : Nat) : Int))) else none) [1, 2, 3, 4, 10] [4] ?_
  simp only [go_sem, reduceIte, reduceCtorEq, Nat.reduceAdd, Nat.reduceMul, Nat.reduceEqDiff, Nat.reduceLT, Nat.reduceLeDiff, Nat.reduceSub, Nat.reducePow, Nat.reduceBEq, Int.reduceToNat, List.reduceReplicate, ren_arcs, renC_leave, vw_arcs, vwc_leave, hlt]
  repeat with_reducible refine cj ?_ ?_
  all_goals try first | (exact hck) | omega | exact ent (by kernel_rfl)
  refine hK3 _ _ _ ?_; clear hK3
  refine AW.seq fun K4 hK4 => ?_
  -- region 2
  refine AW.regionK 0 (fun _ => none) [1, 2, 3, 4, 10, 25] [4] ?_
  simp only [go_sem, reduceIte, reduceCtorEq, Nat.reduceAdd, Nat.reduceMul, Nat.reduceEqDiff, Nat.reduceLT, Nat.reduceLeDiff, Nat.reduceSub, Nat.reducePow, Nat.reduceBEq, Int.reduceToNat, List.reduceReplicate, ren_arcs, renC_leave, vw_arcs, vwc_leave, hlt]
  repeat with_reducible refine cj ?_ ?_
  all_goals try first | omega
  refine hK4 _ _ _ ?_; clear hK4
  -- cond 1
  refine AW.cond rfl (by simp only [go_sem, reduceIte, reduceCtorEq, Nat.reduceAdd, Nat.reduceMul, Nat.reduceEqDiff, Nat.reduceLT, Nat.reduceLeDiff, Nat.reduceSub, Nat.reducePow, Nat.reduceBEq, Int.reduceToNat, List.reduceReplicate]) ?_ ?_
  · intro hb
    try simp only [hB, decide_eq_true_eq, decide_eq_false_iff_not] at hb
    exfalso; simp at hb
  · intro hb
    try simp only [hB, decide_eq_true_eq, decide_eq_false_iff_not] at hb
    refine AW.skip ?_
    refine hK2 _ _ _ ?_; clear hK2
    refine AW.seq fun K5 hK5 => ?_
    -- region 4
    refine AW.regionK 0 (fun ii => if ii = 4 then some (.reads false (.tup [.int .i64 (v : Nat), .bool true])) else none) [1, 2, 3, 4, 11, 12] [4] ?_
    simp only [go_sem, reduceIte, reduceCtorEq, Nat.reduceAdd, Nat.reduceMul, Nat.reduceEqDiff, Nat.reduceLT, Nat.reduceLeDiff, Nat.reduceSub, Nat.reducePow, Nat.reduceBEq, Int.reduceToNat, List.reduceReplicate, ren_arcs, renC_leave, vw_arcs, vwc_leave, hlt]
    repeat with_reducible refine cj ?_ ?_
    all_goals try first | (exact hwo) | omega | exact ent (by kernel_rfl)
    refine hK5 _ _ _ ?_; clear hK5
    refine AW.seq fun K6 hK6 => ?_
    refine AW.block ?_
    refine AW.seq fun K7 hK7 => ?_
    -- region 5
    refine AW.regionK 0 (fun _ => none) [1, 2, 3, 4, 11, 35] [4] ?_
    simp only [go_sem, reduceIte, reduceCtorEq, Nat.reduceAdd, Nat.reduceMul, Nat.reduceEqDiff, Nat.reduceLT, Nat.reduceLeDiff, Nat.reduceSub, Nat.reducePow, Nat.reduceBEq, Int.reduceToNat, List.reduceReplicate, ren_arcs, renC_leave, vw_arcs, vwc_leave, hlt]
    repeat with_reducible refine cj ?_ ?_
    all_goals try first | omega | (intros; (repeat' apply And.intro) <;> first | assumption | omega | decide) | (intro hgd; exact absurd hgd (by decide)) | rfl | (simp only [go_sem, reduceIte, reduceCtorEq, Nat.reduceAdd, Nat.reduceMul, Nat.reduceEqDiff, Nat.reduceLT, Nat.reduceLeDiff, Nat.reduceSub, Nat.reducePow, Nat.reduceBEq, Int.reduceToNat, List.reduceReplicate, ren_arcs, renC_leave, vw_arcs, vwc_leave, hlt]; done) | (intro _hgd; simp_all [go_sem]; done)
    refine hK7 _ _ _ ?_; clear hK7
    -- cond 2
    refine AW.cond rfl (by simp only [go_sem, reduceIte, reduceCtorEq, Nat.reduceAdd, Nat.reduceMul, Nat.reduceEqDiff, Nat.reduceLT, Nat.reduceLeDiff, Nat.reduceSub, Nat.reducePow, Nat.reduceBEq, Int.reduceToNat, List.reduceReplicate]) ?_ ?_
    · intro hb
      try simp only [hB, decide_eq_true_eq, decide_eq_false_iff_not] at hb
      exfalso; first | omega | (simp at hb; omega)
    · intro hb
      try simp only [hB, decide_eq_true_eq, decide_eq_false_iff_not] at hb
      refine AW.seq fun K8 hK8 => ?_
      -- region 7
      refine AW.regionK 0 (fun _ => none) [1, 2, 3, 4, 11, 42] [4] ?_
      simp only [go_sem, reduceIte, reduceCtorEq, Nat.reduceAdd, Nat.reduceMul, Nat.reduceEqDiff, Nat.reduceLT, Nat.reduceLeDiff, Nat.reduceSub, Nat.reducePow, Nat.reduceBEq, Int.reduceToNat, List.reduceReplicate, ren_arcs, renC_leave, vw_arcs, vwc_leave, hlt]
      repeat with_reducible refine cj ?_ ?_
      all_goals try first | omega
      refine hK8 _ _ _ ?_; clear hK8
      -- cond 3
      refine AW.cond rfl (by simp only [go_sem, reduceIte, reduceCtorEq, Nat.reduceAdd, Nat.reduceMul, Nat.reduceEqDiff, Nat.reduceLT, Nat.reduceLeDiff, Nat.reduceSub, Nat.reducePow, Nat.reduceBEq, Int.reduceToNat, List.reduceReplicate]) ?_ ?_
      · intro hb
        try simp only [hB, decide_eq_true_eq, decide_eq_false_iff_not] at hb
        exfalso; omega
      · intro hb
        try simp only [hB, decide_eq_true_eq, decide_eq_false_iff_not] at hb
        refine AW.skip ?_
        refine hK6 _ _ _ ?_; clear hK6
        refine AW.seq fun K9 hK9 => ?_
        -- region 9
        refine AW.regionK 0 (fun ii => if ii = 1 then some (.upd [] (fun k => [(0, some ⟨k, k, 2, [[.osl 2 ((openP n).1.map arcV), .sl ⟨1, k, none⟩ 0 n.N.toNat none]]⟩), (1, some ⟨k, k, 1, leaveV (openP n).2⟩)]) (fun k => .ptr ⟨0, k, none⟩ 0 0)) else none) [1, 2, 3, 4, 11, 13] [4, 46, 1046] ?_
        simp only [go_sem, reduceIte, reduceCtorEq, Nat.reduceAdd, Nat.reduceMul, Nat.reduceEqDiff, Nat.reduceLT, Nat.reduceLeDiff, Nat.reduceSub, Nat.reducePow, Nat.reduceBEq, Int.reduceToNat, List.reduceReplicate, ren_arcs, renC_leave, vw_arcs, vwc_leave, hlt]
        repeat with_reducible refine cj ?_ ?_
        all_goals try first | (exact hop) | omega | exact ent (by kernel_rfl)
        refine hK9 _ _ _ ?_; clear hK9
        refine AW.seq fun K10 hK10 => ?_
        refine AW.seq fun K11 hK11 => ?_
        -- region 10
        refine AW.regionK 0 (fun _ => none) [1, 2, 3, 11, 13, 49, 50] [46, 1046] ?_
        simp only [go_sem, reduceIte, reduceCtorEq, Nat.reduceAdd, Nat.reduceMul, Nat.reduceEqDiff, Nat.reduceLT, Nat.reduceLeDiff, Nat.reduceSub, Nat.reducePow, Nat.reduceBEq, Int.reduceToNat, List.reduceReplicate, ren_arcs, renC_leave, vw_arcs, vwc_leave, hlt]
        repeat with_reducible refine cj ?_ ?_
        all_goals try first | omega
        refine hK11 _ _ _ ?_; clear hK11
        refine AW.block ?_
        -- loop 1
        refine AW.loopE (fun mm ee ss kk => ∃ (j g w g1 w1 : Nat), n.E.length - j = mm ∧ ee = [(1, .int .i64 s), (2, .int .i64 t), (3, .rsl 1 (ints fl)), (11, .int .i64 (v : Nat)), (13, .ptr ⟨46, g, none⟩ 0 0), (49, .int .i64 n.E.length), (50, .int .i64 (j : Nat))] ∧ ss = [(46, some ⟨g, w, 2, [[.osl 2 ((setCaps (openP n).1 fl j).map arcV), .sl ⟨1046, g1, none⟩ 0 n.N.toNat none]]⟩), (1046, some ⟨g1, w1, 1, leaveV (openP n).2⟩)] ∧ (j ≤ n.E.length)) ?_ ?_
        · refine ⟨_, 0, ?_, ?_, ?_, ?_, rfl, ?henv, ?hstore, ?hst⟩
          case henv =>
            repeat' (first | rfl | refine env_cons ?_ ?_ | refine st_cons ?_ ?_ ?_ ?_ | refine int_eq ?_ | refine bool_eq ?_ | refine rsl_eq ?_ | refine osl_eq ?_ | refine sl_eq ?_ ?_ ?_ | refine ptr_eq ?_ ?_ ?_ | refine agg_eq ?_ | refine es_cons ?_ ?_ | refine row_cons ?_ ?_)
            all_goals (first | (simp; done) | omega | (simp; omega))
          case hstore =>
            repeat' (first | rfl | refine env_cons ?_ ?_ | refine st_cons ?_ ?_ ?_ ?_ | refine int_eq ?_ | refine bool_eq ?_ | refine rsl_eq ?_ | refine osl_eq ?_ | refine sl_eq ?_ ?_ ?_ | refine ptr_eq ?_ ?_ ?_ | refine agg_eq ?_ | refine es_cons ?_ ?_ | refine row_cons ?_ ?_)
            all_goals (first | (simp; done) | omega | (simp; omega))
          case hst =>
            first | trivial | omega | (simp; done) | (simp; omega)
        rintro mm ee ss kk ⟨j, g, w, g1, w1, rfl, rfl, rfl, hI⟩
        generalize hQl1 : thenQ _ _ = Ql1
        refine AW.seq fun K12 hK12 => ?_
        -- region 11
        refine AW.regionK 0 (fun _ => none) [1, 2, 3, 11, 13, 49, 50, 51] [46, 1046] ?_
        simp only [go_sem, reduceIte, reduceCtorEq, Nat.reduceAdd, Nat.reduceMul, Nat.reduceEqDiff, Nat.reduceLT, Nat.reduceLeDiff, Nat.reduceSub, Nat.reducePow, Nat.reduceBEq, Int.reduceToNat, List.reduceReplicate, ren_arcs, renC_leave, vw_arcs, vwc_leave, hlt]
        repeat with_reducible refine cj ?_ ?_
        all_goals try first | omega
        refine hK12 _ _ _ ?_; clear hK12
        refine AW.seq fun K13 hK13 => ?_
        -- cond 4
        refine AW.cond rfl (by simp only [go_sem, reduceIte, reduceCtorEq, Nat.reduceAdd, Nat.reduceMul, Nat.reduceEqDiff, Nat.reduceLT, Nat.reduceLeDiff, Nat.reduceSub, Nat.reducePow, Nat.reduceBEq, Int.reduceToNat, List.reduceReplicate]) ?_ ?_
        · intro hb
          try simp only [hB, decide_eq_true_eq, decide_eq_false_iff_not] at hb
          have hgf := ints_getD (l := fl) (i := j) (by omega)
          have hlj := hsl j
          have hol1 := hol.len
          have hga := arcs_get (l := setCaps (openP n).1 fl j) (i := (2 * (j : Int)).toNat) (by omega)
          have hsc : setCaps (openP n).1 fl (j + 1) = (setCaps (openP n).1 fl j).set (2 * (j : Int)).toNat (((setCaps (openP n).1 fl j).getD (2 * (j : Int)).toNat (0, 0)).1, fl.getD j 0) := rfl
          refine AW.skip ?_
          refine hK13 _ _ _ ?_; clear hK13
          refine AW.seq fun K14 hK14 => ?_
          refine AW.block ?_
          refine AW.seq fun K15 hK15 => ?_
          -- region 12
          refine AW.regionK 0 (fun _ => none) [1, 2, 3, 11, 13, 14, 49, 50] [46, 1046] ?_
          simp only [go_sem, reduceIte, reduceCtorEq, Nat.reduceAdd, Nat.reduceMul, Nat.reduceEqDiff, Nat.reduceLT, Nat.reduceLeDiff, Nat.reduceSub, Nat.reducePow, Nat.reduceBEq, Int.reduceToNat, List.reduceReplicate, ren_arcs, renC_leave, vw_arcs, vwc_leave, hlt]
          repeat with_reducible refine cj ?_ ?_
          all_goals try first | omega
          refine hK15 _ _ _ ?_; clear hK15
          -- region 13
          refine AW.regionD mixed 0 (fun _ => none) [1, 2, 3, 11, 13, 49, 50] [46, 1046] ?_
          simp only [go_sem, reduceIte, reduceCtorEq, Nat.reduceAdd, Nat.reduceMul, Nat.reduceEqDiff, Nat.reduceLT, Nat.reduceLeDiff, Nat.reduceSub, Nat.reducePow, Nat.reduceBEq, Int.reduceToNat, List.reduceReplicate, ren_arcs, renC_leave, vw_arcs, vwc_leave, hlt, hgf, hga, arcs_set]
          repeat with_reducible refine cj ?_ ?_
          all_goals try first | omega | exact chk (by kernel_rfl)
          refine hK14 _ _ _ ?_; clear hK14
          -- region 14
          refine AW.regionK 0 (fun _ => none) [1, 2, 3, 11, 13, 49, 50] [46, 1046] ?_
          simp only [go_sem, reduceIte, reduceCtorEq, Nat.reduceAdd, Nat.reduceMul, Nat.reduceEqDiff, Nat.reduceLT, Nat.reduceLeDiff, Nat.reduceSub, Nat.reducePow, Nat.reduceBEq, Int.reduceToNat, List.reduceReplicate, ren_arcs, renC_leave, vw_arcs, vwc_leave, hlt]
          repeat with_reducible refine cj ?_ ?_
          all_goals try first | omega
          rw [← hQl1]
          change Exists _
          refine ⟨_, ?hm, j + 1, ?_, ?_, ?_, ?_, rfl, ?henv, ?hstore, ?hst⟩
          case henv =>
            repeat' (first | rfl | refine env_cons ?_ ?_ | refine st_cons ?_ ?_ ?_ ?_ | refine int_eq ?_ | refine bool_eq ?_ | refine rsl_eq ?_ | refine osl_eq ?_ | refine sl_eq ?_ ?_ ?_ | refine ptr_eq ?_ ?_ ?_ | refine agg_eq ?_ | refine es_cons ?_ ?_ | refine row_cons ?_ ?_)
            all_goals (first | (simp; done) | omega | (simp; omega))
          case hstore =>
            repeat' (first | rfl | refine env_cons ?_ ?_ | refine st_cons ?_ ?_ ?_ ?_ | refine int_eq ?_ | refine bool_eq ?_ | refine rsl_eq ?_ | refine osl_eq ?_ | refine sl_eq ?_ ?_ ?_ | refine ptr_eq ?_ ?_ ?_ | refine agg_eq ?_ | refine es_cons ?_ ?_ | refine row_cons ?_ ?_)
            all_goals (rw [hsc])
          case hst =>
            first | trivial | omega | (simp; done) | (simp; omega)
          case hm => omega
        · intro hb
          try simp only [hB, decide_eq_true_eq, decide_eq_false_iff_not] at hb
          have hj : j = n.E.length := by omega
          subst hj
          refine AW.exit ?_
          rw [← hQl1]
          refine hK10 _ _ _ ?_; clear hK10
          refine AW.seq fun K16 hK16 => ?_
          -- region 15
          refine AW.regionK 0 (fun _ => none) [1, 2, 11, 13, 15] [46, 1046] ?_
          simp only [go_sem, reduceIte, reduceCtorEq, Nat.reduceAdd, Nat.reduceMul, Nat.reduceEqDiff, Nat.reduceLT, Nat.reduceLeDiff, Nat.reduceSub, Nat.reducePow, Nat.reduceBEq, Int.reduceToNat, List.reduceReplicate, ren_arcs, renC_leave, vw_arcs, vwc_leave, hlt]
          repeat with_reducible refine cj ?_ ?_
          all_goals try first | omega
          refine hK16 _ _ _ ?_; clear hK16
          refine AW.seq fun K17 hK17 => ?_
          refine AW.seq fun K18 hK18 => ?_
          -- region 16
          refine AW.regionK 0 (fun _ => none) [1, 2, 13, 15, 66, 67] [46, 1046] ?_
          simp only [go_sem, reduceIte, reduceCtorEq, Nat.reduceAdd, Nat.reduceMul, Nat.reduceEqDiff, Nat.reduceLT, Nat.reduceLeDiff, Nat.reduceSub, Nat.reducePow, Nat.reduceBEq, Int.reduceToNat, List.reduceReplicate, ren_arcs, renC_leave, vw_arcs, vwc_leave, hlt]
          repeat with_reducible refine cj ?_ ?_
          all_goals try first | omega
          refine hK18 _ _ _ ?_; clear hK18
          refine AW.block ?_
          refine AW.nilOwn 15 200 1 (by simp only [go_sem, reduceIte, Nat.reduceEqDiff]) ?_
          refine AW.keep [1, 2, 13, 15, 66, 67] [46, 200, 1046] ?_
          simp only [go_sem, reduceIte, Nat.reduceEqDiff]
          -- loop 2
          refine AW.loopE (fun mm ee ss kk => ∃ (i g w g1 w1 g2 w2 : Nat) (A : List Arc), v - i = mm ∧ ee = [(1, .int .i64 s), (2, .int .i64 t), (13, .ptr ⟨46, g, none⟩ 0 0), (15, .sl ⟨200, g2, none⟩ 0 i none), (66, .int .i64 (v : Nat)), (67, .int .i64 (i : Nat))] ∧ ss = [(46, some ⟨g, w, 2, [[.osl 2 (A.map arcV), .sl ⟨1046, g1, none⟩ 0 n.N.toNat none]]⟩), (200, some ⟨g2, w2, 1, lists (ps.take i)⟩), (1046, some ⟨g1, w1, 1, leaveV (openP n).2⟩)] ∧ (i ≤ v ∧ PInv n s t A (v - i) ∧ pathsP (openP n).2 s t (v - i) A = some (ps.drop i))) ?_ ?_
          · refine ⟨_, 0, ?_, ?_, ?_, ?_, ?_, ?_, setCaps (openP n).1 fl n.E.length, rfl, ?henv, ?hstore, ?hst⟩
            case henv =>
              repeat' (first | rfl | refine env_cons ?_ ?_ | refine st_cons ?_ ?_ ?_ ?_ | refine int_eq ?_ | refine bool_eq ?_ | refine rsl_eq ?_ | refine osl_eq ?_ | refine sl_eq ?_ ?_ ?_ | refine ptr_eq ?_ ?_ ?_ | refine agg_eq ?_ | refine es_cons ?_ ?_ | refine row_cons ?_ ?_)
              all_goals (first | (simp; done) | omega | (simp; omega))
            case hstore =>
              repeat' (first | rfl | refine env_cons ?_ ?_ | refine st_cons ?_ ?_ ?_ ?_ | refine int_eq ?_ | refine bool_eq ?_ | refine rsl_eq ?_ | refine osl_eq ?_ | refine sl_eq ?_ ?_ ?_ | refine ptr_eq ?_ ?_ ?_ | refine agg_eq ?_ | refine es_cons ?_ ?_ | refine row_cons ?_ ?_)
              all_goals (first | (simp; done) | omega | (simp; omega))
            case hst =>
              exact ⟨Nat.zero_le _, hpi0, hps⟩
          rintro mm ee ss kk ⟨i, g, w, g1, w1, g2, w2, A, rfl, rfl, rfl, hI⟩
          generalize hQl2 : thenQ _ _ = Ql2
          obtain ⟨hi, hpi, hpp⟩ := hI
          refine AW.seq fun K19 hK19 => ?_
          -- region 17
          refine AW.regionK 0 (fun _ => none) [1, 2, 13, 15, 66, 67, 68] [46, 200, 1046] ?_
          simp only [go_sem, reduceIte, reduceCtorEq, Nat.reduceAdd, Nat.reduceMul, Nat.reduceEqDiff, Nat.reduceLT, Nat.reduceLeDiff, Nat.reduceSub, Nat.reducePow, Nat.reduceBEq, Int.reduceToNat, List.reduceReplicate, ren_arcs, renC_leave, vw_arcs, vwc_leave, hlt]
          repeat with_reducible refine cj ?_ ?_
          all_goals try first | omega
          refine hK19 _ _ _ ?_; clear hK19
          refine AW.seq fun K20 hK20 => ?_
          -- cond 5
          refine AW.cond rfl (by simp only [go_sem, reduceIte, reduceCtorEq, Nat.reduceAdd, Nat.reduceMul, Nat.reduceEqDiff, Nat.reduceLT, Nat.reduceLeDiff, Nat.reduceSub, Nat.reducePow, Nat.reduceBEq, Int.reduceToNat, List.reduceReplicate]) ?_ ?_
          · intro hb
            try simp only [hB, decide_eq_true_eq, decide_eq_false_iff_not] at hb
            obtain ⟨m, hm⟩ : ∃ m, v - i = m + 1 := ⟨v - i - 1, by omega⟩
            rw [hm] at hpi hpp
            obtain ⟨hw, hev, hBd, hwb, hstep⟩ := pinv_ok hv hst hpi
            unfold pathsP at hpp
            rw [hol.ll] at hpp
            cases hpr : reachP A (openP n).2 s with
            | none => rw [hpr] at hpp; cases hpp
            | some pr =>
            rw [hpr] at hpp
            simp only at hpp
            cases hpa : path A pr (n.N.toNat + 1) t with
            | none => rw [hpa] at hpp; cases hpp
            | some ks =>
            rw [hpa] at hpp
            simp only at hpp
            cases hpr2 : pathsP (openP n).2 s t m (decA A ks) with
            | none => rw [hpr2] at hpp; cases hpp
            | some rest2 =>
            rw [hpr2] at hpp
            have hdr : nodes A [t] ks :: rest2 = ps.drop i := Option.some.inj hpp
            have hpi2 := hstep m pr ks rfl hpr hpa
            have hwb := hwb pr hpr
            have hprl := hwb.len
            have hrr := reach_r A (openP n).2 n.N.toNat s hw (by omega) (by omega) pr hpr
            have hbk : ∀ i, i < n.N.toNat → pr.getD i 0 < A.length := fun i hi => hwb.rng _ (mem_getD (by omega) 0)
            have hpgi : ps[i]? = some (nodes A [t] ks) := by have := congrArg List.head? hdr; simpa using this.symm
            have hpdi : ps.drop (i + 1) = rest2 := by have := congrArg List.tail hdr; simpa using this.symm
            have hkl := path_len hpa
            have hbig := hw.big
            have htk : ps.take (i + 1) = ps.take i ++ [nodes A [t] ks] := by obtain ⟨h1, h2⟩ := List.getElem?_eq_some_iff.1 hpgi; rw [List.take_succ_eq_append_getElem h1, h2]
            have hti : (ps.take i).length = i := by simp; omega
            have htt : (lists (ps.take i)).take i = lists (ps.take i) := List.take_of_length_le (by rw [lists_len]; omega)
            refine AW.skip ?_
            refine hK20 _ _ _ ?_; clear hK20
            refine AW.seq fun K21 hK21 => ?_
            refine AW.block ?_
            refine AW.seq fun K22 hK22 => ?_
            -- region 18
            refine AW.regionK 0 (fun ii => if ii = 2 then some (.reads true (.rsl 1 (ints pr))) else none) [1, 2, 13, 15, 16, 66, 67] [46, 200, 1046] ?_
            simp only [go_sem, reduceIte, reduceCtorEq, Nat.reduceAdd, Nat.reduceMul, Nat.reduceEqDiff, Nat.reduceLT, Nat.reduceLeDiff, Nat.reduceSub, Nat.reducePow, Nat.reduceBEq, Int.reduceToNat, List.reduceReplicate, ren_arcs, renC_leave, vw_arcs, vwc_leave, hlt]
            repeat with_reducible refine cj ?_ ?_
            all_goals try first | (exact hrr) | omega | exact ent (by kernel_rfl)
            refine hK22 _ _ _ ?_; clear hK22
            refine AW.seq fun K23 hK23 => ?_
            -- region 19
            refine AW.regionG 0 (fun _ => none) (fun ii => if ii = 2 then some ([73], [73]) else none) [1, 2, 13, 15, 16, 17, 66, 67] [46, 200, 1046] ?_
            simp only [go_sem, reduceIte, reduceCtorEq, Nat.reduceAdd, Nat.reduceMul, Nat.reduceEqDiff, Nat.reduceLT, Nat.reduceLeDiff, Nat.reduceSub, Nat.reducePow, Nat.reduceBEq, Int.reduceToNat, List.reduceReplicate, ren_arcs, renC_leave, vw_arcs, vwc_leave, hlt, one_ints]
            repeat with_reducible refine cj ?_ ?_
            all_goals try first | omega
            refine hK23 _ _ _ ?_; clear hK23
            refine AW.seq fun K24 hK24 => ?_
            refine AW.seq fun K25 hK25 => ?_
            -- region 20
            refine AW.regionK 0 (fun _ => none) [1, 2, 13, 15, 16, 17, 18, 66, 67] [46, 200, 1046] ?_
            simp only [go_sem, reduceIte, reduceCtorEq, Nat.reduceAdd, Nat.reduceMul, Nat.reduceEqDiff, Nat.reduceLT, Nat.reduceLeDiff, Nat.reduceSub, Nat.reducePow, Nat.reduceBEq, Int.reduceToNat, List.reduceReplicate, ren_arcs, renC_leave, vw_arcs, vwc_leave, hlt]
            repeat with_reducible refine cj ?_ ?_
            all_goals try first | omega
            refine hK25 _ _ _ ?_; clear hK25
            refine AW.block ?_
            -- loop 3
            refine AW.loopE (fun mm ee ss kk => ∃ (f g w g1 w1 g2 w2 : Nat) (u : Int) (pre rest : List Int), f + 1 = mm ∧ ee = [(1, .int .i64 s), (2, .int .i64 t), (13, .ptr ⟨46, g, none⟩ 0 0), (15, .sl ⟨200, g2, none⟩ 0 i none), (16, .rsl 1 (ints pr)), (17, .rsl 1 (ints (nodes A [t] pre))), (18, .int .i64 u), (66, .int .i64 (v : Nat)), (67, .int .i64 (i : Nat))] ∧ ss = [(46, some ⟨g, w, 2, [[.osl 2 ((decA A pre).map arcV), .sl ⟨1046, g1, none⟩ 0 n.N.toNat none]]⟩), (200, some ⟨g2, w2, 1, lists (ps.take i)⟩), (1046, some ⟨g1, w1, 1, leaveV (openP n).2⟩)] ∧ (0 ≤ u ∧ u < n.N ∧ path A pr f u = some rest ∧ ks = pre ++ rest ∧ Bnd (decA A pre) (1125899906842624 + pre.length))) ?_ ?_
            · refine ⟨_, n.N.toNat + 1, ?_, ?_, ?_, ?_, ?_, ?_, t, [], ks, rfl, ?henv, ?hstore, ?hst⟩
              case henv =>
                repeat' (first | rfl | refine env_cons ?_ ?_ | refine st_cons ?_ ?_ ?_ ?_ | refine int_eq ?_ | refine bool_eq ?_ | refine rsl_eq ?_ | refine osl_eq ?_ | refine sl_eq ?_ ?_ ?_ | refine ptr_eq ?_ ?_ ?_ | refine agg_eq ?_ | refine es_cons ?_ ?_ | refine row_cons ?_ ?_)
                all_goals (first | (simp; done) | omega | (simp; omega))
              case hstore =>
                repeat' (first | rfl | refine env_cons ?_ ?_ | refine st_cons ?_ ?_ ?_ ?_ | refine int_eq ?_ | refine bool_eq ?_ | refine rsl_eq ?_ | refine osl_eq ?_ | refine sl_eq ?_ ?_ ?_ | refine ptr_eq ?_ ?_ ?_ | refine agg_eq ?_ | refine es_cons ?_ ?_ | refine row_cons ?_ ?_)
                all_goals (first | (simp; done) | omega | (simp; omega))
              case hst =>
                exact ⟨by omega, by omega, hpa, rfl, by simpa [decA] using hBd⟩
            rintro mm ee ss kk ⟨f, g, w, g1, w1, g2, w2, u, pre, rest, rfl, rfl, rfl, hI⟩
            generalize hQl3 : thenQ _ _ = Ql3
            obtain ⟨hu0, hu1, hpu, hks, hBp⟩ := hI
            have hgu := ints_getD (l := pr) (i := u.toNat) (by omega)
            have hku := hbk u.toNat (by omega)
            generalize hkk : pr.getD u.toNat 0 = kk at *
            have hdl := decA_len A pre
            have hkl2 : pre.length ≤ 512 := by have := congrArg List.length hks; simp at this; omega
            have hdt := decA_to A pre
            have hds := decA_snoc A pre
            have hnl := nodes_len A pre [t]
            have hns := nodes_snoc A [t] pre
            have hnl2 : (nodes A [t] pre).length ≤ 513 := by rw [hnl]; simp; omega
            generalize hB : decA A pre = B at *
            generalize hP : nodes A [t] pre = P at *
            refine AW.seq fun K26 hK26 => ?_
            refine AW.seq fun K27 hK27 => ?_
            -- region 21
            refine AW.regionK 0 (fun _ => none) [1, 2, 13, 15, 16, 17, 18, 66, 67, 79] [46, 200, 1046] ?_
            simp only [go_sem, reduceIte, reduceCtorEq, Nat.reduceAdd, Nat.reduceMul, Nat.reduceEqDiff, Nat.reduceLT, Nat.reduceLeDiff, Nat.reduceSub, Nat.reducePow, Nat.reduceBEq, Int.reduceToNat, List.reduceReplicate, ren_arcs, renC_leave, vw_arcs, vwc_leave, hlt, hgu]
            repeat with_reducible refine cj ?_ ?_
            all_goals try first | omega
            refine hK27 _ _ _ ?_; clear hK27
            -- cond 6
            refine AW.cond rfl (by simp only [go_sem, reduceIte, reduceCtorEq, Nat.reduceAdd, Nat.reduceMul, Nat.reduceEqDiff, Nat.reduceLT, Nat.reduceLeDiff, Nat.reduceSub, Nat.reducePow, Nat.reduceBEq, Int.reduceToNat, List.reduceReplicate]) ?_ ?_
            · intro hb
              try simp only [hB, decide_eq_true_eq, decide_eq_false_iff_not] at hb
              obtain ⟨f', l, rfl, rfl, hpl2⟩ := path_step hpu (by omega)
              rw [hkk] at hpl2 hks
              have hx := xor1_eq kk (by omega) (by omega)
              have hxr := x1_rng (k := kk) (n := A.length) (by omega) (by omega) hev
              have hxn := x1_ne kk
              have hga := arcs_get (l := B) (i := kk.toNat) (by omega)
              have hb1 := hBp kk
              have hat := hw.get (k := x1 kk) (by omega) (by omega)
              have hB2 := dec1_bnd hBp (k := kk) (by omega)
              have hd1 := dec1_len B kk
              have hd2 := dec1_to B kk (x1 kk)
              rw [hdt] at hd2
              have hde : dec1 B kk = B.set kk.toNat ((B.getD kk.toNat (0, 0)).1, (B.getD kk.toNat (0, 0)).2 - 1) := rfl
              have hgx := arcs_get (l := dec1 B kk) (i := (x1 kk).toNat) (by omega)
              simp only [aTo] at hd2
              simp only [aLeft] at hb1
              rw [hd2] at hgx
              refine AW.skip ?_
              refine hK26 _ _ _ ?_; clear hK26
              refine AW.block ?_
              refine AW.seq fun K28 hK28 => ?_
              -- region 22
              refine AW.regionK 0 (fun _ => none) [1, 2, 13, 15, 16, 17, 19, 66, 67] [46, 200, 1046] ?_
              simp only [go_sem, reduceIte, reduceCtorEq, Nat.reduceAdd, Nat.reduceMul, Nat.reduceEqDiff, Nat.reduceLT, Nat.reduceLeDiff, Nat.reduceSub, Nat.reducePow, Nat.reduceBEq, Int.reduceToNat, List.reduceReplicate, ren_arcs, renC_leave, vw_arcs, vwc_leave, hlt, hgu]
              repeat with_reducible refine cj ?_ ?_
              all_goals try first | omega
              refine hK28 _ _ _ ?_; clear hK28
              refine AW.seq fun K29 hK29 => ?_
              -- region 23
              refine AW.regionK 0 (fun _ => none) [1, 2, 13, 15, 16, 17, 19, 66, 67] [46, 200, 1046] ?_
              simp only [go_sem, reduceIte, reduceCtorEq, Nat.reduceAdd, Nat.reduceMul, Nat.reduceEqDiff, Nat.reduceLT, Nat.reduceLeDiff, Nat.reduceSub, Nat.reducePow, Nat.reduceBEq, Int.reduceToNat, List.reduceReplicate, ren_arcs, renC_leave, vw_arcs, vwc_leave, hlt, hga, arcs_set]
              repeat with_reducible refine cj ?_ ?_
              all_goals try first | omega
              refine hK29 _ _ _ ?_; clear hK29
              refine AW.seq fun K30 hK30 => ?_
              rw [← hde]
              -- region 24
              refine AW.regionK 0 (fun _ => none) [1, 2, 13, 15, 16, 17, 18, 66, 67] [46, 200, 1046] ?_
              simp only [go_sem, reduceIte, reduceCtorEq, Nat.reduceAdd, Nat.reduceMul, Nat.reduceEqDiff, Nat.reduceLT, Nat.reduceLeDiff, Nat.reduceSub, Nat.reducePow, Nat.reduceBEq, Int.reduceToNat, List.reduceReplicate, ren_arcs, renC_leave, vw_arcs, vwc_leave, hlt, hx, hgx]
              repeat with_reducible refine cj ?_ ?_
              all_goals try first | omega
              refine hK30 _ _ _ ?_; clear hK30
              -- region 25
              refine AW.regionG 0 (fun _ => none) (fun ii => if ii = 4 then some ([105], [107]) else none) [1, 2, 13, 15, 16, 17, 18, 66, 67] [46, 200, 1046] ?_
              simp only [go_sem, reduceIte, reduceCtorEq, Nat.reduceAdd, Nat.reduceMul, Nat.reduceEqDiff, Nat.reduceLT, Nat.reduceLeDiff, Nat.reduceSub, Nat.reducePow, Nat.reduceBEq, Int.reduceToNat, List.reduceReplicate, ren_arcs, renC_leave, vw_arcs, vwc_leave, hlt, cons_app_one]
              repeat with_reducible refine cj ?_ ?_
              all_goals try first | (exact scP_ints _) | omega | (simp [scP, scalar]; done)
              rw [← hQl3]
              change Exists _
              refine ⟨_, ?hm, f', ?_, ?_, ?_, ?_, ?_, ?_, aTo A (x1 kk), pre ++ [kk], l, rfl, ?henv, ?hstore, ?hst⟩
              case henv =>
                repeat' (first | rfl | refine env_cons ?_ ?_ | refine st_cons ?_ ?_ ?_ ?_ | refine int_eq ?_ | refine bool_eq ?_ | refine rsl_eq ?_ | refine osl_eq ?_ | refine sl_eq ?_ ?_ ?_ | refine ptr_eq ?_ ?_ ?_ | refine agg_eq ?_ | refine es_cons ?_ ?_ | refine row_cons ?_ ?_)
                all_goals (rw [hns]; try rw [List.take_of_length_le (by simp; omega)])
              case hstore =>
                repeat' (first | rfl | refine env_cons ?_ ?_ | refine st_cons ?_ ?_ ?_ ?_ | refine int_eq ?_ | refine bool_eq ?_ | refine rsl_eq ?_ | refine osl_eq ?_ | refine sl_eq ?_ ?_ ?_ | refine ptr_eq ?_ ?_ ?_ | refine agg_eq ?_ | refine es_cons ?_ ?_ | refine row_cons ?_ ?_)
                all_goals (rw [hds])
              case hst =>
                exact ⟨hat.1, by have := hat.2; show (A.getD (x1 kk).toNat (0, 0)).1 < n.N; omega, hpl2, by rw [hks]; simp, by rw [hds]; have e : (1125899906842624 : Int) + ((pre ++ [kk]).length : Nat) = 1125899906842624 + pre.length + 1 := (by first | (simp; done) | (simp; omega)); rw [e]; exact hB2⟩
              case hm => omega
            · intro hb
              try simp only [hB, decide_eq_true_eq, decide_eq_false_iff_not] at hb
              obtain rfl := path_end hpu (by omega)
              obtain rfl : ks = pre := by rw [hks]; simp
              subst hB hP
              refine AW.exit ?_
              rw [← hQl3]
              refine hK24 _ _ _ ?_; clear hK24
              -- region 26
              refine AW.regionK 0 (fun _ => none) [1, 2, 13, 15, 66, 67] [46, 200, 1046] ?_
              simp only [go_sem, reduceIte, reduceCtorEq, Nat.reduceAdd, Nat.reduceMul, Nat.reduceEqDiff, Nat.reduceLT, Nat.reduceLeDiff, Nat.reduceSub, Nat.reducePow, Nat.reduceBEq, Int.reduceToNat, List.reduceReplicate, ren_arcs, renC_leave, vw_arcs, vwc_leave, hlt, lists_app, lists_len, hti, htt]
              repeat with_reducible refine cj ?_ ?_
              all_goals try first | omega | (simp [scP, scalar]; done)
              refine hK21 _ _ _ ?_; clear hK21
              -- region 27
              refine AW.regionK 0 (fun _ => none) [1, 2, 13, 15, 66, 67] [46, 200, 1046] ?_
              simp only [go_sem, reduceIte, reduceCtorEq, Nat.reduceAdd, Nat.reduceMul, Nat.reduceEqDiff, Nat.reduceLT, Nat.reduceLeDiff, Nat.reduceSub, Nat.reducePow, Nat.reduceBEq, Int.reduceToNat, List.reduceReplicate, ren_arcs, renC_leave, vw_arcs, vwc_leave, hlt]
              repeat with_reducible refine cj ?_ ?_
              all_goals try first | omega
              rw [← hQl2]
              change Exists _
              refine ⟨_, ?hm, i + 1, ?_, ?_, ?_, ?_, ?_, ?_, decA A ks, rfl, ?henv, ?hstore, ?hst⟩
              case henv =>
                repeat' (first | rfl | refine env_cons ?_ ?_ | refine st_cons ?_ ?_ ?_ ?_ | refine int_eq ?_ | refine bool_eq ?_ | refine rsl_eq ?_ | refine osl_eq ?_ | refine sl_eq ?_ ?_ ?_ | refine ptr_eq ?_ ?_ ?_ | refine agg_eq ?_ | refine es_cons ?_ ?_ | refine row_cons ?_ ?_)
                all_goals (first | (simp; done) | omega | (simp; omega))
              case hstore =>
                repeat' (first | rfl | refine env_cons ?_ ?_ | refine st_cons ?_ ?_ ?_ ?_ | refine int_eq ?_ | refine bool_eq ?_ | refine rsl_eq ?_ | refine osl_eq ?_ | refine sl_eq ?_ ?_ ?_ | refine ptr_eq ?_ ?_ ?_ | refine agg_eq ?_ | refine es_cons ?_ ?_ | refine row_cons ?_ ?_)
                all_goals (rw [htk])
              case hst =>
                exact ⟨by omega, by rw [show v - (i + 1) = m by omega]; exact hpi2, by rw [show v - (i + 1) = m by omega, hpr2, hpdi]⟩
              case hm => omega
          · intro hb
            try simp only [hB, decide_eq_true_eq, decide_eq_false_iff_not] at hb
            refine AW.exit ?_
            rw [← hQl2]
            refine hK17 _ _ _ ?_; clear hK17
            refine AW.seq fun K31 hK31 => ?_
            -- region 28
            refine AW.regionK 0 (fun _ => none) [8, 9] [200] ?_
            simp only [go_sem, reduceIte, reduceCtorEq, Nat.reduceAdd, Nat.reduceMul, Nat.reduceEqDiff, Nat.reduceLT, Nat.reduceLeDiff, Nat.reduceSub, Nat.reducePow, Nat.reduceBEq, Int.reduceToNat, List.reduceReplicate, ren_arcs, renC_leave, vw_arcs, vwc_leave, hlt]
            repeat with_reducible refine cj ?_ ?_
            all_goals try first | omega
            refine hK31 _ _ _ ?_; clear hK31
            refine AW.ret ?_
            rw [← hQr]
            simp only [go_sem, reduceIte, reduceCtorEq, Nat.reduceAdd, Nat.reduceMul, Nat.reduceEqDiff, Nat.reduceLT, Nat.reduceLeDiff, Nat.reduceSub, Nat.reducePow, Nat.reduceBEq, Int.reduceToNat, List.reduceReplicate, ren_arcs, renC_leave, vw_arcs, vwc_leave, hlt]
            have hiv : i = v := by omega
            subst hiv
            rw [List.take_of_length_le (by omega)]
            refine Wk.of_eq ?_
            rw [List.take_of_length_le (by rw [lists_len]; omega), vwc_lists]
            rfl
end Go.Proofs.F
/- What paths use of a flow. -/
namespace Go.AM
def incK (U : List Int) (k : Nat) (d : Int) : List Int := U.set k (U.getD k 0 + d)
theorem incK_len (U : List Int) (k : Nat) (d : Int) : (incK U k d).length = U.length := by simp [incK]
theorem incK_get (U : List Int) (k : Nat) (d : Int) (q : Nat) : (incK U k d).getD q 0 = U.getD q 0 + if k = q ∧ k < U.length then d else 0 := by
  unfold incK
  by_cases h : k = q
  · subst h
    by_cases h2 : k < U.length
    · rw [Go.AM.getD_set_eq h2, if_pos ⟨rfl, h2⟩]
    · rw [List.set_eq_of_length_le (by omega), if_neg (by omega)]; omega
  · rw [Go.AM.getD_set_ne h, if_neg (by rintro ⟨a, _⟩; exact h a)]; omega
def addKeys (U : List Int) (K : List Nat) : List Int := K.foldl (fun U k => incK U k 1) U
theorem addKeys_len (U : List Int) (K : List Nat) : (addKeys U K).length = U.length := by
  unfold addKeys
  induction K generalizing U with
  | nil => rfl
  | cons k K ih => simp only [List.foldl_cons]; rw [ih, incK_len]
theorem addKeys_app (U : List Int) (K L : List Nat) : addKeys U (K ++ L) = addKeys (addKeys U K) L := by simp [addKeys]
theorem addKeys_get (U : List Int) (K : List Nat) (q : Nat) : (addKeys U K).getD q 0 = U.getD q 0 + if q < U.length then (K.count q : Int) else 0 := by
  unfold addKeys
  induction K generalizing U with
  | nil => simp
  | cons k K ih =>
    simp only [List.foldl_cons]
    rw [ih, incK_get, incK_len, List.count_cons]
    by_cases h : k = q
    · subst h
      by_cases h2 : k < U.length
      · simp [h2]; omega
      · simp [h2]
    · have : (k == q) = false := by simpa using h
      simp [h, this]
theorem addKeys_bnd {U : List Int} {B : Int} (h : ∀ q, 0 ≤ U.getD q 0 ∧ U.getD q 0 ≤ B) (K : List Nat) : ∀ q, 0 ≤ (addKeys U K).getD q 0 ∧ (addKeys U K).getD q 0 ≤ B + K.length := fun q => by
  rw [addKeys_get]
  have := h q
  have hc := List.count_le_length (a := q) (l := K)
  split <;> omega
theorem keysOf_le (N : Int) : ∀ p : List Int, (keysOf N p).length ≤ p.length
  | [] => by simp [keysOf]
  | [a] => by simp [keysOf]
  | a :: b :: l => by
    have := keysOf_le N (b :: l)
    simp only [keysOf, List.length_cons] at this ⊢; omega
theorem keysOf_snoc (N : Int) : ∀ (p : List Int) (a b : Int), keysOf N (p ++ [a] ++ [b]) = keysOf N (p ++ [a]) ++ [(a * N + b).toNat]
  | [], a, b => by simp [keysOf]
  | [c], a, b => by simp [keysOf]
  | c :: d :: p, a, b => by
    have ih := keysOf_snoc N (d :: p) a b
    simp only [List.cons_append] at ih ⊢
    rw [keysOf, keysOf, ih]; rfl
theorem keysOf_take (N : Int) (p : List Int) {i : Nat} (h0 : 0 < i) (h : i < p.length) : keysOf N (p.take (i + 1)) = keysOf N (p.take i) ++ [(p.getD (i - 1) 0 * N + p.getD i 0).toNat] := by
  obtain ⟨j, rfl⟩ : ∃ j, i = j + 1 := ⟨i - 1, by omega⟩
  rw [List.take_succ_eq_append_getElem h, List.take_succ_eq_append_getElem (by omega), keysOf_snoc]
  simp [List.getD_eq_getElem?_getD, show j < p.length by omega, h]
theorem keysOf_one (N : Int) (p : List Int) : keysOf N (p.take 0) = [] ∧ keysOf N (p.take 1) = [] := by
  cases p with
  | nil => simp [keysOf]
  | cons a l => simp [keysOf]
def kAll (N : Int) (ps : List (List Int)) : List Nat := ps.flatMap (keysOf N)
theorem kAll_succ (N : Int) {ps : List (List Int)} {j : Nat} {p : List Int} (h : ps[j]? = some p) : kAll N (ps.take (j + 1)) = kAll N (ps.take j) ++ keysOf N p := by
  obtain ⟨hj, rfl⟩ := List.getElem?_eq_some_iff.1 h
  unfold kAll
  rw [List.take_succ_eq_append_getElem hj, List.flatMap_append]; simp
theorem kAll_count (N : Int) (k : Nat) : ∀ ps : List (List Int), ((kAll N ps).count k : Int) = cntAll N ps k
  | [] => rfl
  | p :: ps => by
    have := kAll_count N k ps
    unfold kAll cntAll at *
    simp only [List.flatMap_cons, List.count_append, List.map_cons, List.sum_cons]
    omega
theorem kAll_le (N : Int) {B : Nat} : ∀ ps : List (List Int), (∀ p ∈ ps, p.length ≤ B) → (kAll N ps).length ≤ B * ps.length
  | [], _ => by simp [kAll]
  | p :: ps, h => by
    have ih := kAll_le N ps fun q hq => h q (by simp [hq])
    have h1 := h p (by simp)
    have h2 := keysOf_le N p
    unfold kAll at *
    simp only [List.flatMap_cons, List.length_append, List.length_cons, Nat.mul_add]
    omega
def subE (n : Net) (fl : List Int) (U : List Int) : Nat → List Int
  | 0 => U
  | j + 1 => incK (subE n fl U j) (keyE n.N (eAt n.E j)) (-(fl.getD j 0))
theorem subE_len (n : Net) (fl U : List Int) : ∀ j, (subE n fl U j).length = U.length
  | 0 => rfl
  | j + 1 => by rw [subE, incK_len, subE_len n fl U j]
theorem subE_get (n : Net) (fl U : List Int) (q : Nat) : ∀ j, (subE n fl U j).getD q 0 = U.getD q 0 - if q < U.length then keySum n fl q j else 0
  | 0 => by simp [subE, keySum]
  | j + 1 => by
    rw [subE, incK_get, subE_get n fl U q j, subE_len, keySum]
    by_cases hq : q < U.length
    · rw [if_pos hq, if_pos hq]
      by_cases hk : keyE n.N (eAt n.E j) = q
      · rw [if_pos ⟨hk, by omega⟩, if_pos hk]; omega
      · rw [if_neg (by rintro ⟨a, _⟩; exact hk a), if_neg hk]; omega
    · rw [if_neg hq, if_neg hq, if_neg (by rintro ⟨a, b⟩; omega)]; omega
theorem subE_bnd (n : Net) {fl U : List Int} {B : Int} (hB : 0 ≤ B) (hU : ∀ q, 0 ≤ U.getD q 0 ∧ U.getD q 0 ≤ B) (hf : ∀ i, 0 ≤ fl.getD i 0 ∧ fl.getD i 0 ≤ 1125899906842624) : ∀ (j q : Nat), -(1125899906842624 * (j : Int)) ≤ (subE n fl U j).getD q 0 ∧ (subE n fl U j).getD q 0 ≤ B
  | 0, q => by have := hU q; simpa [subE] using this
  | j + 1, q => by
    have ih := subE_bnd n hB hU hf j q
    have := hf j
    rw [subE, incK_get]
    split <;> omega
theorem key_lt {N a b : Int} (ha : 0 ≤ a) (ha1 : a < N) (hb : 0 ≤ b) (hb1 : b < N) : 0 ≤ a * N + b ∧ a * N + b < N * N := by
  have h1 : a * N ≤ (N - 1) * N := Int.mul_le_mul_of_nonneg_right (by omega) (by omega)
  have h2 : 0 ≤ a * N := Int.mul_nonneg ha (by omega)
  rw [Int.sub_mul, Int.one_mul] at h1
  omega
theorem used_neg {n : Net} {fl : List Int} {ps : List (List Int)} (M : Nat) (h : ∀ k, cntAll n.N ps k ≤ keySum n fl k n.E.length) (q : Nat) : (subE n fl (addKeys (List.replicate M 0) (kAll n.N ps)) n.E.length).getD q 0 ≤ 0 := by
  rw [subE_get, addKeys_len, addKeys_get, kAll_count]
  have h0 : (List.replicate M (0 : Int)).getD q 0 = 0 := by rw [List.getD_eq_getElem?_getD, List.getElem?_replicate]; split <;> rfl
  have := h q
  rw [h0]
  split <;> omega
end Go.AM
namespace Go.Proofs.F
open Go.AM Go
set_option maxRecDepth 100000
set_option maxHeartbeats 2000000
theorem index_r (l : List Int) (x : Int) (hl : l.length ≤ 9223372036854775807) : Reads Try.prog 54 false [.rsl 1 (ints l), .int .i64 x] (.int .i64 (ixf (fun y => decide (x = y)) l)) := by
  refine Reads.body (rs := [.tmp 4]) Try.func54 rfl Try.ntmps54 rfl (by simp) ?_
  generalize hQr : retQ _ _ _ = Qr
  refine AW.seq fun K1 hK1 => ?_
  -- region 0
  refine AW.regionK 0 (fun _ => none) [0, 1] [] ?_
  simp only [go_sem, reduceIte, reduceCtorEq, Nat.reduceAdd, Nat.reduceMul, Nat.reduceEqDiff, Nat.reduceLT, Nat.reduceLeDiff, Nat.reduceSub, Nat.reducePow, Nat.reduceBEq, Int.reduceToNat, List.reduceReplicate]
  repeat with_reducible refine cj ?_ ?_
  all_goals try first | omega
  refine hK1 _ _ _ ?_; clear hK1
  refine AW.seq fun K2 hK2 => ?_
  refine AW.seq fun K3 hK3 => ?_
  -- region 1
  refine AW.regionK 0 (fun _ => none) [0, 1, 7, 8] [] ?_
  simp only [go_sem, reduceIte, reduceCtorEq, Nat.reduceAdd, Nat.reduceMul, Nat.reduceEqDiff, Nat.reduceLT, Nat.reduceLeDiff, Nat.reduceSub, Nat.reducePow, Nat.reduceBEq, Int.reduceToNat, List.reduceReplicate]
  repeat with_reducible refine cj ?_ ?_
  all_goals try first | omega
  refine hK3 _ _ _ ?_; clear hK3
  refine AW.block ?_
  -- loop 1
  refine AW.loopE (fun mm ee ss kk => ∃ (j : Nat), l.length - j = mm ∧ ee = [(0, .rsl 1 (ints l)), (1, .int .i64 x), (7, .int .i64 l.length), (8, .int .i64 (j : Nat))] ∧ ss = [] ∧ (j ≤ l.length ∧ (l.take j).any (fun y => decide (x = y)) = false)) ?_ ?_
  · refine ⟨_, 0, rfl, ?henv, ?hstore, ?hst⟩
    case henv =>
      repeat' (first | rfl | refine env_cons ?_ ?_ | refine st_cons ?_ ?_ ?_ ?_ | refine int_eq ?_ | refine bool_eq ?_ | refine rsl_eq ?_ | refine osl_eq ?_ | refine sl_eq ?_ ?_ ?_ | refine ptr_eq ?_ ?_ ?_ | refine agg_eq ?_ | refine es_cons ?_ ?_ | refine row_cons ?_ ?_)
      all_goals (first | (simp; done) | omega | (simp; omega))
    case hstore =>
      repeat' (first | rfl | refine env_cons ?_ ?_ | refine st_cons ?_ ?_ ?_ ?_ | refine int_eq ?_ | refine bool_eq ?_ | refine rsl_eq ?_ | refine osl_eq ?_ | refine sl_eq ?_ ?_ ?_ | refine ptr_eq ?_ ?_ ?_ | refine agg_eq ?_ | refine es_cons ?_ ?_ | refine row_cons ?_ ?_)
      all_goals (first | (simp; done) | omega | (simp; omega))
    case hst =>
      first | trivial | omega | (simp; done) | (simp; omega)
  rintro mm ee ss kk ⟨j, rfl, rfl, rfl, hI⟩
  generalize hQl1 : thenQ _ _ = Ql1
  obtain ⟨hj, hall⟩ := hI
  refine AW.seq fun K4 hK4 => ?_
  -- region 2
  refine AW.regionK 0 (fun _ => none) [0, 1, 7, 8, 9] [] ?_
  simp only [go_sem, reduceIte, reduceCtorEq, Nat.reduceAdd, Nat.reduceMul, Nat.reduceEqDiff, Nat.reduceLT, Nat.reduceLeDiff, Nat.reduceSub, Nat.reducePow, Nat.reduceBEq, Int.reduceToNat, List.reduceReplicate]
  repeat with_reducible refine cj ?_ ?_
  all_goals try first | omega
  refine hK4 _ _ _ ?_; clear hK4
  refine AW.seq fun K5 hK5 => ?_
  -- cond 1
  refine AW.cond rfl (by simp only [go_sem, reduceIte, reduceCtorEq, Nat.reduceAdd, Nat.reduceMul, Nat.reduceEqDiff, Nat.reduceLT, Nat.reduceLeDiff, Nat.reduceSub, Nat.reducePow, Nat.reduceBEq, Int.reduceToNat, List.reduceReplicate]) ?_ ?_
  · intro hb
    try simp only [hB, decide_eq_true_eq, decide_eq_false_iff_not] at hb
    obtain ⟨y, hy⟩ := getI (l := l) (j := j) (by omega)
    have hgy := ints_get hy
    have hats := any_take_succ (p := fun y => decide (x = y)) hy
    refine AW.skip ?_
    refine hK5 _ _ _ ?_; clear hK5
    refine AW.seq fun K6 hK6 => ?_
    refine AW.block ?_
    refine AW.seq fun K7 hK7 => ?_
    -- region 3
    refine AW.regionK 0 (fun _ => none) [0, 1, 5, 7, 8] [] ?_
    simp only [go_sem, reduceIte, reduceCtorEq, Nat.reduceAdd, Nat.reduceMul, Nat.reduceEqDiff, Nat.reduceLT, Nat.reduceLeDiff, Nat.reduceSub, Nat.reducePow, Nat.reduceBEq, Int.reduceToNat, List.reduceReplicate]
    repeat with_reducible refine cj ?_ ?_
    all_goals try first | omega
    refine hK7 _ _ _ ?_; clear hK7
    refine AW.seq fun K8 hK8 => ?_
    -- region 4
    refine AW.regionK 0 (fun _ => none) [0, 1, 5, 7, 8, 16] [] ?_
    simp only [go_sem, reduceIte, reduceCtorEq, Nat.reduceAdd, Nat.reduceMul, Nat.reduceEqDiff, Nat.reduceLT, Nat.reduceLeDiff, Nat.reduceSub, Nat.reducePow, Nat.reduceBEq, Int.reduceToNat, List.reduceReplicate, hgy]
    repeat with_reducible refine cj ?_ ?_
    all_goals try first | omega
    refine hK8 _ _ _ ?_; clear hK8
    -- cond 2
    refine AW.cond rfl (by simp only [go_sem, reduceIte, reduceCtorEq, Nat.reduceAdd, Nat.reduceMul, Nat.reduceEqDiff, Nat.reduceLT, Nat.reduceLeDiff, Nat.reduceSub, Nat.reducePow, Nat.reduceBEq, Int.reduceToNat, List.reduceReplicate]) ?_ ?_
    · intro hb
      try simp only [hB, decide_eq_true_eq, decide_eq_false_iff_not] at hb
      refine AW.seq fun K9 hK9 => ?_
      -- region 5
      refine AW.regionK 0 (fun _ => none) [4] [] ?_
      simp only [go_sem, reduceIte, reduceCtorEq, Nat.reduceAdd, Nat.reduceMul, Nat.reduceEqDiff, Nat.reduceLT, Nat.reduceLeDiff, Nat.reduceSub, Nat.reducePow, Nat.reduceBEq, Int.reduceToNat, List.reduceReplicate]
      repeat with_reducible refine cj ?_ ?_
      all_goals try first | omega
      refine hK9 _ _ _ ?_; clear hK9
      refine AW.ret ?_
      rw [← hQl1]
      rw [← hQr]
      simp only [go_sem, reduceIte, reduceCtorEq, Nat.reduceAdd, Nat.reduceMul, Nat.reduceEqDiff, Nat.reduceLT, Nat.reduceLeDiff, Nat.reduceSub, Nat.reducePow, Nat.reduceBEq, Int.reduceToNat, List.reduceReplicate]
      exact Wk.of_eq (by rw [ixf_at hy (decide_eq_true hb) hall])
    · intro hb
      try simp only [hB, decide_eq_true_eq, decide_eq_false_iff_not] at hb
      refine AW.skip ?_
      refine hK6 _ _ _ ?_; clear hK6
      -- region 6
      refine AW.regionK 0 (fun _ => none) [0, 1, 7, 8] [] ?_
      simp only [go_sem, reduceIte, reduceCtorEq, Nat.reduceAdd, Nat.reduceMul, Nat.reduceEqDiff, Nat.reduceLT, Nat.reduceLeDiff, Nat.reduceSub, Nat.reducePow, Nat.reduceBEq, Int.reduceToNat, List.reduceReplicate]
      repeat with_reducible refine cj ?_ ?_
      all_goals try first | omega
      rw [← hQl1]
      change Exists _
      refine ⟨_, ?hm, j + 1, rfl, ?henv, ?hstore, ?hst⟩
      case henv =>
        repeat' (first | rfl | refine env_cons ?_ ?_ | refine st_cons ?_ ?_ ?_ ?_ | refine int_eq ?_ | refine bool_eq ?_ | refine rsl_eq ?_ | refine osl_eq ?_ | refine sl_eq ?_ ?_ ?_ | refine ptr_eq ?_ ?_ ?_ | refine agg_eq ?_ | refine es_cons ?_ ?_ | refine row_cons ?_ ?_)
        all_goals (first | (simp; done) | omega | (simp; omega))
      case hstore =>
        repeat' (first | rfl | refine env_cons ?_ ?_ | refine st_cons ?_ ?_ ?_ ?_ | refine int_eq ?_ | refine bool_eq ?_ | refine rsl_eq ?_ | refine osl_eq ?_ | refine sl_eq ?_ ?_ ?_ | refine ptr_eq ?_ ?_ ?_ | refine agg_eq ?_ | refine es_cons ?_ ?_ | refine row_cons ?_ ?_)
        all_goals (first | (simp; done) | omega | (simp; omega))
      case hst =>
        exact ⟨by omega, by rw [hats, hall, decide_eq_false hb]; rfl⟩
      case hm => omega
  · intro hb
    try simp only [hB, decide_eq_true_eq, decide_eq_false_iff_not] at hb
    refine AW.keep [] [] ?_
    try simp only [go_sem, reduceIte, reduceCtorEq, Nat.reduceAdd, Nat.reduceMul, Nat.reduceEqDiff, Nat.reduceLT, Nat.reduceLeDiff, Nat.reduceSub, Nat.reducePow, Nat.reduceBEq, Int.reduceToNat, List.reduceReplicate]
    refine AW.exit ?_
    rw [← hQl1]
    refine hK2 _ _ _ ?_; clear hK2
    refine AW.seq fun K10 hK10 => ?_
    -- region 7
    refine AW.regionK 0 (fun _ => none) [4] [] ?_
    simp only [go_sem, reduceIte, reduceCtorEq, Nat.reduceAdd, Nat.reduceMul, Nat.reduceEqDiff, Nat.reduceLT, Nat.reduceLeDiff, Nat.reduceSub, Nat.reducePow, Nat.reduceBEq, Int.reduceToNat, List.reduceReplicate]
    repeat with_reducible refine cj ?_ ?_
    all_goals try first | omega
    refine hK10 _ _ _ ?_; clear hK10
    refine AW.ret ?_
    rw [← hQr]
    simp only [go_sem, reduceIte, reduceCtorEq, Nat.reduceAdd, Nat.reduceMul, Nat.reduceEqDiff, Nat.reduceLT, Nat.reduceLeDiff, Nat.reduceSub, Nat.reducePow, Nat.reduceBEq, Int.reduceToNat, List.reduceReplicate]
    exact Wk.of_eq (by rw [List.take_of_length_le (by omega)] at hall; rw [ixf_none hall])
theorem contains_r (l : List Int) (x : Int) (hl : l.length ≤ 9223372036854775807) : Reads Try.prog 34 false [.rsl 1 (ints l), .int .i64 x] (.bool (l.any fun y => decide (x = y))) := by
  have h := index_r l x hl
  have hge := ixf_ge (fun y => decide (x = y)) l
  refine Reads.body (rs := [.tmp 4]) Try.func34 rfl Try.ntmps34 rfl (by simp) ?_
  generalize hQr : retQ _ _ _ = Qr
  refine AW.seq fun K1 hK1 => ?_
  -- region 0
  refine AW.regionK 0 (fun _ => none) [0, 1] [] ?_
  simp only [go_sem, reduceIte, reduceCtorEq, Nat.reduceAdd, Nat.reduceMul, Nat.reduceEqDiff, Nat.reduceLT, Nat.reduceLeDiff, Nat.reduceSub, Nat.reducePow, Nat.reduceBEq, Int.reduceToNat, List.reduceReplicate]
  repeat with_reducible refine cj ?_ ?_
  all_goals try first | omega
  refine hK1 _ _ _ ?_; clear hK1
  refine AW.seq fun K2 hK2 => ?_
  -- region 1
  refine AW.regionK 0 (fun ii => if ii = 2 then some (.reads false (.int .i64 (ixf (fun y => decide (x = y)) l))) else none) [4] [] ?_
  simp only [go_sem, reduceIte, reduceCtorEq, Nat.reduceAdd, Nat.reduceMul, Nat.reduceEqDiff, Nat.reduceLT, Nat.reduceLeDiff, Nat.reduceSub, Nat.reducePow, Nat.reduceBEq, Int.reduceToNat, List.reduceReplicate]
  repeat with_reducible refine cj ?_ ?_
  all_goals try first | (exact h) | omega | exact ent (by kernel_rfl)
  refine hK2 _ _ _ ?_; clear hK2
  refine AW.ret ?_
  rw [← hQr]
  simp only [go_sem, reduceIte, reduceCtorEq, Nat.reduceAdd, Nat.reduceMul, Nat.reduceEqDiff, Nat.reduceLT, Nat.reduceLeDiff, Nat.reduceSub, Nat.reducePow, Nat.reduceBEq, Int.reduceToNat, List.reduceReplicate]
  exact Wk.of_eq (by rw [hge])
theorem posw_r (x : Int) : Reads Try.prog 35 false [.int .i64 x] (.bool (decide (0 < x))) := by
  refine Reads.body (rs := [.tmp 2]) Try.func35 rfl Try.ntmps35 rfl (by simp) ?_
  generalize hQr : retQ _ _ _ = Qr
  refine AW.seq fun K1 hK1 => ?_
  -- region 0
  refine AW.regionK 0 (fun _ => none) [0] [] ?_
  simp only [go_sem, reduceIte, reduceCtorEq, Nat.reduceAdd, Nat.reduceMul, Nat.reduceEqDiff, Nat.reduceLT, Nat.reduceLeDiff, Nat.reduceSub, Nat.reducePow, Nat.reduceBEq, Int.reduceToNat, List.reduceReplicate]
  repeat with_reducible refine cj ?_ ?_
  all_goals try first | omega
  refine hK1 _ _ _ ?_; clear hK1
  refine AW.seq fun K2 hK2 => ?_
  -- region 1
  refine AW.regionK 0 (fun _ => none) [2] [] ?_
  simp only [go_sem, reduceIte, reduceCtorEq, Nat.reduceAdd, Nat.reduceMul, Nat.reduceEqDiff, Nat.reduceLT, Nat.reduceLeDiff, Nat.reduceSub, Nat.reducePow, Nat.reduceBEq, Int.reduceToNat, List.reduceReplicate]
  repeat with_reducible refine cj ?_ ?_
  all_goals try first | omega
  refine hK2 _ _ _ ?_; clear hK2
  refine AW.ret ?_
  rw [← hQr]
  simp only [go_sem, reduceIte, reduceCtorEq, Nat.reduceAdd, Nat.reduceMul, Nat.reduceEqDiff, Nat.reduceLT, Nat.reduceLeDiff, Nat.reduceSub, Nat.reducePow, Nat.reduceBEq, Int.reduceToNat, List.reduceReplicate]
  exact Wk.refl _
theorem ixpos_r (ws : List Int) (hl : ws.length ≤ 9223372036854775807) : Reads Try.prog 47 false [.rsl 1 (ints ws), .fn 35 []] (.int .i64 (ixf (fun y => decide (0 < y)) ws)) := by
  have hbw := posw_r
  refine Reads.body (rs := [.tmp 4]) Try.func47 rfl Try.ntmps47 rfl (by simp) ?_
  generalize hQr : retQ _ _ _ = Qr
  refine AW.seq fun K1 hK1 => ?_
  -- region 0
  refine AW.regionK 0 (fun _ => none) [0, 1] [] ?_
  simp only [go_sem, reduceIte, reduceCtorEq, Nat.reduceAdd, Nat.reduceMul, Nat.reduceEqDiff, Nat.reduceLT, Nat.reduceLeDiff, Nat.reduceSub, Nat.reducePow, Nat.reduceBEq, Int.reduceToNat, List.reduceReplicate]
  repeat with_reducible refine cj ?_ ?_
  all_goals try first | omega
  refine hK1 _ _ _ ?_; clear hK1
  refine AW.seq fun K2 hK2 => ?_
  refine AW.seq fun K3 hK3 => ?_
  -- region 1
  refine AW.regionK 0 (fun _ => none) [0, 1, 7, 8] [] ?_
  simp only [go_sem, reduceIte, reduceCtorEq, Nat.reduceAdd, Nat.reduceMul, Nat.reduceEqDiff, Nat.reduceLT, Nat.reduceLeDiff, Nat.reduceSub, Nat.reducePow, Nat.reduceBEq, Int.reduceToNat, List.reduceReplicate]
  repeat with_reducible refine cj ?_ ?_
  all_goals try first | omega
  refine hK3 _ _ _ ?_; clear hK3
  refine AW.block ?_
  -- loop 1
  refine AW.loopE (fun mm ee ss kk => ∃ (j : Nat), ws.length - j = mm ∧ ee = [(0, .rsl 1 (ints ws)), (1, .fn 35 []), (7, .int .i64 ws.length), (8, .int .i64 (j : Nat))] ∧ ss = [] ∧ (j ≤ ws.length ∧ (ws.take j).any (fun y => decide (0 < y)) = false)) ?_ ?_
  · refine ⟨_, 0, rfl, ?henv, ?hstore, ?hst⟩
    case henv =>
      repeat' (first | rfl | refine env_cons ?_ ?_ | refine st_cons ?_ ?_ ?_ ?_ | refine int_eq ?_ | refine bool_eq ?_ | refine rsl_eq ?_ | refine osl_eq ?_ | refine sl_eq ?_ ?_ ?_ | refine ptr_eq ?_ ?_ ?_ | refine agg_eq ?_ | refine es_cons ?_ ?_ | refine row_cons ?_ ?_)
      all_goals (first | (simp; done) | omega | (simp; omega))
    case hstore =>
      repeat' (first | rfl | refine env_cons ?_ ?_ | refine st_cons ?_ ?_ ?_ ?_ | refine int_eq ?_ | refine bool_eq ?_ | refine rsl_eq ?_ | refine osl_eq ?_ | refine sl_eq ?_ ?_ ?_ | refine ptr_eq ?_ ?_ ?_ | refine agg_eq ?_ | refine es_cons ?_ ?_ | refine row_cons ?_ ?_)
      all_goals (first | (simp; done) | omega | (simp; omega))
    case hst =>
      first | trivial | omega | (simp; done) | (simp; omega)
  rintro mm ee ss kk ⟨j, rfl, rfl, rfl, hI⟩
  generalize hQl1 : thenQ _ _ = Ql1
  obtain ⟨hj, hall⟩ := hI
  refine AW.seq fun K4 hK4 => ?_
  -- region 2
  refine AW.regionK 0 (fun _ => none) [0, 1, 7, 8, 9] [] ?_
  simp only [go_sem, reduceIte, reduceCtorEq, Nat.reduceAdd, Nat.reduceMul, Nat.reduceEqDiff, Nat.reduceLT, Nat.reduceLeDiff, Nat.reduceSub, Nat.reducePow, Nat.reduceBEq, Int.reduceToNat, List.reduceReplicate]
  repeat with_reducible refine cj ?_ ?_
  all_goals try first | omega
  refine hK4 _ _ _ ?_; clear hK4
  refine AW.seq fun K5 hK5 => ?_
  -- cond 1
  refine AW.cond rfl (by simp only [go_sem, reduceIte, reduceCtorEq, Nat.reduceAdd, Nat.reduceMul, Nat.reduceEqDiff, Nat.reduceLT, Nat.reduceLeDiff, Nat.reduceSub, Nat.reducePow, Nat.reduceBEq, Int.reduceToNat, List.reduceReplicate]) ?_ ?_
  · intro hb
    try simp only [hB, decide_eq_true_eq, decide_eq_false_iff_not] at hb
    obtain ⟨x, hx⟩ := getI (l := ws) (j := j) (by omega)
    have hgx := ints_get hx
    have hats := any_take_succ (p := fun y => decide (0 < y)) hx
    refine AW.skip ?_
    refine hK5 _ _ _ ?_; clear hK5
    refine AW.seq fun K6 hK6 => ?_
    refine AW.block ?_
    refine AW.seq fun K7 hK7 => ?_
    -- region 3
    refine AW.regionK 0 (fun _ => none) [0, 1, 5, 7, 8] [] ?_
    simp only [go_sem, reduceIte, reduceCtorEq, Nat.reduceAdd, Nat.reduceMul, Nat.reduceEqDiff, Nat.reduceLT, Nat.reduceLeDiff, Nat.reduceSub, Nat.reducePow, Nat.reduceBEq, Int.reduceToNat, List.reduceReplicate]
    repeat with_reducible refine cj ?_ ?_
    all_goals try first | omega
    refine hK7 _ _ _ ?_; clear hK7
    refine AW.seq fun K8 hK8 => ?_
    -- region 4
    refine AW.regionK 0 (fun ii => if ii = 5 then some (.reads false (.bool (decide (0 < x)))) else none) [0, 1, 5, 7, 8, 16] [] ?_
    simp only [go_sem, reduceIte, reduceCtorEq, Nat.reduceAdd, Nat.reduceMul, Nat.reduceEqDiff, Nat.reduceLT, Nat.reduceLeDiff, Nat.reduceSub, Nat.reducePow, Nat.reduceBEq, Int.reduceToNat, List.reduceReplicate, hgx]
    repeat with_reducible refine cj ?_ ?_
    all_goals try first | (exact hbw x) | omega | exact ent (by kernel_rfl)
    refine hK8 _ _ _ ?_; clear hK8
    -- cond 2
    refine AW.cond rfl (by simp only [go_sem, reduceIte, reduceCtorEq, Nat.reduceAdd, Nat.reduceMul, Nat.reduceEqDiff, Nat.reduceLT, Nat.reduceLeDiff, Nat.reduceSub, Nat.reducePow, Nat.reduceBEq, Int.reduceToNat, List.reduceReplicate]) ?_ ?_
    · intro hb
      try simp only [hB, decide_eq_true_eq, decide_eq_false_iff_not] at hb
      refine AW.seq fun K9 hK9 => ?_
      -- region 5
      refine AW.regionK 0 (fun _ => none) [4] [] ?_
      simp only [go_sem, reduceIte, reduceCtorEq, Nat.reduceAdd, Nat.reduceMul, Nat.reduceEqDiff, Nat.reduceLT, Nat.reduceLeDiff, Nat.reduceSub, Nat.reducePow, Nat.reduceBEq, Int.reduceToNat, List.reduceReplicate]
      repeat with_reducible refine cj ?_ ?_
      all_goals try first | omega
      refine hK9 _ _ _ ?_; clear hK9
      refine AW.ret ?_
      rw [← hQl1]
      rw [← hQr]
      simp only [go_sem, reduceIte, reduceCtorEq, Nat.reduceAdd, Nat.reduceMul, Nat.reduceEqDiff, Nat.reduceLT, Nat.reduceLeDiff, Nat.reduceSub, Nat.reducePow, Nat.reduceBEq, Int.reduceToNat, List.reduceReplicate]
      exact Wk.of_eq (by rw [ixf_at hx (decide_eq_true hb) hall])
    · intro hb
      try simp only [hB, decide_eq_true_eq, decide_eq_false_iff_not] at hb
      refine AW.skip ?_
      refine hK6 _ _ _ ?_; clear hK6
      -- region 6
      refine AW.regionK 0 (fun _ => none) [0, 1, 7, 8] [] ?_
      simp only [go_sem, reduceIte, reduceCtorEq, Nat.reduceAdd, Nat.reduceMul, Nat.reduceEqDiff, Nat.reduceLT, Nat.reduceLeDiff, Nat.reduceSub, Nat.reducePow, Nat.reduceBEq, Int.reduceToNat, List.reduceReplicate]
      repeat with_reducible refine cj ?_ ?_
      all_goals try first | omega
      rw [← hQl1]
      change Exists _
      refine ⟨_, ?hm, j + 1, rfl, ?henv, ?hstore, ?hst⟩
      case henv =>
        repeat' (first | rfl | refine env_cons ?_ ?_ | refine st_cons ?_ ?_ ?_ ?_ | refine int_eq ?_ | refine bool_eq ?_ | refine rsl_eq ?_ | refine osl_eq ?_ | refine sl_eq ?_ ?_ ?_ | refine ptr_eq ?_ ?_ ?_ | refine agg_eq ?_ | refine es_cons ?_ ?_ | refine row_cons ?_ ?_)
        all_goals (first | (simp; done) | omega | (simp; omega))
      case hstore =>
        repeat' (first | rfl | refine env_cons ?_ ?_ | refine st_cons ?_ ?_ ?_ ?_ | refine int_eq ?_ | refine bool_eq ?_ | refine rsl_eq ?_ | refine osl_eq ?_ | refine sl_eq ?_ ?_ ?_ | refine ptr_eq ?_ ?_ ?_ | refine agg_eq ?_ | refine es_cons ?_ ?_ | refine row_cons ?_ ?_)
        all_goals (first | (simp; done) | omega | (simp; omega))
      case hst =>
        exact ⟨by omega, by rw [hats, hall, decide_eq_false (by omega : ¬ 0 < x)]; rfl⟩
      case hm => omega
  · intro hb
    try simp only [hB, decide_eq_true_eq, decide_eq_false_iff_not] at hb
    refine AW.keep [] [] ?_
    try simp only [go_sem, reduceIte, reduceCtorEq, Nat.reduceAdd, Nat.reduceMul, Nat.reduceEqDiff, Nat.reduceLT, Nat.reduceLeDiff, Nat.reduceSub, Nat.reducePow, Nat.reduceBEq, Int.reduceToNat, List.reduceReplicate]
    refine AW.exit ?_
    rw [← hQl1]
    refine hK2 _ _ _ ?_; clear hK2
    refine AW.seq fun K10 hK10 => ?_
    -- region 7
    refine AW.regionK 0 (fun _ => none) [4] [] ?_
    simp only [go_sem, reduceIte, reduceCtorEq, Nat.reduceAdd, Nat.reduceMul, Nat.reduceEqDiff, Nat.reduceLT, Nat.reduceLeDiff, Nat.reduceSub, Nat.reducePow, Nat.reduceBEq, Int.reduceToNat, List.reduceReplicate]
    repeat with_reducible refine cj ?_ ?_
    all_goals try first | omega
    refine hK10 _ _ _ ?_; clear hK10
    refine AW.ret ?_
    rw [← hQr]
    simp only [go_sem, reduceIte, reduceCtorEq, Nat.reduceAdd, Nat.reduceMul, Nat.reduceEqDiff, Nat.reduceLT, Nat.reduceLeDiff, Nat.reduceSub, Nat.reducePow, Nat.reduceBEq, Int.reduceToNat, List.reduceReplicate]
    exact Wk.of_eq (by rw [List.take_of_length_le (by omega)] at hall; rw [ixf_none hall])
theorem ctpos_r (ws : List Int) (hl : ws.length ≤ 9223372036854775807) : Reads Try.prog 24 false [.rsl 1 (ints ws), .fn 35 []] (.bool (ws.any (fun y => decide (0 < y)))) := by
  have h := ixpos_r ws hl
  have hge := ixf_ge (fun y => decide (0 < y)) ws
  refine Reads.body (rs := [.tmp 4]) Try.func24 rfl Try.ntmps24 rfl (by simp) ?_
  generalize hQr : retQ _ _ _ = Qr
  refine AW.seq fun K1 hK1 => ?_
  -- region 0
  refine AW.regionK 0 (fun _ => none) [0, 1] [] ?_
  simp only [go_sem, reduceIte, reduceCtorEq, Nat.reduceAdd, Nat.reduceMul, Nat.reduceEqDiff, Nat.reduceLT, Nat.reduceLeDiff, Nat.reduceSub, Nat.reducePow, Nat.reduceBEq, Int.reduceToNat, List.reduceReplicate]
  repeat with_reducible refine cj ?_ ?_
  all_goals try first | omega
  refine hK1 _ _ _ ?_; clear hK1
  refine AW.seq fun K2 hK2 => ?_
  -- region 1
  refine AW.regionK 0 (fun ii => if ii = 2 then some (.reads false (.int .i64 (ixf (fun y => decide (0 < y)) ws))) else none) [4] [] ?_
  simp only [go_sem, reduceIte, reduceCtorEq, Nat.reduceAdd, Nat.reduceMul, Nat.reduceEqDiff, Nat.reduceLT, Nat.reduceLeDiff, Nat.reduceSub, Nat.reducePow, Nat.reduceBEq, Int.reduceToNat, List.reduceReplicate]
  repeat with_reducible refine cj ?_ ?_
  all_goals try first | (exact h) | omega | exact ent (by kernel_rfl)
  refine hK2 _ _ _ ?_; clear hK2
  refine AW.ret ?_
  rw [← hQr]
  simp only [go_sem, reduceIte, reduceCtorEq, Nat.reduceAdd, Nat.reduceMul, Nat.reduceEqDiff, Nat.reduceLT, Nat.reduceLeDiff, Nat.reduceSub, Nat.reducePow, Nat.reduceBEq, Int.reduceToNat, List.reduceReplicate]
  exact Wk.of_eq (by rw [hge])
def faultP (n : Net) (s t : Int) (fl : List Int) : Nat × Int :=
  if !validB n then (1, 0) else if !endsB n s t then (2, 0) else if !flowB n s t fl || decide (bal n fl s < 0) then (17, 0) else if 1000 < bal n fl s then (5, bal n fl s) else (0, bal n fl s)
theorem paths_spec (n : Net) (s t : Int) (fl : List Int) (hE0 : n.E.length ≤ 9223372036854775807) (hl : fl.length ≤ 9223372036854775807) (f : Nat) (val : Int) (hq : faultP n s t fl = (f, val)) : ∃ ps : List (List Int),
    Reads Try.prog 33 false [netV n, .int .i64 s, .int .i64 t, .rsl 1 (ints fl)] (.tup [.rsl 1 (lists ps), .int .i64 (f : Nat)]) ∧ (f ≠ 0 → ps = []) ∧
    (f = 0 → (ps.length : Int) = val ∧ (∀ p ∈ ps, PathOk n.N s t p) ∧ (∀ k, cntAll n.N ps k ≤ keySum n fl k n.E.length) ∧ validB n = true ∧ endsB n s t = true ∧ IsFlow n s t fl) := by
  by_cases hf : f = 0
  · unfold faultP at hq
    split at hq
    · cases hq; cases hf
    · rename_i hv; split at hq
      · cases hq; cases hf
      · rename_i he; split at hq
        · cases hq; cases hf
        · rename_i hfl; split at hq
          · cases hq; cases hf
          · rename_i hb
            simp only [Bool.not_eq_true', Bool.not_eq_false] at hv he
            simp only [Bool.or_eq_true, Bool.not_eq_true', decide_eq_true_eq, not_or, Bool.not_eq_false] at hfl
            obtain ⟨rfl, rfl⟩ := Prod.mk.inj hq
            have hz := valid_size hv
            have hif := (flowB_iff (by omega)).1 hfl.1
            obtain ⟨ps, g1, g2, g3, g4⟩ := paths_total hv he (bal n fl s).toNat _ fl (setCaps_arcs hv fl) hif (by omega)
            have := paths_r n s t fl hv he hl hfl.1 (bal n fl s).toNat (by omega) (by omega) ps g1 g2
            exact ⟨ps, this, fun h => absurd rfl h, fun _ => ⟨by rw [g2]; omega, g3, g4, hv, he, hif⟩⟩
  · refine ⟨[], ?_, fun _ => rfl, fun h => absurd h hf⟩
    refine paths_err n s t fl hE0 hl f ?_ hf
    have h1 : f = (faultP n s t fl).1 := by rw [hq]
    rw [h1]
    unfold faultP checkC
    cases validB n <;> cases endsB n s t <;> simp
    cases flowB n s t fl <;> simp
    split
    · rfl
    · split <;> rfl
end Go.Proofs.F
namespace Go.Proofs.F
open Go.AM Go
set_option maxRecDepth 100000
set_option maxHeartbeats 4000000
theorem law_paths (n : Net) (s t : Int) (fl : List Int) (hE0 : n.E.length ≤ 9223372036854775807) (hl : fl.length ≤ 9223372036854775807) : Reads Try.prog 9 false [netV n, .int .i64 s, .int .i64 t, .rsl 1 (ints fl)] (.bool true) := by
  have haw := awake_r
  have hfew := few_r n
  have hval := rvalid_r n hE0
  have hend := rends_r n s t
  have hflow := fun hv => flow_r n s t fl hv hl
  have hvl := fun hE hl hB => val_r n fl s hE hl hB
  have hspec := paths_spec n s t fl hE0 hl
  have hct := fun l x (h : l.length ≤ 9223372036854775807) => contains_r l x h
  have hcp := fun ws (h : ws.length ≤ 9223372036854775807) => ctpos_r ws h
  unfold netV at *
  refine Reads.body (rs := [.tmp 8]) Try.func9 rfl Try.ntmps9 rfl (by simp) ?_
  generalize hQr : retQ _ _ _ = Qr
  refine AW.seq fun K1 hK1 => ?_
  -- region 0
  refine AW.regionK 0 (fun _ => none) [1, 2, 3, 4] [4] ?_
  simp only [go_sem, reduceIte, reduceCtorEq, Nat.reduceAdd, Nat.reduceMul, Nat.reduceEqDiff, Nat.reduceLT, Nat.reduceLeDiff, Nat.reduceSub, Nat.reducePow, Nat.reduceBEq, Int.reduceToNat, List.reduceReplicate, lists_len]
  repeat with_reducible refine cj ?_ ?_
  all_goals try first | omega
  refine hK1 _ _ _ ?_; clear hK1
  refine AW.seq fun K2 hK2 => ?_
  refine AW.seq fun K3 hK3 => ?_
  -- region 1
  refine AW.regionK 0 (fun ii => if ii = 0 then some (.reads false (.bool true)) else none) [1, 2, 3, 4, 21] [4] ?_
  simp only [go_sem, reduceIte, reduceCtorEq, Nat.reduceAdd, Nat.reduceMul, Nat.reduceEqDiff, Nat.reduceLT, Nat.reduceLeDiff, Nat.reduceSub, Nat.reducePow, Nat.reduceBEq, Int.reduceToNat, List.reduceReplicate, lists_len]
  repeat with_reducible refine cj ?_ ?_
  all_goals try first | (exact haw) | omega | exact ent (by kernel_rfl)
  refine hK3 _ _ _ ?_; clear hK3
  -- cond 1
  refine AW.cond rfl (by simp only [go_sem, reduceIte, reduceCtorEq, Nat.reduceAdd, Nat.reduceMul, Nat.reduceEqDiff, Nat.reduceLT, Nat.reduceLeDiff, Nat.reduceSub, Nat.reducePow, Nat.reduceBEq, Int.reduceToNat, List.reduceReplicate]) ?_ ?_
  · intro hb
    try simp only [hB, decide_eq_true_eq, decide_eq_false_iff_not] at hb
    simp at hb
  · intro hb
    try simp only [hB, decide_eq_true_eq, decide_eq_false_iff_not] at hb
    refine AW.skip ?_
    refine hK2 _ _ _ ?_; clear hK2
    refine AW.seq fun K4 hK4 => ?_
    refine AW.seq fun K5 hK5 => ?_
    -- region 3
    refine AW.regionK 0 (fun ii => if ii = 1 then some (.reads false (.bool (fewB n))) else none) [1, 2, 3, 4, 29] [4] ?_
    simp only [go_sem, reduceIte, reduceCtorEq, Nat.reduceAdd, Nat.reduceMul, Nat.reduceEqDiff, Nat.reduceLT, Nat.reduceLeDiff, Nat.reduceSub, Nat.reducePow, Nat.reduceBEq, Int.reduceToNat, List.reduceReplicate, lists_len]
    repeat with_reducible refine cj ?_ ?_
    all_goals try first | (exact hfew) | (intros; (repeat' apply And.intro) <;> first | assumption | (exact hfew)) | omega | exact ent (by kernel_rfl) | (intro hgd; exact absurd hgd (by decide)) | rfl | (simp only [go_sem, reduceIte, reduceCtorEq, Nat.reduceAdd, Nat.reduceMul, Nat.reduceEqDiff, Nat.reduceLT, Nat.reduceLeDiff, Nat.reduceSub, Nat.reducePow, Nat.reduceBEq, Int.reduceToNat, List.reduceReplicate, lists_len]; done) | (intro _hgd; simp_all [go_sem]; done)
    refine hK5 _ _ _ ?_; clear hK5
    -- cond 2
    refine AW.cond rfl (by simp only [go_sem, reduceIte, reduceCtorEq, Nat.reduceAdd, Nat.reduceMul, Nat.reduceEqDiff, Nat.reduceLT, Nat.reduceLeDiff, Nat.reduceSub, Nat.reducePow, Nat.reduceBEq, Int.reduceToNat, List.reduceReplicate]) ?_ ?_
    · intro hb
      try simp only [hB, decide_eq_true_eq, decide_eq_false_iff_not] at hb
      refine AW.seq fun K6 hK6 => ?_
      -- region 4
      refine AW.regionK 0 (fun _ => none) [8] [] ?_
      simp only [go_sem, reduceIte, reduceCtorEq, Nat.reduceAdd, Nat.reduceMul, Nat.reduceEqDiff, Nat.reduceLT, Nat.reduceLeDiff, Nat.reduceSub, Nat.reducePow, Nat.reduceBEq, Int.reduceToNat, List.reduceReplicate, lists_len]
      repeat with_reducible refine cj ?_ ?_
      all_goals try first | omega
      refine hK6 _ _ _ ?_; clear hK6
      refine AW.ret ?_
      rw [← hQr]
      simp only [go_sem, reduceIte, reduceCtorEq, Nat.reduceAdd, Nat.reduceMul, Nat.reduceEqDiff, Nat.reduceLT, Nat.reduceLeDiff, Nat.reduceSub, Nat.reducePow, Nat.reduceBEq, Int.reduceToNat, List.reduceReplicate, lists_len]
      exact Wk.refl _
    · intro hb
      try simp only [hB, decide_eq_true_eq, decide_eq_false_iff_not] at hb
      have hfw : fewB n = true := by revert hb; cases fewB n <;> simp
      have hl21 : fl.length ≤ 2100 := by rw [hfw] at hb; simp at hb; omega
      clear hb
      refine AW.skip ?_
      refine hK4 _ _ _ ?_; clear hK4
      refine AW.seq fun K7 hK7 => ?_
      -- region 5
      refine AW.regionK 0 (fun _ => none) [1, 2, 3, 4, 9] [4] ?_
      simp only [go_sem, reduceIte, reduceCtorEq, Nat.reduceAdd, Nat.reduceMul, Nat.reduceEqDiff, Nat.reduceLT, Nat.reduceLeDiff, Nat.reduceSub, Nat.reducePow, Nat.reduceBEq, Int.reduceToNat, List.reduceReplicate, lists_len]
      repeat with_reducible refine cj ?_ ?_
      all_goals try first | omega
      refine hK7 _ _ _ ?_; clear hK7
      refine AW.seq fun K8 hK8 => ?_
      -- region 6
      refine AW.regionK 0 (fun _ => none) [1, 2, 3, 4, 9, 10] [4] ?_
      simp only [go_sem, reduceIte, reduceCtorEq, Nat.reduceAdd, Nat.reduceMul, Nat.reduceEqDiff, Nat.reduceLT, Nat.reduceLeDiff, Nat.reduceSub, Nat.reducePow, Nat.reduceBEq, Int.reduceToNat, List.reduceReplicate, lists_len]
      repeat with_reducible refine cj ?_ ?_
      all_goals try first | omega
      refine hK8 _ _ _ ?_; clear hK8
      refine AW.seq fun K9 hK9 => ?_
      refine AW.block ?_
      refine AW.seq fun K10 hK10 => ?_
      -- region 10
      refine AW.regionK 0 (fun ii => if ii = 1 then some (.reads false (.bool (validB n))) else none) [1, 2, 3, 4, 9, 10, 36] [4] ?_
      simp only [go_sem, reduceIte, reduceCtorEq, Nat.reduceAdd, Nat.reduceMul, Nat.reduceEqDiff, Nat.reduceLT, Nat.reduceLeDiff, Nat.reduceSub, Nat.reducePow, Nat.reduceBEq, Int.reduceToNat, List.reduceReplicate, lists_len]
      repeat with_reducible refine cj ?_ ?_
      all_goals try first | (exact hval) | omega | exact ent (by kernel_rfl)
      refine hK10 _ _ _ ?_; clear hK10
      have hJ3 : ∀ (f : Nat) (val : Int) (g4 v4 : Nat) (hq : faultP n s t fl = (f, val)) (kk : Nat), K9 [(1, .int .i64 s), (2, .int .i64 t), (3, .rsl 1 (ints fl)), (4, .ptr ⟨4, g4, none⟩ 0 0), (9, .int .i64 (f : Nat)), (10, .int .i64 val)] [(4, some ⟨g4, v4, 2, [[.int .i64 n.N, .rsl 3 (n.E.map edgeV)]]⟩)] kk := by
        intro f val g4 v4 hq kk
        refine hK9 _ _ _ ?_; clear hK9
        refine AW.seq fun K46 hK46 => ?_
        refine AW.seq fun K47 hK47 => ?_
        -- region 16
        refine AW.regionK 0 (fun _ => none) [1, 2, 3, 4, 9, 10, 65] [4] ?_
        simp only [go_sem, reduceIte, reduceCtorEq, Nat.reduceAdd, Nat.reduceMul, Nat.reduceEqDiff, Nat.reduceLT, Nat.reduceLeDiff, Nat.reduceSub, Nat.reducePow, Nat.reduceBEq, Int.reduceToNat, List.reduceReplicate, lists_len]
        repeat with_reducible refine cj ?_ ?_
        all_goals try first | omega | (intros; (repeat' apply And.intro) <;> first | assumption | omega | decide) | (intro hgd; exact absurd hgd (by decide)) | rfl | (simp only [go_sem, reduceIte, reduceCtorEq, Nat.reduceAdd, Nat.reduceMul, Nat.reduceEqDiff, Nat.reduceLT, Nat.reduceLeDiff, Nat.reduceSub, Nat.reducePow, Nat.reduceBEq, Int.reduceToNat, List.reduceReplicate, lists_len]; done) | (intro _hgd; simp_all [go_sem]; done)
        refine hK47 _ _ _ ?_; clear hK47
        -- cond 7
        refine AW.cond rfl (by simp only [go_sem, reduceIte, reduceCtorEq, Nat.reduceAdd, Nat.reduceMul, Nat.reduceEqDiff, Nat.reduceLT, Nat.reduceLeDiff, Nat.reduceSub, Nat.reducePow, Nat.reduceBEq, Int.reduceToNat, List.reduceReplicate]) ?_ ?_
        · intro hb
          try simp only [hB, decide_eq_true_eq, decide_eq_false_iff_not] at hb
          refine AW.seq fun K48 hK48 => ?_
          -- region 17
          refine AW.regionK 0 (fun _ => none) [8] [] ?_
          simp only [go_sem, reduceIte, reduceCtorEq, Nat.reduceAdd, Nat.reduceMul, Nat.reduceEqDiff, Nat.reduceLT, Nat.reduceLeDiff, Nat.reduceSub, Nat.reducePow, Nat.reduceBEq, Int.reduceToNat, List.reduceReplicate, lists_len]
          repeat with_reducible refine cj ?_ ?_
          all_goals try first | omega
          refine hK48 _ _ _ ?_; clear hK48
          refine AW.ret ?_
          rw [← hQr]
          simp only [go_sem, reduceIte, reduceCtorEq, Nat.reduceAdd, Nat.reduceMul, Nat.reduceEqDiff, Nat.reduceLT, Nat.reduceLeDiff, Nat.reduceSub, Nat.reducePow, Nat.reduceBEq, Int.reduceToNat, List.reduceReplicate, lists_len]
          exact Wk.refl _
        · intro hb
          try simp only [hB, decide_eq_true_eq, decide_eq_false_iff_not] at hb
          obtain ⟨ps, hP, hP1, hP2⟩ := hspec f val hq
          have hc7 : f = 0 → val ≤ 200 := fun h => by subst h; simp at hb; omega
          clear hb hspec
          refine AW.skip ?_
          refine hK46 _ _ _ ?_; clear hK46
          refine AW.seq fun K49 hK49 => ?_
          -- region 18
          refine AW.regionK 0 (fun ii => if ii = 4 then some (.reads false (.tup [.rsl 1 (lists ps), .int .i64 (f : Nat)])) else none) [1, 2, 3, 4, 9, 10, 11, 12] [4] ?_
          simp only [go_sem, reduceIte, reduceCtorEq, Nat.reduceAdd, Nat.reduceMul, Nat.reduceEqDiff, Nat.reduceLT, Nat.reduceLeDiff, Nat.reduceSub, Nat.reducePow, Nat.reduceBEq, Int.reduceToNat, List.reduceReplicate, lists_len]
          repeat with_reducible refine cj ?_ ?_
          all_goals try first | (exact hP) | omega | exact ent (by kernel_rfl)
          refine hK49 _ _ _ ?_; clear hK49
          refine AW.seq fun K50 hK50 => ?_
          refine AW.seq fun K51 hK51 => ?_
          -- region 19
          refine AW.regionK 0 (fun _ => none) [1, 2, 3, 4, 9, 10, 11, 76] [4] ?_
          simp only [go_sem, reduceIte, reduceCtorEq, Nat.reduceAdd, Nat.reduceMul, Nat.reduceEqDiff, Nat.reduceLT, Nat.reduceLeDiff, Nat.reduceSub, Nat.reducePow, Nat.reduceBEq, Int.reduceToNat, List.reduceReplicate, lists_len]
          repeat with_reducible refine cj ?_ ?_
          all_goals try first | omega
          refine hK51 _ _ _ ?_; clear hK51
          -- cond 8
          refine AW.cond rfl (by simp only [go_sem, reduceIte, reduceCtorEq, Nat.reduceAdd, Nat.reduceMul, Nat.reduceEqDiff, Nat.reduceLT, Nat.reduceLeDiff, Nat.reduceSub, Nat.reducePow, Nat.reduceBEq, Int.reduceToNat, List.reduceReplicate]) ?_ ?_
          · intro hb
            try simp only [hB, decide_eq_true_eq, decide_eq_false_iff_not] at hb
            exfalso; simp at hb
          · intro hb
            try simp only [hB, decide_eq_true_eq, decide_eq_false_iff_not] at hb
            refine AW.skip ?_
            refine hK50 _ _ _ ?_; clear hK50
            refine AW.seq fun K52 hK52 => ?_
            refine AW.seq fun K53 hK53 => ?_
            -- region 21
            refine AW.regionK 0 (fun _ => none) [1, 2, 3, 4, 10, 11, 78] [4] ?_
            simp only [go_sem, reduceIte, reduceCtorEq, Nat.reduceAdd, Nat.reduceMul, Nat.reduceEqDiff, Nat.reduceLT, Nat.reduceLeDiff, Nat.reduceSub, Nat.reducePow, Nat.reduceBEq, Int.reduceToNat, List.reduceReplicate, lists_len]
            repeat with_reducible refine cj ?_ ?_
            all_goals try first | omega
            refine hK53 _ _ _ ?_; clear hK53
            -- cond 9
            refine AW.cond rfl (by simp only [go_sem, reduceIte, reduceCtorEq, Nat.reduceAdd, Nat.reduceMul, Nat.reduceEqDiff, Nat.reduceLT, Nat.reduceLeDiff, Nat.reduceSub, Nat.reducePow, Nat.reduceBEq, Int.reduceToNat, List.reduceReplicate]) ?_ ?_
            · intro hb
              try simp only [hB, decide_eq_true_eq, decide_eq_false_iff_not] at hb
              have hps := hP1 (by omega)
              subst hps
              refine AW.seq fun K54 hK54 => ?_
              -- region 22
              refine AW.regionK 0 (fun _ => none) [8] [] ?_
              simp only [go_sem, reduceIte, reduceCtorEq, Nat.reduceAdd, Nat.reduceMul, Nat.reduceEqDiff, Nat.reduceLT, Nat.reduceLeDiff, Nat.reduceSub, Nat.reducePow, Nat.reduceBEq, Int.reduceToNat, List.reduceReplicate, lists_len]
              repeat with_reducible refine cj ?_ ?_
              all_goals try first | omega
              refine hK54 _ _ _ ?_; clear hK54
              refine AW.ret ?_
              rw [← hQr]
              simp only [go_sem, reduceIte, reduceCtorEq, Nat.reduceAdd, Nat.reduceMul, Nat.reduceEqDiff, Nat.reduceLT, Nat.reduceLeDiff, Nat.reduceSub, Nat.reducePow, Nat.reduceBEq, Int.reduceToNat, List.reduceReplicate, lists_len]
              exact Wk.of_eq (by simp [lists])
            · intro hb
              try simp only [hB, decide_eq_true_eq, decide_eq_false_iff_not] at hb
              have hf0 : f = 0 := by omega
              subst hf0
              obtain ⟨hpl, hpo, hcn, hv, he, hif⟩ := hP2 rfl
              have hv200 := hc7 rfl
              obtain ⟨hN1, hN2, hE⟩ := valid_size hv
              have hsm : n.N ≤ 60 ∧ n.E.length ≤ 100 := by simp [fewB] at hfw; omega
              have hends : 0 ≤ s ∧ s < n.N ∧ 0 ≤ t ∧ t < n.N := by simp [endsB] at he; omega
              have hps2 : ps.length ≤ 200 := by omega
              have hNN : 1 ≤ n.N * n.N ∧ n.N * n.N ≤ 3600 := ⟨by have := Int.mul_le_mul hN1 hN1 (by decide) (by omega); simpa using this, by have := Int.mul_le_mul hsm.1 hsm.1 (by omega) (by decide); simpa using this⟩
              obtain ⟨M, hM⟩ : ∃ M : Nat, (M : Int) = n.N * n.N := ⟨(n.N * n.N).toNat, by omega⟩
              have hMt : (n.N * n.N).toNat = M := by omega
              have hflb := fun i => flow_bnd hv hif i
              have hfll := hif.len
              have hz0 : ∀ q, 0 ≤ (List.replicate M (0 : Int)).getD q 0 ∧ (List.replicate M (0 : Int)).getD q 0 ≤ 0 := fun q => by rw [List.getD_eq_getElem?_getD, List.getElem?_replicate]; split <;> simp
              clear hP1 hP2 hc7
              refine AW.skip ?_
              refine hK52 _ _ _ ?_; clear hK52
              refine AW.seq fun K55 hK55 => ?_
              refine AW.seq fun K56 hK56 => ?_
              -- region 23
              refine AW.regionK 0 (fun _ => none) [1, 2, 3, 4, 11, 85] [4] ?_
              simp only [go_sem, reduceIte, reduceCtorEq, Nat.reduceAdd, Nat.reduceMul, Nat.reduceEqDiff, Nat.reduceLT, Nat.reduceLeDiff, Nat.reduceSub, Nat.reducePow, Nat.reduceBEq, Int.reduceToNat, List.reduceReplicate, lists_len]
              repeat with_reducible refine cj ?_ ?_
              all_goals try first | omega
              refine hK56 _ _ _ ?_; clear hK56
              -- cond 10
              refine AW.cond rfl (by simp only [go_sem, reduceIte, reduceCtorEq, Nat.reduceAdd, Nat.reduceMul, Nat.reduceEqDiff, Nat.reduceLT, Nat.reduceLeDiff, Nat.reduceSub, Nat.reducePow, Nat.reduceBEq, Int.reduceToNat, List.reduceReplicate]) ?_ ?_
              · intro hb
                try simp only [hB, decide_eq_true_eq, decide_eq_false_iff_not] at hb
                exfalso; omega
              · intro hb
                try simp only [hB, decide_eq_true_eq, decide_eq_false_iff_not] at hb
                refine AW.skip ?_
                refine hK55 _ _ _ ?_; clear hK55
                refine AW.seq fun K57 hK57 => ?_
                -- region 25
                refine AW.regionK 0 (fun _ => none) [1, 2, 3, 4, 11, 13] [4, 91] ?_
                simp only [go_sem, reduceIte, reduceCtorEq, Nat.reduceAdd, Nat.reduceMul, Nat.reduceEqDiff, Nat.reduceLT, Nat.reduceLeDiff, Nat.reduceSub, Nat.reducePow, Nat.reduceBEq, Int.reduceToNat, List.reduceReplicate, lists_len, hMt]
                repeat with_reducible refine cj ?_ ?_
                all_goals try first | omega
                refine hK57 _ _ _ ?_; clear hK57
                refine AW.seq fun K58 hK58 => ?_
                refine AW.seq fun K59 hK59 => ?_
                -- region 26
                refine AW.regionK 0 (fun _ => none) [1, 2, 3, 4, 13, 92, 93, 94] [4, 91] ?_
                simp only [go_sem, reduceIte, reduceCtorEq, Nat.reduceAdd, Nat.reduceMul, Nat.reduceEqDiff, Nat.reduceLT, Nat.reduceLeDiff, Nat.reduceSub, Nat.reducePow, Nat.reduceBEq, Int.reduceToNat, List.reduceReplicate, lists_len]
                repeat with_reducible refine cj ?_ ?_
                all_goals try first | omega
                refine hK59 _ _ _ ?_; clear hK59
                refine AW.block ?_
                -- loop 1
                refine AW.loopE (fun mm ee ss kk => ∃ (j g4 v4 g v : Nat), ps.length - j = mm ∧ ee = [(1, .int .i64 s), (2, .int .i64 t), (3, .rsl 1 (ints fl)), (4, .ptr ⟨4, g4, none⟩ 0 0), (13, .sl ⟨91, g, none⟩ 0 M none), (92, .rsl 1 (lists ps)), (93, .int .i64 ps.length), (94, .int .i64 (j : Nat))] ∧ ss = [(4, some ⟨g4, v4, 2, [[.int .i64 n.N, .rsl 3 (n.E.map edgeV)]]⟩), (91, some ⟨g, v, 1, ints (addKeys (List.replicate M 0) (kAll n.N (ps.take j)))⟩)] ∧ (j ≤ ps.length)) ?_ ?_
                · refine ⟨_, 0, ?_, ?_, ?_, ?_, rfl, ?henv, ?hstore, ?hst⟩
                  case henv =>
                    repeat' (first | rfl | refine env_cons ?_ ?_ | refine st_cons ?_ ?_ ?_ ?_ | refine int_eq ?_ | refine bool_eq ?_ | refine rsl_eq ?_ | refine osl_eq ?_ | refine sl_eq ?_ ?_ ?_ | refine ptr_eq ?_ ?_ ?_ | refine agg_eq ?_ | refine es_cons ?_ ?_ | refine row_cons ?_ ?_)
                    all_goals (first | (simp; done) | omega | (simp; omega))
                  case hstore =>
                    repeat' (first | rfl | refine env_cons ?_ ?_ | refine st_cons ?_ ?_ ?_ ?_ | refine int_eq ?_ | refine bool_eq ?_ | refine rsl_eq ?_ | refine osl_eq ?_ | refine sl_eq ?_ ?_ ?_ | refine ptr_eq ?_ ?_ ?_ | refine agg_eq ?_ | refine es_cons ?_ ?_ | refine row_cons ?_ ?_)
                    all_goals simp [ints, kAll, addKeys]
                  case hst =>
                    first | trivial | omega | (simp; done) | (simp; omega)
                rintro mm ee ss kk ⟨j, g4, v4, g, v, rfl, rfl, rfl, hI⟩
                generalize hQl1 : thenQ _ _ = Ql1
                refine AW.seq fun K60 hK60 => ?_
                -- region 27
                refine AW.regionK 0 (fun _ => none) [1, 2, 3, 4, 13, 92, 93, 94, 95] [4, 91] ?_
                simp only [go_sem, reduceIte, reduceCtorEq, Nat.reduceAdd, Nat.reduceMul, Nat.reduceEqDiff, Nat.reduceLT, Nat.reduceLeDiff, Nat.reduceSub, Nat.reducePow, Nat.reduceBEq, Int.reduceToNat, List.reduceReplicate, lists_len]
                repeat with_reducible refine cj ?_ ?_
                all_goals try first | omega
                refine hK60 _ _ _ ?_; clear hK60
                refine AW.seq fun K61 hK61 => ?_
                -- cond 11
                refine AW.cond rfl (by simp only [go_sem, reduceIte, reduceCtorEq, Nat.reduceAdd, Nat.reduceMul, Nat.reduceEqDiff, Nat.reduceLT, Nat.reduceLeDiff, Nat.reduceSub, Nat.reducePow, Nat.reduceBEq, Int.reduceToNat, List.reduceReplicate]) ?_ ?_
                · intro hb
                  try simp only [hB, decide_eq_true_eq, decide_eq_false_iff_not] at hb
                  obtain ⟨p, hp⟩ := getI (l := ps) (j := j) (by omega)
                  have hgp := lists_get hp
                  have hpok := hpo p (List.mem_of_getElem? hp)
                  have hpl2 := hpok.long
                  have hp0 : p.getD 0 0 = s := by have := hpok.hd; cases p with
                    | nil => simp at this
                    | cons a l => simpa using this
                  have hpt : p.getD (p.length - 1) 0 = t := by have := hpok.lst; rw [List.getLast?_eq_getElem?] at this; rw [List.getD_eq_getElem?_getD, this]; rfl
                  have hg0 := ints_getD (l := p) (i := 0) (by omega)
                  have hgt := ints_getD (l := p) (i := p.length - 1) (by omega)
                  have hti : ((p.length : Int) - 1).toNat = p.length - 1 := by omega
                  rw [hp0] at hg0
                  rw [hpt] at hgt
                  have hks := kAll_succ n.N hp
                  have hkl := kAll_le n.N (B := 60) (ps.take j) (fun p hp => by have := (hpo p (List.mem_of_mem_take hp)).long; omega)
                  have hkl2 : (kAll n.N (ps.take j)).length ≤ 12000 := by rw [List.length_take] at hkl; omega
                  have hU0 := addKeys_bnd hz0 (kAll n.N (ps.take j))
                  have hUl : (addKeys (List.replicate M 0) (kAll n.N (ps.take j))).length = M := by rw [addKeys_len]; simp
                  have hUn : addKeys (List.replicate M 0) (kAll n.N (ps.take (j + 1))) = addKeys (addKeys (List.replicate M 0) (kAll n.N (ps.take j))) (keysOf n.N p) := by rw [hks, addKeys_app]
                  generalize hU : addKeys (List.replicate M 0) (kAll n.N (ps.take j)) = U at *
                  refine AW.skip ?_
                  refine hK61 _ _ _ ?_; clear hK61
                  refine AW.seq fun K62 hK62 => ?_
                  refine AW.block ?_
                  refine AW.seq fun K63 hK63 => ?_
                  -- region 28
                  refine AW.regionK 0 (fun _ => none) [1, 2, 3, 4, 13, 15, 92, 93, 94] [4, 91] ?_
                  simp only [go_sem, reduceIte, reduceCtorEq, Nat.reduceAdd, Nat.reduceMul, Nat.reduceEqDiff, Nat.reduceLT, Nat.reduceLeDiff, Nat.reduceSub, Nat.reducePow, Nat.reduceBEq, Int.reduceToNat, List.reduceReplicate, lists_len, hgp]
                  repeat with_reducible refine cj ?_ ?_
                  all_goals try first | omega
                  refine hK63 _ _ _ ?_; clear hK63
                  refine AW.seq fun K64 hK64 => ?_
                  refine AW.seq fun K65 hK65 => ?_
                  -- region 29
                  refine AW.regionK 0 (fun _ => none) [1, 2, 3, 4, 13, 15, 92, 93, 94, 124] [4, 91] ?_
                  simp only [go_sem, reduceIte, reduceCtorEq, Nat.reduceAdd, Nat.reduceMul, Nat.reduceEqDiff, Nat.reduceLT, Nat.reduceLeDiff, Nat.reduceSub, Nat.reducePow, Nat.reduceBEq, Int.reduceToNat, List.reduceReplicate, lists_len, hg0, hti, hgt]
                  repeat with_reducible refine cj ?_ ?_
                  all_goals try first | omega | (intros; (repeat' apply And.intro) <;> first | assumption | omega | decide) | (intro hgd; exact absurd hgd (by decide)) | rfl | (simp only [go_sem, reduceIte, reduceCtorEq, Nat.reduceAdd, Nat.reduceMul, Nat.reduceEqDiff, Nat.reduceLT, Nat.reduceLeDiff, Nat.reduceSub, Nat.reducePow, Nat.reduceBEq, Int.reduceToNat, List.reduceReplicate, lists_len, hg0, hti, hgt]; done) | (intro _hgd; simp_all [go_sem]; done)
                  refine hK65 _ _ _ ?_; clear hK65
                  -- cond 12
                  refine AW.cond rfl (by simp only [go_sem, reduceIte, reduceCtorEq, Nat.reduceAdd, Nat.reduceMul, Nat.reduceEqDiff, Nat.reduceLT, Nat.reduceLeDiff, Nat.reduceSub, Nat.reducePow, Nat.reduceBEq, Int.reduceToNat, List.reduceReplicate]) ?_ ?_
                  · intro hb
                    try simp only [hB, decide_eq_true_eq, decide_eq_false_iff_not] at hb
                    exfalso; rcases hb with hb | hb <;> first | omega | (simp at hb; done) | (simp at hb; omega)
                  · intro hb
                    try simp only [hB, decide_eq_true_eq, decide_eq_false_iff_not] at hb
                    refine AW.skip ?_
                    refine hK64 _ _ _ ?_; clear hK64
                    refine AW.seq fun K66 hK66 => ?_
                    -- region 31
                    refine AW.regionK 0 (fun _ => none) [1, 2, 3, 4, 13, 15, 92, 93, 94, 125, 126, 127] [4, 91] ?_
                    simp only [go_sem, reduceIte, reduceCtorEq, Nat.reduceAdd, Nat.reduceMul, Nat.reduceEqDiff, Nat.reduceLT, Nat.reduceLeDiff, Nat.reduceSub, Nat.reducePow, Nat.reduceBEq, Int.reduceToNat, List.reduceReplicate, lists_len]
                    repeat with_reducible refine cj ?_ ?_
                    all_goals try first | omega
                    refine hK66 _ _ _ ?_; clear hK66
                    refine AW.block ?_
                    -- loop 2
                    refine AW.loopE (fun mm ee ss kk => ∃ (i g4 v4 g v : Nat), p.length - i = mm ∧ ee = [(1, .int .i64 s), (2, .int .i64 t), (3, .rsl 1 (ints fl)), (4, .ptr ⟨4, g4, none⟩ 0 0), (13, .sl ⟨91, g, none⟩ 0 M none), (15, .rsl 1 (ints p)), (92, .rsl 1 (lists ps)), (93, .int .i64 ps.length), (94, .int .i64 (j : Nat)), (125, .rsl 1 (ints p)), (126, .int .i64 p.length), (127, .int .i64 (i : Nat))] ∧ ss = [(4, some ⟨g4, v4, 2, [[.int .i64 n.N, .rsl 3 (n.E.map edgeV)]]⟩), (91, some ⟨g, v, 1, ints (addKeys U (keysOf n.N (p.take i)))⟩)] ∧ (i ≤ p.length)) ?_ ?_
                    · refine ⟨_, 0, ?_, ?_, ?_, ?_, rfl, ?henv, ?hstore, ?hst⟩
                      case henv =>
                        repeat' (first | rfl | refine env_cons ?_ ?_ | refine st_cons ?_ ?_ ?_ ?_ | refine int_eq ?_ | refine bool_eq ?_ | refine rsl_eq ?_ | refine osl_eq ?_ | refine sl_eq ?_ ?_ ?_ | refine ptr_eq ?_ ?_ ?_ | refine agg_eq ?_ | refine es_cons ?_ ?_ | refine row_cons ?_ ?_)
                        all_goals (first | (simp; done) | omega | (simp; omega))
                      case hstore =>
                        repeat' (first | rfl | refine env_cons ?_ ?_ | refine st_cons ?_ ?_ ?_ ?_ | refine int_eq ?_ | refine bool_eq ?_ | refine rsl_eq ?_ | refine osl_eq ?_ | refine sl_eq ?_ ?_ ?_ | refine ptr_eq ?_ ?_ ?_ | refine agg_eq ?_ | refine es_cons ?_ ?_ | refine row_cons ?_ ?_)
                        all_goals (first | rfl | (rw [(keysOf_one n.N p).1]; rfl) | skip)
                      case hst =>
                        first | trivial | omega | (simp; done) | (simp; omega)
                    rintro mm ee ss kk ⟨i, g4, v4, g, v, rfl, rfl, rfl, hI⟩
                    generalize hQl2 : thenQ _ _ = Ql2
                    refine AW.seq fun K67 hK67 => ?_
                    -- region 32
                    refine AW.regionK 0 (fun _ => none) [1, 2, 3, 4, 13, 15, 92, 93, 94, 125, 126, 127, 128] [4, 91] ?_
                    simp only [go_sem, reduceIte, reduceCtorEq, Nat.reduceAdd, Nat.reduceMul, Nat.reduceEqDiff, Nat.reduceLT, Nat.reduceLeDiff, Nat.reduceSub, Nat.reducePow, Nat.reduceBEq, Int.reduceToNat, List.reduceReplicate, lists_len]
                    repeat with_reducible refine cj ?_ ?_
                    all_goals try first | omega
                    refine hK67 _ _ _ ?_; clear hK67
                    refine AW.seq fun K68 hK68 => ?_
                    -- cond 13
                    refine AW.cond rfl (by simp only [go_sem, reduceIte, reduceCtorEq, Nat.reduceAdd, Nat.reduceMul, Nat.reduceEqDiff, Nat.reduceLT, Nat.reduceLeDiff, Nat.reduceSub, Nat.reducePow, Nat.reduceBEq, Int.reduceToNat, List.reduceReplicate]) ?_ ?_
                    · intro hb
                      try simp only [hB, decide_eq_true_eq, decide_eq_false_iff_not] at hb
                      obtain ⟨x, hx⟩ := getI (l := p) (j := i) (by omega)
                      have hgx := ints_get hx
                      have hxr := hpok.rng x (List.mem_of_getElem? hx)
                      have hxd := getD_of hx 0
                      have hnc : ((p.take i).any fun y => decide (x = y)) = false := by
                        rw [List.any_eq_false]; intro y hy hxy
                        simp only [decide_eq_true_eq] at hxy
                        subst hxy
                        obtain ⟨h1, h2⟩ := List.getElem?_eq_some_iff.1 hx
                        rw [List.mem_take_iff_getElem] at hy
                        obtain ⟨k, hk, hkx⟩ := hy
                        have := (List.getElem_inj (i := k) (j := i) (h₀ := by omega) (h₁ := h1) hpok.nd).1 (by rw [hkx, h2])
                        omega
                      have hct := hct (p.take i) x (by rw [List.length_take]; omega)
                      rw [hnc] at hct
                      have hKl := keysOf_le n.N (p.take i)
                      rw [List.length_take] at hKl
                      have hUb := addKeys_bnd hU0 (keysOf n.N (p.take i))
                      have hUl2 : (addKeys U (keysOf n.N (p.take i))).length = M := by rw [addKeys_len, hUl]
                      refine AW.skip ?_
                      refine hK68 _ _ _ ?_; clear hK68
                      refine AW.seq fun K69 hK69 => ?_
                      refine AW.block ?_
                      refine AW.seq fun K70 hK70 => ?_
                      -- region 33
                      refine AW.regionK 0 (fun _ => none) [1, 2, 3, 4, 13, 15, 16, 17, 92, 93, 94, 125, 126, 127] [4, 91] ?_
                      simp only [go_sem, reduceIte, reduceCtorEq, Nat.reduceAdd, Nat.reduceMul, Nat.reduceEqDiff, Nat.reduceLT, Nat.reduceLeDiff, Nat.reduceSub, Nat.reducePow, Nat.reduceBEq, Int.reduceToNat, List.reduceReplicate, lists_len, hgx]
                      repeat with_reducible refine cj ?_ ?_
                      all_goals try first | omega
                      refine hK70 _ _ _ ?_; clear hK70
                      refine AW.seq fun K71 hK71 => ?_
                      refine AW.seq fun K72 hK72 => ?_
                      -- region 34
                      refine AW.regionK 0 (fun ii => if ii = 13 then some (.reads false (.bool false)) else none) [1, 2, 3, 4, 13, 15, 16, 17, 92, 93, 94, 125, 126, 127, 146] [4, 91] ?_
                      simp only [go_sem, reduceIte, reduceCtorEq, Nat.reduceAdd, Nat.reduceMul, Nat.reduceEqDiff, Nat.reduceLT, Nat.reduceLeDiff, Nat.reduceSub, Nat.reducePow, Nat.reduceBEq, Int.reduceToNat, List.reduceReplicate, lists_len]
                      repeat with_reducible refine cj ?_ ?_
                      all_goals try first | (first | (intro hh; exact ⟨hh, hct⟩) | (intro hh; (repeat' apply And.intro) <;> first | exact hh | omega)) | (intros; (repeat' apply And.intro) <;> first | assumption | (first | (intro hh; exact ⟨hh, hct⟩) | (intro hh; (repeat' apply And.intro) <;> first | exact hh | omega))) | omega | exact ent (by kernel_rfl) | (intro hgd; exact absurd hgd (by decide)) | rfl | (simp only [go_sem, reduceIte, reduceCtorEq, Nat.reduceAdd, Nat.reduceMul, Nat.reduceEqDiff, Nat.reduceLT, Nat.reduceLeDiff, Nat.reduceSub, Nat.reducePow, Nat.reduceBEq, Int.reduceToNat, List.reduceReplicate, lists_len]; done) | (intro _hgd; simp_all [go_sem]; done)
                      refine hK72 _ _ _ ?_; clear hK72
                      -- cond 14
                      refine AW.cond rfl (by simp only [go_sem, reduceIte, reduceCtorEq, Nat.reduceAdd, Nat.reduceMul, Nat.reduceEqDiff, Nat.reduceLT, Nat.reduceLeDiff, Nat.reduceSub, Nat.reducePow, Nat.reduceBEq, Int.reduceToNat, List.reduceReplicate]) ?_ ?_
                      · intro hb
                        try simp only [hB, decide_eq_true_eq, decide_eq_false_iff_not] at hb
                        exfalso; rcases hb with hb | hb <;> first | omega | (simp at hb; done) | (simp at hb; omega)
                      · intro hb
                        try simp only [hB, decide_eq_true_eq, decide_eq_false_iff_not] at hb
                        refine AW.skip ?_
                        refine hK71 _ _ _ ?_; clear hK71
                        refine AW.seq fun K73 hK73 => ?_
                        -- region 36
                        refine AW.regionK 0 (fun _ => none) [1, 2, 3, 4, 13, 15, 16, 17, 92, 93, 94, 125, 126, 127, 148] [4, 91] ?_
                        simp only [go_sem, reduceIte, reduceCtorEq, Nat.reduceAdd, Nat.reduceMul, Nat.reduceEqDiff, Nat.reduceLT, Nat.reduceLeDiff, Nat.reduceSub, Nat.reducePow, Nat.reduceBEq, Int.reduceToNat, List.reduceReplicate, lists_len]
                        repeat with_reducible refine cj ?_ ?_
                        all_goals try first | omega
                        refine hK73 _ _ _ ?_; clear hK73
                        -- cond 15
                        refine AW.cond rfl (by simp only [go_sem, reduceIte, reduceCtorEq, Nat.reduceAdd, Nat.reduceMul, Nat.reduceEqDiff, Nat.reduceLT, Nat.reduceLeDiff, Nat.reduceSub, Nat.reducePow, Nat.reduceBEq, Int.reduceToNat, List.reduceReplicate]) ?_ ?_
                        · intro hb
                          try simp only [hB, decide_eq_true_eq, decide_eq_false_iff_not] at hb
                          have hkt := keysOf_take n.N p (i := i) (by omega) (by omega)
                          rw [hxd] at hkt
                          have hg1 := ints_getD (l := p) (i := i - 1) (by omega)
                          have hyr := hpok.rng (p.getD (i - 1) 0) (mem_getD (by omega) 0)
                          have hit : ((i : Int) - 1).toNat = i - 1 := by omega
                          generalize p.getD (i - 1) 0 = y at *
                          have hkr := key_lt hyr.1 hyr.2 hxr.1 hxr.2
                          have hyN : 0 ≤ y * n.N ∧ y * n.N ≤ 3600 := ⟨Int.mul_nonneg hyr.1 (by omega), by omega⟩
                          have hgU := ints_getD (l := addKeys U (keysOf n.N (p.take i))) (i := (y * n.N + x).toNat) (by omega)
                          have hUq := hUb (y * n.N + x).toNat
                          have hUs : addKeys U (keysOf n.N (p.take (i + 1))) = (addKeys U (keysOf n.N (p.take i))).set (y * n.N + x).toNat ((addKeys U (keysOf n.N (p.take i))).getD (y * n.N + x).toNat 0 + 1) := by rw [hkt, addKeys_app]; rfl
                          generalize addKeys U (keysOf n.N (p.take i)) = V at *
                          -- region 37
                          refine AW.regionD mixed 0 (fun _ => none) [1, 2, 3, 4, 13, 15, 92, 93, 94, 125, 126, 127] [4, 91] ?_
                          simp only [go_sem, reduceIte, reduceCtorEq, Nat.reduceAdd, Nat.reduceMul, Nat.reduceEqDiff, Nat.reduceLT, Nat.reduceLeDiff, Nat.reduceSub, Nat.reducePow, Nat.reduceBEq, Int.reduceToNat, List.reduceReplicate, lists_len, hit, hg1, hgU]
                          repeat with_reducible refine cj ?_ ?_
                          all_goals try first | omega | exact chk (by kernel_rfl)
                          refine hK69 _ _ _ ?_; clear hK69
                          -- region 38
                          refine AW.regionK 0 (fun _ => none) [1, 2, 3, 4, 13, 15, 92, 93, 94, 125, 126, 127] [4, 91] ?_
                          simp only [go_sem, reduceIte, reduceCtorEq, Nat.reduceAdd, Nat.reduceMul, Nat.reduceEqDiff, Nat.reduceLT, Nat.reduceLeDiff, Nat.reduceSub, Nat.reducePow, Nat.reduceBEq, Int.reduceToNat, List.reduceReplicate, lists_len]
                          repeat with_reducible refine cj ?_ ?_
                          all_goals try first | omega
                          rw [← hQl2]
                          change Exists _
                          refine ⟨_, ?hm, i + 1, ?_, ?_, ?_, ?_, rfl, ?henv, ?hstore, ?hst⟩
                          case henv =>
                            repeat' (first | rfl | refine env_cons ?_ ?_ | refine st_cons ?_ ?_ ?_ ?_ | refine int_eq ?_ | refine bool_eq ?_ | refine rsl_eq ?_ | refine osl_eq ?_ | refine sl_eq ?_ ?_ ?_ | refine ptr_eq ?_ ?_ ?_ | refine agg_eq ?_ | refine es_cons ?_ ?_ | refine row_cons ?_ ?_)
                            all_goals (first | (simp; done) | omega | (simp; omega))
                          case hstore =>
                            repeat' (first | rfl | refine env_cons ?_ ?_ | refine st_cons ?_ ?_ ?_ ?_ | refine int_eq ?_ | refine bool_eq ?_ | refine rsl_eq ?_ | refine osl_eq ?_ | refine sl_eq ?_ ?_ ?_ | refine ptr_eq ?_ ?_ ?_ | refine agg_eq ?_ | refine es_cons ?_ ?_ | refine row_cons ?_ ?_)
                            all_goals (rw [hUs])
                          case hst =>
                            first | trivial | omega | (simp; done) | (simp; omega)
                          case hm => omega
                        · intro hb
                          try simp only [hB, decide_eq_true_eq, decide_eq_false_iff_not] at hb
                          have hi0 : i = 0 := by omega
                          have hUs : addKeys U (keysOf n.N (p.take (i + 1))) = addKeys U (keysOf n.N (p.take i)) := by rw [hi0, (keysOf_one n.N p).1, (keysOf_one n.N p).2]
                          refine AW.skip ?_
                          refine hK69 _ _ _ ?_; clear hK69
                          -- region 38
                          refine AW.regionK 0 (fun _ => none) [1, 2, 3, 4, 13, 15, 92, 93, 94, 125, 126, 127] [4, 91] ?_
                          simp only [go_sem, reduceIte, reduceCtorEq, Nat.reduceAdd, Nat.reduceMul, Nat.reduceEqDiff, Nat.reduceLT, Nat.reduceLeDiff, Nat.reduceSub, Nat.reducePow, Nat.reduceBEq, Int.reduceToNat, List.reduceReplicate, lists_len]
                          repeat with_reducible refine cj ?_ ?_
                          all_goals try first | omega
                          rw [← hQl2]
                          change Exists _
                          refine ⟨_, ?hm, i + 1, ?_, ?_, ?_, ?_, rfl, ?henv, ?hstore, ?hst⟩
                          case henv =>
                            repeat' (first | rfl | refine env_cons ?_ ?_ | refine st_cons ?_ ?_ ?_ ?_ | refine int_eq ?_ | refine bool_eq ?_ | refine rsl_eq ?_ | refine osl_eq ?_ | refine sl_eq ?_ ?_ ?_ | refine ptr_eq ?_ ?_ ?_ | refine agg_eq ?_ | refine es_cons ?_ ?_ | refine row_cons ?_ ?_)
                            all_goals (first | (simp; done) | omega | (simp; omega))
                          case hstore =>
                            repeat' (first | rfl | refine env_cons ?_ ?_ | refine st_cons ?_ ?_ ?_ ?_ | refine int_eq ?_ | refine bool_eq ?_ | refine rsl_eq ?_ | refine osl_eq ?_ | refine sl_eq ?_ ?_ ?_ | refine ptr_eq ?_ ?_ ?_ | refine agg_eq ?_ | refine es_cons ?_ ?_ | refine row_cons ?_ ?_)
                            all_goals (rw [hUs])
                          case hst =>
                            first | trivial | omega | (simp; done) | (simp; omega)
                          case hm => omega
                    · intro hb
                      try simp only [hB, decide_eq_true_eq, decide_eq_false_iff_not] at hb
                      have hip : i = p.length := by omega
                      subst hip
                      rw [List.take_of_length_le (Nat.le_refl _)] at *
                      refine AW.keep [1, 2, 3, 4, 13, 92, 93, 94] [4, 91] ?_
                      try simp only [go_sem, reduceIte, reduceCtorEq, Nat.reduceAdd, Nat.reduceMul, Nat.reduceEqDiff, Nat.reduceLT, Nat.reduceLeDiff, Nat.reduceSub, Nat.reducePow, Nat.reduceBEq, Int.reduceToNat, List.reduceReplicate]
                      refine AW.exit ?_
                      rw [← hQl2]
                      refine hK62 _ _ _ ?_; clear hK62
                      -- region 39
                      refine AW.regionK 0 (fun _ => none) [1, 2, 3, 4, 13, 92, 93, 94] [4, 91] ?_
                      simp only [go_sem, reduceIte, reduceCtorEq, Nat.reduceAdd, Nat.reduceMul, Nat.reduceEqDiff, Nat.reduceLT, Nat.reduceLeDiff, Nat.reduceSub, Nat.reducePow, Nat.reduceBEq, Int.reduceToNat, List.reduceReplicate, lists_len]
                      repeat with_reducible refine cj ?_ ?_
                      all_goals try first | omega
                      rw [← hQl1]
                      change Exists _
                      refine ⟨_, ?hm, j + 1, ?_, ?_, ?_, ?_, rfl, ?henv, ?hstore, ?hst⟩
                      case henv =>
                        repeat' (first | rfl | refine env_cons ?_ ?_ | refine st_cons ?_ ?_ ?_ ?_ | refine int_eq ?_ | refine bool_eq ?_ | refine rsl_eq ?_ | refine osl_eq ?_ | refine sl_eq ?_ ?_ ?_ | refine ptr_eq ?_ ?_ ?_ | refine agg_eq ?_ | refine es_cons ?_ ?_ | refine row_cons ?_ ?_)
                        all_goals (first | (simp; done) | omega | (simp; omega))
                      case hstore =>
                        repeat' (first | rfl | refine env_cons ?_ ?_ | refine st_cons ?_ ?_ ?_ ?_ | refine int_eq ?_ | refine bool_eq ?_ | refine rsl_eq ?_ | refine osl_eq ?_ | refine sl_eq ?_ ?_ ?_ | refine ptr_eq ?_ ?_ ?_ | refine agg_eq ?_ | refine es_cons ?_ ?_ | refine row_cons ?_ ?_)
                        all_goals (rw [hUn])
                      case hst =>
                        first | trivial | omega | (simp; done) | (simp; omega)
                      case hm => omega
                · intro hb
                  try simp only [hB, decide_eq_true_eq, decide_eq_false_iff_not] at hb
                  have hjp : j = ps.length := by omega
                  subst hjp
                  have hU0 := addKeys_bnd hz0 (kAll n.N ps)
                  have hkl := kAll_le n.N (B := 60) ps (fun p hp => by have := (hpo p hp).long; omega)
                  have hUl : (addKeys (List.replicate M 0) (kAll n.N ps)).length = M := by rw [addKeys_len]; simp
                  have hneg := used_neg (fl := fl) M hcn
                  rw [List.take_of_length_le (Nat.le_refl _)]
                  have hsb := fun j => subE_bnd n (U := addKeys (List.replicate M 0) (kAll n.N ps)) (B := 12000) (by decide) (fun q => by have := hU0 q; omega) hflb j
                  generalize hU : addKeys (List.replicate M 0) (kAll n.N ps) = U at *
                  refine AW.keep [3, 4, 13] [4, 91] ?_
                  try simp only [go_sem, reduceIte, reduceCtorEq, Nat.reduceAdd, Nat.reduceMul, Nat.reduceEqDiff, Nat.reduceLT, Nat.reduceLeDiff, Nat.reduceSub, Nat.reducePow, Nat.reduceBEq, Int.reduceToNat, List.reduceReplicate]
                  refine AW.exit ?_
                  rw [← hQl1]
                  refine hK58 _ _ _ ?_; clear hK58
                  refine AW.seq fun K74 hK74 => ?_
                  refine AW.seq fun K75 hK75 => ?_
                  -- region 40
                  refine AW.regionK 0 (fun _ => none) [3, 4, 13, 167, 168, 169] [4, 91] ?_
                  simp only [go_sem, reduceIte, reduceCtorEq, Nat.reduceAdd, Nat.reduceMul, Nat.reduceEqDiff, Nat.reduceLT, Nat.reduceLeDiff, Nat.reduceSub, Nat.reducePow, Nat.reduceBEq, Int.reduceToNat, List.reduceReplicate, lists_len]
                  repeat with_reducible refine cj ?_ ?_
                  all_goals try first | omega
                  refine hK75 _ _ _ ?_; clear hK75
                  refine AW.block ?_
                  -- loop 3
                  refine AW.loopE (fun mm ee ss kk => ∃ (j g4 v4 g v : Nat), n.E.length - j = mm ∧ ee = [(3, .rsl 1 (ints fl)), (4, .ptr ⟨4, g4, none⟩ 0 0), (13, .sl ⟨91, g, none⟩ 0 M none), (167, .rsl 3 (n.E.map edgeV)), (168, .int .i64 n.E.length), (169, .int .i64 (j : Nat))] ∧ ss = [(4, some ⟨g4, v4, 2, [[.int .i64 n.N, .rsl 3 (n.E.map edgeV)]]⟩), (91, some ⟨g, v, 1, ints (subE n fl U j)⟩)] ∧ (j ≤ n.E.length)) ?_ ?_
                  · refine ⟨_, 0, ?_, ?_, ?_, ?_, rfl, ?henv, ?hstore, ?hst⟩
                    case henv =>
                      repeat' (first | rfl | refine env_cons ?_ ?_ | refine st_cons ?_ ?_ ?_ ?_ | refine int_eq ?_ | refine bool_eq ?_ | refine rsl_eq ?_ | refine osl_eq ?_ | refine sl_eq ?_ ?_ ?_ | refine ptr_eq ?_ ?_ ?_ | refine agg_eq ?_ | refine es_cons ?_ ?_ | refine row_cons ?_ ?_)
                      all_goals (first | (simp; done) | omega | (simp; omega))
                    case hstore =>
                      repeat' (first | rfl | refine env_cons ?_ ?_ | refine st_cons ?_ ?_ ?_ ?_ | refine int_eq ?_ | refine bool_eq ?_ | refine rsl_eq ?_ | refine osl_eq ?_ | refine sl_eq ?_ ?_ ?_ | refine ptr_eq ?_ ?_ ?_ | refine agg_eq ?_ | refine es_cons ?_ ?_ | refine row_cons ?_ ?_)
                      all_goals (first | (simp; done) | omega | (simp; omega))
                    case hst =>
                      first | trivial | omega | (simp; done) | (simp; omega)
                  rintro mm ee ss kk ⟨j, g4, v4, g, v, rfl, rfl, rfl, hI⟩
                  generalize hQl3 : thenQ _ _ = Ql3
                  refine AW.seq fun K76 hK76 => ?_
                  -- region 41
                  refine AW.regionK 0 (fun _ => none) [3, 4, 13, 167, 168, 169, 170] [4, 91] ?_
                  simp only [go_sem, reduceIte, reduceCtorEq, Nat.reduceAdd, Nat.reduceMul, Nat.reduceEqDiff, Nat.reduceLT, Nat.reduceLeDiff, Nat.reduceSub, Nat.reducePow, Nat.reduceBEq, Int.reduceToNat, List.reduceReplicate, lists_len]
                  repeat with_reducible refine cj ?_ ?_
                  all_goals try first | omega
                  refine hK76 _ _ _ ?_; clear hK76
                  refine AW.seq fun K77 hK77 => ?_
                  -- cond 16
                  refine AW.cond rfl (by simp only [go_sem, reduceIte, reduceCtorEq, Nat.reduceAdd, Nat.reduceMul, Nat.reduceEqDiff, Nat.reduceLT, Nat.reduceLeDiff, Nat.reduceSub, Nat.reducePow, Nat.reduceBEq, Int.reduceToNat, List.reduceReplicate]) ?_ ?_
                  · intro hb
                    try simp only [hB, decide_eq_true_eq, decide_eq_false_iff_not] at hb
                    obtain ⟨x, hx⟩ := getI (l := n.E) (j := j) (by omega)
                    have hxv := getV (f := edgeV) hx
                    have hea := eAt_of hx
                    have hxr := valid_edge hv hx
                    have hgf := ints_getD (l := fl) (i := j) (by omega)
                    have hfj := hflb j
                    have hkr := key_lt hxr.1 hxr.2.1 hxr.2.2.1 hxr.2.2.2.1
                    have hyN : 0 ≤ x.fr * n.N ∧ x.fr * n.N ≤ 3600 := ⟨Int.mul_nonneg hxr.1 (by omega), by omega⟩
                    have hsl := subE_len n fl U j
                    have hgU := ints_getD (l := subE n fl U j) (i := (x.fr * n.N + x.to).toNat) (by omega)
                    have hUq := hsb j (x.fr * n.N + x.to).toNat
                    have hUs : subE n fl U (j + 1) = (subE n fl U j).set (x.fr * n.N + x.to).toNat ((subE n fl U j).getD (x.fr * n.N + x.to).toNat 0 - fl.getD j 0) := by rw [subE, hea]; unfold incK keyE; rw [Int.sub_eq_add_neg]
                    generalize subE n fl U j = V at *
                    refine AW.skip ?_
                    refine hK77 _ _ _ ?_; clear hK77
                    refine AW.seq fun K78 hK78 => ?_
                    refine AW.block ?_
                    refine AW.seq fun K79 hK79 => ?_
                    -- region 42
                    refine AW.regionK 0 (fun _ => none) [3, 4, 13, 18, 19, 167, 168, 169] [4, 19, 91] ?_
                    simp only [go_sem, reduceIte, reduceCtorEq, Nat.reduceAdd, Nat.reduceMul, Nat.reduceEqDiff, Nat.reduceLT, Nat.reduceLeDiff, Nat.reduceSub, Nat.reducePow, Nat.reduceBEq, Int.reduceToNat, List.reduceReplicate, lists_len, hxv, edgeV]
                    repeat with_reducible refine cj ?_ ?_
                    all_goals try first | omega
                    refine hK79 _ _ _ ?_; clear hK79
                    -- region 43
                    refine AW.regionD mixed 0 (fun _ => none) [3, 4, 13, 167, 168, 169] [4, 91] ?_
                    simp only [go_sem, reduceIte, reduceCtorEq, Nat.reduceAdd, Nat.reduceMul, Nat.reduceEqDiff, Nat.reduceLT, Nat.reduceLeDiff, Nat.reduceSub, Nat.reducePow, Nat.reduceBEq, Int.reduceToNat, List.reduceReplicate, lists_len, hgf, hgU]
                    repeat with_reducible refine cj ?_ ?_
                    all_goals try first | omega | exact chk (by kernel_rfl)
                    refine hK78 _ _ _ ?_; clear hK78
                    -- region 44
                    refine AW.regionK 0 (fun _ => none) [3, 4, 13, 167, 168, 169] [4, 91] ?_
                    simp only [go_sem, reduceIte, reduceCtorEq, Nat.reduceAdd, Nat.reduceMul, Nat.reduceEqDiff, Nat.reduceLT, Nat.reduceLeDiff, Nat.reduceSub, Nat.reducePow, Nat.reduceBEq, Int.reduceToNat, List.reduceReplicate, lists_len]
                    repeat with_reducible refine cj ?_ ?_
                    all_goals try first | omega
                    rw [← hQl3]
                    change Exists _
                    refine ⟨_, ?hm, j + 1, ?_, ?_, ?_, ?_, rfl, ?henv, ?hstore, ?hst⟩
                    case henv =>
                      repeat' (first | rfl | refine env_cons ?_ ?_ | refine st_cons ?_ ?_ ?_ ?_ | refine int_eq ?_ | refine bool_eq ?_ | refine rsl_eq ?_ | refine osl_eq ?_ | refine sl_eq ?_ ?_ ?_ | refine ptr_eq ?_ ?_ ?_ | refine agg_eq ?_ | refine es_cons ?_ ?_ | refine row_cons ?_ ?_)
                      all_goals (first | (simp; done) | omega | (simp; omega))
                    case hstore =>
                      repeat' (first | rfl | refine env_cons ?_ ?_ | refine st_cons ?_ ?_ ?_ ?_ | refine int_eq ?_ | refine bool_eq ?_ | refine rsl_eq ?_ | refine osl_eq ?_ | refine sl_eq ?_ ?_ ?_ | refine ptr_eq ?_ ?_ ?_ | refine agg_eq ?_ | refine es_cons ?_ ?_ | refine row_cons ?_ ?_)
                      all_goals (rw [hUs])
                    case hst =>
                      first | trivial | omega | (simp; done) | (simp; omega)
                    case hm => omega
                  · intro hb
                    try simp only [hB, decide_eq_true_eq, decide_eq_false_iff_not] at hb
                    have hj : j = n.E.length := by omega
                    subst hj
                    have hsl := subE_len n fl U n.E.length
                    have hcp := hcp (subE n fl U n.E.length) (by omega)
                    have hany : (subE n fl U n.E.length).any (fun y => decide (0 < y)) = false := by
                      rw [List.any_eq_false]; intro y hy hxy
                      obtain ⟨q, hq1, hq2⟩ := List.mem_iff_getElem.1 hy
                      have := hneg q
                      rw [List.getD_eq_getElem?_getD, List.getElem?_eq_getElem hq1, hq2] at this
                      simp at this hxy; omega
                    rw [hany] at hcp
                    have htk : (ints (subE n fl U n.E.length)).take M = ints (subE n fl U n.E.length) := List.take_of_length_le (by rw [ints_len]; omega)
                    refine AW.keep [13] [91] ?_
                    try simp only [go_sem, reduceIte, reduceCtorEq, Nat.reduceAdd, Nat.reduceMul, Nat.reduceEqDiff, Nat.reduceLT, Nat.reduceLeDiff, Nat.reduceSub, Nat.reducePow, Nat.reduceBEq, Int.reduceToNat, List.reduceReplicate]
                    refine AW.exit ?_
                    rw [← hQl3]
                    refine hK74 _ _ _ ?_; clear hK74
                    refine AW.seq fun K80 hK80 => ?_
                    -- region 45
                    refine AW.regionK 0 (fun ii => if ii = 1 then some (.reads true (.bool false)) else none) [8] [] ?_
                    simp only [go_sem, reduceIte, reduceCtorEq, Nat.reduceAdd, Nat.reduceMul, Nat.reduceEqDiff, Nat.reduceLT, Nat.reduceLeDiff, Nat.reduceSub, Nat.reducePow, Nat.reduceBEq, Int.reduceToNat, List.reduceReplicate, lists_len, htk]
                    repeat with_reducible refine cj ?_ ?_
                    all_goals try first | (exact Reads.flat hcp rfl) | omega | exact ent (by kernel_rfl)
                    refine hK80 _ _ _ ?_; clear hK80
                    refine AW.ret ?_
                    rw [← hQr]
                    simp only [go_sem, reduceIte, reduceCtorEq, Nat.reduceAdd, Nat.reduceMul, Nat.reduceEqDiff, Nat.reduceLT, Nat.reduceLeDiff, Nat.reduceSub, Nat.reducePow, Nat.reduceBEq, Int.reduceToNat, List.reduceReplicate, lists_len]
                    exact Wk.refl _
      -- cond 3
      refine AW.cond rfl (by simp only [go_sem, reduceIte, reduceCtorEq, Nat.reduceAdd, Nat.reduceMul, Nat.reduceEqDiff, Nat.reduceLT, Nat.reduceLeDiff, Nat.reduceSub, Nat.reducePow, Nat.reduceBEq, Int.reduceToNat, List.reduceReplicate]) ?_ ?_
      · intro hb
        try simp only [hB, decide_eq_true_eq, decide_eq_false_iff_not] at hb
        have hq : faultP n s t fl = (1, 0) := by unfold faultP; rw [hb]; rfl
        -- region 11
        refine AW.regionK 0 (fun _ => none) [1, 2, 3, 4, 9, 10] [4] ?_
        simp only [go_sem, reduceIte, reduceCtorEq, Nat.reduceAdd, Nat.reduceMul, Nat.reduceEqDiff, Nat.reduceLT, Nat.reduceLeDiff, Nat.reduceSub, Nat.reducePow, Nat.reduceBEq, Int.reduceToNat, List.reduceReplicate, lists_len]
        repeat with_reducible refine cj ?_ ?_
        all_goals try first | omega
        exact hJ3 _ _ _ _ hq _
      · intro hb
        try simp only [hB, decide_eq_true_eq, decide_eq_false_iff_not] at hb
        have hv := hb
        refine AW.seq fun K81 hK81 => ?_
        -- region 12
        refine AW.regionK 0 (fun ii => if ii = 3 then some (.reads false (.bool (endsB n s t))) else none) [1, 2, 3, 4, 9, 10, 40] [4] ?_
        simp only [go_sem, reduceIte, reduceCtorEq, Nat.reduceAdd, Nat.reduceMul, Nat.reduceEqDiff, Nat.reduceLT, Nat.reduceLeDiff, Nat.reduceSub, Nat.reducePow, Nat.reduceBEq, Int.reduceToNat, List.reduceReplicate, lists_len]
        repeat with_reducible refine cj ?_ ?_
        all_goals try first | (exact hend) | omega | exact ent (by kernel_rfl)
        refine hK81 _ _ _ ?_; clear hK81
        -- cond 4
        refine AW.cond rfl (by simp only [go_sem, reduceIte, reduceCtorEq, Nat.reduceAdd, Nat.reduceMul, Nat.reduceEqDiff, Nat.reduceLT, Nat.reduceLeDiff, Nat.reduceSub, Nat.reducePow, Nat.reduceBEq, Int.reduceToNat, List.reduceReplicate]) ?_ ?_
        · intro hb
          try simp only [hB, decide_eq_true_eq, decide_eq_false_iff_not] at hb
          have hq : faultP n s t fl = (2, 0) := by unfold faultP; rw [hv, hb]; rfl
          -- region 13
          refine AW.regionK 0 (fun _ => none) [1, 2, 3, 4, 9, 10] [4] ?_
          simp only [go_sem, reduceIte, reduceCtorEq, Nat.reduceAdd, Nat.reduceMul, Nat.reduceEqDiff, Nat.reduceLT, Nat.reduceLeDiff, Nat.reduceSub, Nat.reducePow, Nat.reduceBEq, Int.reduceToNat, List.reduceReplicate, lists_len]
          repeat with_reducible refine cj ?_ ?_
          all_goals try first | omega
          exact hJ3 _ _ _ _ hq _
        · intro hb
          try simp only [hB, decide_eq_true_eq, decide_eq_false_iff_not] at hb
          have he := hb
          have hz := valid_size hv
          have hvl2 : flowB n s t fl = true → _ := fun h => hvl hz.2.2 ((flowB_iff (by omega)).1 h).len (fun i => by have := flow_bnd hv ((flowB_iff (by omega)).1 h) i; omega)
          have hflow := hflow hv
          refine AW.seq fun K82 hK82 => ?_
          -- region 14
          refine AW.regionK 0 (fun ii => if ii = 4 then some (.reads false (.bool (flowB n s t fl))) else if ii = 10 then some (.reads false (.int .i64 (bal n fl s))) else none) [1, 2, 3, 4, 9, 10, 46] [4] ?_
          simp only [go_sem, reduceIte, reduceCtorEq, Nat.reduceAdd, Nat.reduceMul, Nat.reduceEqDiff, Nat.reduceLT, Nat.reduceLeDiff, Nat.reduceSub, Nat.reducePow, Nat.reduceBEq, Int.reduceToNat, List.reduceReplicate, lists_len]
          repeat with_reducible refine cj ?_ ?_
          all_goals try first | (first | exact hflow | (intro hh; refine ⟨hh, ?_⟩; simp at hh; exact hvl2 hh)) | (intros; (repeat' apply And.intro) <;> first | assumption | (first | exact hflow | (intro hh; refine ⟨hh, ?_⟩; simp at hh; exact hvl2 hh))) | omega | exact ent (by kernel_rfl) | (intro hgd; exact absurd hgd (by decide)) | rfl | (simp only [go_sem, reduceIte, reduceCtorEq, Nat.reduceAdd, Nat.reduceMul, Nat.reduceEqDiff, Nat.reduceLT, Nat.reduceLeDiff, Nat.reduceSub, Nat.reducePow, Nat.reduceBEq, Int.reduceToNat, List.reduceReplicate, lists_len]; done) | (intro _hgd; simp_all [go_sem]; done)
          refine hK82 _ _ _ ?_; clear hK82
          -- cond 5
          refine AW.cond rfl (by simp only [go_sem, reduceIte, reduceCtorEq, Nat.reduceAdd, Nat.reduceMul, Nat.reduceEqDiff, Nat.reduceLT, Nat.reduceLeDiff, Nat.reduceSub, Nat.reducePow, Nat.reduceBEq, Int.reduceToNat, List.reduceReplicate]) ?_ ?_
          · intro hb
            try simp only [hB, decide_eq_true_eq, decide_eq_false_iff_not] at hb
            have hq : faultP n s t fl = (17, 0) := by unfold faultP; rw [hv, he]; simp only [Bool.not_true, Bool.false_eq_true, if_false]; rw [if_pos (by revert hb; cases flowB n s t fl <;> simp)]
            -- region 15
            refine AW.regionK 0 (fun _ => none) [1, 2, 3, 4, 9, 10] [4] ?_
            simp only [go_sem, reduceIte, reduceCtorEq, Nat.reduceAdd, Nat.reduceMul, Nat.reduceEqDiff, Nat.reduceLT, Nat.reduceLeDiff, Nat.reduceSub, Nat.reducePow, Nat.reduceBEq, Int.reduceToNat, List.reduceReplicate, lists_len]
            repeat with_reducible refine cj ?_ ?_
            all_goals try first | omega
            exact hJ3 _ _ _ _ hq _
          · intro hb
            try simp only [hB, decide_eq_true_eq, decide_eq_false_iff_not] at hb
            have hfl : flowB n s t fl = true := by revert hb; cases flowB n s t fl <;> simp
            have hge : 0 ≤ bal n fl s := by rw [hfl] at hb; simp at hb; exact hb
            have hvl3 := hvl2 hfl
            refine AW.seq fun K83 hK83 => ?_
            -- region 7
            refine AW.regionK 0 (fun ii => if ii = 3 then some (.reads false (.int .i64 (bal n fl s))) else none) [1, 2, 3, 4, 9, 10] [4] ?_
            simp only [go_sem, reduceIte, reduceCtorEq, Nat.reduceAdd, Nat.reduceMul, Nat.reduceEqDiff, Nat.reduceLT, Nat.reduceLeDiff, Nat.reduceSub, Nat.reducePow, Nat.reduceBEq, Int.reduceToNat, List.reduceReplicate, lists_len]
            repeat with_reducible refine cj ?_ ?_
            all_goals try first | (exact hvl3) | omega | exact ent (by kernel_rfl)
            refine hK83 _ _ _ ?_; clear hK83
            refine AW.seq fun K84 hK84 => ?_
            -- region 8
            refine AW.regionK 0 (fun _ => none) [1, 2, 3, 4, 9, 10, 35] [4] ?_
            simp only [go_sem, reduceIte, reduceCtorEq, Nat.reduceAdd, Nat.reduceMul, Nat.reduceEqDiff, Nat.reduceLT, Nat.reduceLeDiff, Nat.reduceSub, Nat.reducePow, Nat.reduceBEq, Int.reduceToNat, List.reduceReplicate, lists_len]
            repeat with_reducible refine cj ?_ ?_
            all_goals try first | omega
            refine hK84 _ _ _ ?_; clear hK84
            -- cond 6
            refine AW.cond rfl (by simp only [go_sem, reduceIte, reduceCtorEq, Nat.reduceAdd, Nat.reduceMul, Nat.reduceEqDiff, Nat.reduceLT, Nat.reduceLeDiff, Nat.reduceSub, Nat.reducePow, Nat.reduceBEq, Int.reduceToNat, List.reduceReplicate]) ?_ ?_
            · intro hb
              try simp only [hB, decide_eq_true_eq, decide_eq_false_iff_not] at hb
              have hq : faultP n s t fl = (5, bal n fl s) := by unfold faultP; rw [hv, he, hfl]; simp only [Bool.not_true, Bool.false_eq_true, if_false, Bool.false_or, decide_eq_true_eq]; rw [if_neg (by omega), if_pos hb]
              -- region 9
              refine AW.regionK 0 (fun _ => none) [1, 2, 3, 4, 9, 10] [4] ?_
              simp only [go_sem, reduceIte, reduceCtorEq, Nat.reduceAdd, Nat.reduceMul, Nat.reduceEqDiff, Nat.reduceLT, Nat.reduceLeDiff, Nat.reduceSub, Nat.reducePow, Nat.reduceBEq, Int.reduceToNat, List.reduceReplicate, lists_len]
              repeat with_reducible refine cj ?_ ?_
              all_goals try first | omega
              exact hJ3 _ _ _ _ hq _
            · intro hb
              try simp only [hB, decide_eq_true_eq, decide_eq_false_iff_not] at hb
              have hq : faultP n s t fl = (0, bal n fl s) := by unfold faultP; rw [hv, he, hfl]; simp only [Bool.not_true, Bool.false_eq_true, if_false, Bool.false_or, decide_eq_true_eq]; rw [if_neg (by omega), if_neg (by omega)]
              refine AW.keep [1, 2, 3, 4, 9, 10] [4] ?_
              simp only [go_sem, reduceIte, Nat.reduceEqDiff]
              refine AW.skip ?_
              exact hJ3 _ _ _ _ hq _
end Go.Proofs.F
