/- Lemmas and contracts, part 3: an abstract machine over the model, and the functions that the statement reaches. -/
import Derived.Test.YtmnlkidfcnhhhaaRelationLeastP2
import Derived.KernelRfl
import Derived.Test.YtmnlkidfcnhhhaaProg
set_option linter.unusedVariables false
set_option linter.unusedSimpArgs false
/- A cell's description is replaced by another one that the same value meets; a nil slice in a cell becomes the reference to an empty root. -/
namespace Go.AM

/-- The value at the cell (i, j) of the root pid. -/
def cellAt (x : Cx) (pid sz i j : Nat) (u : Value) : Prop := ∃ b base cs T, x.ρ (pid, none) = some (b, base) ∧ x.w.heap[b]? = some (.cells cs T (0, 0)) ∧ cs[base + i * sz + j]? = some u
theorem StOk.recellG {x : Cx} (h : StOk x) {pid : Nat} {R : Root} {es' : List (List AV)} (hR : sget x.s pid = some R) (hRz : R.sz ≠ mapSz) (hl : es'.length = R.es.length)
    (hes : ∀ i, i < R.es.length → (es'.getD i []).length = (R.es.getD i []).length ∧ ∀ j, (es'.getD i []).getD j .any = (R.es.getD i []).getD j .any ∨
      (notOsl ((R.es.getD i []).getD j .any) ∧ notOsl ((es'.getD i []).getD j .any) ∧ ∀ u, cellAt x pid R.sz i j u → Rel x ((es'.getD i []).getD j .any) u)) :
    Goes x ⟨x.ρ, (pid, some ⟨R.gen, R.ver, R.sz, es'⟩) :: x.s, x.c, x.w, x.F⟩ := by
  have hes2 : ∀ i j, (es'.getD i []).getD j .any = (R.es.getD i []).getD j .any ∨ (notOsl ((R.es.getD i []).getD j .any) ∧ notOsl ((es'.getD i []).getD j .any) ∧ ∀ u, cellAt x pid R.sz i j u → Rel x ((es'.getD i []).getD j .any) u) := fun i j => by
    by_cases hi : i < R.es.length
    · exact (hes i hi).2 j
    · have h1 : es'.getD i [] = [] := getD_out (by omega) _
      have h2 : R.es.getD i [] = [] := getD_out (by omega) _
      rw [h1, h2]; exact .inl rfl
  have hinner : ∀ i o, inner (es'.getD i []) o = inner (R.es.getD i []) o := fun i o => by
    unfold inner
    rcases hes2 i o with e | ⟨n1, n2, _⟩
    · rw [e]
    · generalize (es'.getD i []).getD o .any = a at n2
      generalize (R.es.getD i []).getD o .any = b at n1
      cases a <;> cases b <;> first | rfl | exact n1.elim | exact n2.elim
  have hpc : ∀ π y, pcontent ((pid, some ⟨R.gen, R.ver, R.sz, es'⟩) :: x.s) π = some y → (π = (pid, none) ∧ y = (R.sz, es')) ∨ (π ≠ (pid, none) ∧ pcontent x.s π = some y) := by
    intro π y hy
    obtain ⟨id, sub⟩ := π
    by_cases hid : pid = id
    · subst hid
      rw [pcontent_at] at hy
      cases sub with
      | none => exact .inl ⟨rfl, by simpa using hy.symm⟩
      | some io =>
        obtain ⟨i, o⟩ := io
        refine .inr ⟨by simp, ?_⟩
        rw [pcontent_of_root hR]
        simp only at hy ⊢
        rw [← hinner]; exact hy
    · rw [pcontent_ne hid] at hy
      exact .inr ⟨fun h => hid (by simpa using (congrArg Prod.fst h).symm), hy⟩
  have hpnone : pcontent x.s (pid, none) = some (R.sz, R.es) := by rw [pcontent_of_root hR]
  have hcon : ∀ (r : Ref) sz q, rcontent ((pid, some ⟨R.gen, R.ver, R.sz, es'⟩) :: x.s) r = some (sz, q) → ∃ q0, rcontent x.s r = some (sz, q0) ∧ q0.length = q.length := by
    intro r sz q hc
    by_cases hid : pid = r.id
    · unfold rcontent at hc ⊢
      rw [sget_cons, if_pos hid] at hc
      rw [← hid, hR]
      simp only at hc ⊢
      split at hc
      · rename_i hg
        rw [if_pos hg]
        cases hs : r.sub with
        | none =>
          simp only [hs, Option.some.injEq, Prod.mk.injEq] at hc
          obtain ⟨rfl, rfl⟩ := hc
          exact ⟨R.es, by simp, hl.symm⟩
        | some v =>
          obtain ⟨i, o, v⟩ := v
          simp only [hs] at hc ⊢
          split at hc
          · rename_i hv
            rw [if_pos hv, ← hinner]
            exact ⟨q, hc, rfl⟩
          · cases hc
      · cases hc
    · rw [rcontent_ne hid] at hc
      exact ⟨q, hc, rfl⟩
  generalize hx1 : (⟨x.ρ, (pid, some ⟨R.gen, R.ver, R.sz, es'⟩) :: x.s, x.c, x.w, x.F⟩ : Cx) = x1
  have e1s : x1.s = (pid, some ⟨R.gen, R.ver, R.sz, es'⟩) :: x.s := by rw [← hx1]
  have e1ρ : x1.ρ = x.ρ := by rw [← hx1]
  have e1w : x1.w = x.w := by rw [← hx1]
  have e1c : x1.c = x.c := by rw [← hx1]
  have e1F : x1.F = x.F := by rw [← hx1]
  have old : ∀ π y, pcontent ((pid, some ⟨R.gen, R.ver, R.sz, es'⟩) :: x.s) π = some y → ∃ y', pcontent x.s π = some y' := fun π y h1 => by
    rcases hpc π y h1 with ⟨rfl, rfl⟩ | ⟨_, h3⟩
    · exact ⟨_, hpnone⟩
    · exact ⟨_, h3⟩
  have hown : ∀ b, x1.owned b → x.owned b := by
    rintro b ⟨π, y, base, h1, h2⟩
    rw [e1s] at h1
    rw [e1ρ] at h2
    obtain ⟨y', h3⟩ := old π y h1
    exact ⟨_, _, _, h3, h2⟩
  have hle : x.le x1 := by
    refine ⟨fun k h => by rw [e1c]; exact h, fun b hb => ⟨⟨by rw [e1w]; exact hb.1, fun ho => hb.2.1 (hown b ho), by rw [e1F]; exact hb.2.2⟩, by rw [e1w]⟩, fun r hr sz' q hc => ?_⟩
    rw [e1s] at hc
    obtain ⟨q0, k1, k2⟩ := hcon r sz' q hc
    exact ⟨q0, k1, by omega, by rw [e1ρ], fun _ _ _ => by rw [e1w]⟩
  refine ⟨e1F, hle, ⟨fun π sz' q b base hp hρ => ?_, fun π sz' q hp hρ => ?_, fun π π' y y' b base base' hp hp' hρ hρ' => ?_, fun id R' hR' => ?_, fun π sz' q hp => ?_, fun b hb => ?_, h.gl.mono hle.imm⟩, by rw [e1w]; exact .refl _ _⟩
  · rw [e1s] at hp
    rw [e1ρ] at hρ
    have cell : ∀ (π : Pl) i j a u, CellOk x π i j a u → CellOk x1 π i j a u := fun π i j a u hc => by
      cases a with
      | osl s' q' => exact ⟨hc.1, by rw [e1ρ, e1w]; exact hc.2⟩
      | _ => exact CellOk.of_rel (fun _ _ h => by cases h) ((CellOk.rel (fun _ _ h => by cases h) hc).mono hle)
    rcases hpc π _ hp with ⟨rfl, hy⟩ | ⟨n1, h3⟩
    · simp only [Prod.mk.injEq] at hy
      obtain ⟨rfl, rfl⟩ := hy
      have hrow := h.rows _ _ _ _ _ hpnone hρ
      refine ⟨fun _ => ?_, fun e => absurd e hRz, by rw [e1w]; exact hrow.lt⟩
      obtain ⟨cs, T, k1, k2, k3⟩ := hrow.cells hRz
      refine ⟨cs, T, by rw [e1w]; exact k1, by rw [hl]; exact k2, fun i j hi hj => ?_⟩
      obtain ⟨u, m1, m2⟩ := k3 i j (by omega) hj
      refine ⟨u, m1, ?_⟩
      rcases hes2 i j with h2 | ⟨n1, n2, h3⟩
      · rw [h2]; exact cell _ i j _ u m2
      · have m4 := (h3 u ⟨b, base, cs, T, hρ, k1, m1⟩).mono hle
        generalize (q.getD i []).getD j .any = a at m4 n2
        cases a <;> first | exact n2.elim | exact CellOk.of_rel (fun _ _ h => by cases h) m4
    · have hrow := h.rows _ _ _ _ _ h3 hρ
      refine ⟨fun hsz => ?_, fun hsz => (hrow.map hsz).mono hle (by rw [e1w]), by rw [e1w]; exact hrow.lt⟩
      obtain ⟨cs, T, k1, k2, k3⟩ := hrow.cells hsz
      refine ⟨cs, T, by rw [e1w]; exact k1, k2, fun i j hi hj => ?_⟩
      obtain ⟨u, m1, m2⟩ := k3 i j hi hj
      exact ⟨u, m1, cell _ i j _ u m2⟩
  · rw [e1s] at hp
    rw [e1ρ] at hρ
    rcases hpc π _ hp with ⟨rfl, hy⟩ | ⟨n1, h3⟩
    · simp only [Prod.mk.injEq] at hy
      obtain ⟨rfl, rfl⟩ := hy
      have := h.nils _ _ _ hpnone hρ
      rw [this] at hl
      exact List.length_eq_zero_iff.1 hl
    · exact h.nils _ _ _ h3 hρ
  · rw [e1s] at hp hp'
    rw [e1ρ] at hρ hρ'
    obtain ⟨_, a1⟩ := old _ _ hp
    obtain ⟨_, b1⟩ := old _ _ hp'
    exact h.inj _ _ _ _ _ _ _ a1 b1 hρ hρ'
  · rw [e1s, sget_cons] at hR'
    rw [e1c]
    split at hR'
    · simp only [Option.some.injEq] at hR'; subst hR'; exact h.gens pid R hR
    · exact h.gens id R' hR'
  · rw [e1s] at hp
    rcases hpc π _ hp with ⟨rfl, hy⟩ | ⟨n1, h3⟩
    · simp only [Prod.mk.injEq] at hy
      obtain ⟨rfl, rfl⟩ := hy
      intro _ e he
      obtain ⟨i, hi, rfl⟩ := List.mem_iff_getElem.1 he
      have h1 := (hes i (by omega)).1
      rw [List.getD_eq_getElem?_getD, List.getElem?_eq_getElem hi, List.getD_eq_getElem?_getD, List.getElem?_eq_getElem (by omega)] at h1
      simp only [Option.getD_some] at h1
      rw [h1]
      exact h.lens _ _ _ hpnone hRz _ (List.getElem_mem _)
    · exact h.lens _ _ _ h3
  · rw [e1F] at hb
    obtain ⟨k1, k2⟩ := h.apart b hb
    exact ⟨by rw [e1w]; exact k1, fun ho => k2 (hown b ho)⟩

theorem StOk.cellAt_rel {x : Cx} (h : StOk x) {pid : Nat} {R : Root} (hR : sget x.s pid = some R) (hRz : R.sz ≠ mapSz) {i j : Nat} {u : Value} (hu : cellAt x pid R.sz i j u) (hi : i < R.es.length) (hj : j < R.sz) (n1 : notOsl ((R.es.getD i []).getD j .any)) :
    Rel x ((R.es.getD i []).getD j .any) u := by
  obtain ⟨b, base, cs, T, hρ, k1, m1⟩ := hu
  obtain ⟨cs', T', g1, _, g3⟩ := (h.rows _ _ _ _ _ (show pcontent x.s (pid, none) = some (R.sz, R.es) by rw [pcontent_of_root hR]) hρ).cells hRz
  rw [k1] at g1
  simp only [Option.some.injEq, Obj.cells.injEq] at g1
  obtain ⟨rfl, rfl, _⟩ := g1
  obtain ⟨u', e1, e2⟩ := g3 i j hi hj
  rw [m1] at e1
  obtain rfl := Option.some.inj e1
  generalize (R.es.getD i []).getD j .any = a at e2 n1
  cases a <;> first | exact n1.elim | exact CellOk.rel (fun _ _ h => by cases h) e2

theorem StOk.recell {x : Cx} (h : StOk x) {pid : Nat} {R : Root} {es' : List (List AV)} (hR : sget x.s pid = some R) (hRz : R.sz ≠ mapSz) (hl : es'.length = R.es.length)
    (hes : ∀ i, i < R.es.length → (es'.getD i []).length = (R.es.getD i []).length ∧ ∀ j, (es'.getD i []).getD j .any = (R.es.getD i []).getD j .any ∨
      (notOsl ((R.es.getD i []).getD j .any) ∧ notOsl ((es'.getD i []).getD j .any) ∧ ∀ u, Rel x ((R.es.getD i []).getD j .any) u → Rel x ((es'.getD i []).getD j .any) u)) :
    Goes x ⟨x.ρ, (pid, some ⟨R.gen, R.ver, R.sz, es'⟩) :: x.s, x.c, x.w, x.F⟩ := by
  refine h.recellG hR hRz hl fun i hi => ⟨(hes i hi).1, fun j => ?_⟩
  rcases (hes i hi).2 j with e | ⟨n1, n2, h3⟩
  · exact .inl e
  · have hlen : (R.es.getD i []).length = R.sz := by
      rw [List.getD_eq_getElem?_getD, List.getElem?_eq_getElem hi]
      exact h.lens (pid, none) _ _ (by rw [pcontent_of_root hR]) hRz _ (List.getElem_mem hi)
    by_cases hj : j < R.sz
    · exact .inr ⟨n1, n2, fun u hu => h3 u (h.cellAt_rel hR hRz hu hi hj n1)⟩
    · left
      rw [getD_out (l := es'.getD i []) (by rw [(hes i hi).1, hlen]; omega), getD_out (l := R.es.getD i []) (by rw [hlen]; omega)]

/-- Roots are frozen, and a cell that names them is read through them. -/
def frzCellP (s : Store) (ids : List Nat) (d pid i o : Nat) (K : Store → Prop) : Prop :=
  match sget s pid with
  | some R => ids.contains pid = false ∧ R.sz ≠ mapSz ∧ i < R.es.length ∧ o < R.sz ∧ o < (R.es.getD i []).length ∧ notOsl ((R.es.getD i []).getD o .any) ∧ notOsl (vw (keepS ids s) d ((R.es.getD i []).getD o .any)) ∧
      K ((pid, some ⟨R.gen, R.ver, R.sz, R.es.set i ((R.es.getD i []).set o (vw (keepS ids s) d ((R.es.getD i []).getD o .any)))⟩) :: dropS ids s)
  | none => False
/-- The cell (i, o) of the root pid holds a nil slice: it becomes the reference to a new empty root. -/
def nilCellP (s : Store) (pid i o id sz k : Nat) (K : Store → Prop) : Prop :=
  match sget s pid with
  | some R => match (R.es.getD i []).getD o .any with
    | .nilsl => R.sz ≠ mapSz ∧ sz ≠ mapSz ∧ id ≠ pid ∧ i < R.es.length ∧ o < (R.es.getD i []).length ∧ K ((pid, some ⟨R.gen, R.ver, R.sz, R.es.set i ((R.es.getD i []).set o (.sl ⟨id, k, none⟩ 0 0 none))⟩) :: (id, some ⟨k, k, sz, []⟩) :: s)
    | _ => False
  | _ => False

theorem AW.nilCellK {P : Program} {n : Nat} {c : Code} {Q : AX → Post} {e : Env} {s : Store} {k : Nat} (pid i o id sz : Nat) (h : nilCellP s pid i o id sz k fun s' => AW P n c Q e s' (k + 1)) : AW P n c Q e s k := by
  unfold nilCellP at h
  split at h
  · rename_i R hR
    split at h
    · rename_i hcell
      obtain ⟨hRz, hz0, hne, hi, ho, hK⟩ := h
      intro x0 ρ a w hg hst
      have h1 := hst.ok.reroot k clk_fresh.1 id sz hz0 [] none w (fun i o sz' q e => by simp at e) (by simp) (Nat.le_refl _) (fun _ _ _ => rfl) (fun _ _ => rfl) rfl rfl rfl rfl
      have hR' : sget ((id, some ⟨k, k, sz, []⟩) :: s) pid = some R := by rw [sget_cons, if_neg hne]; exact hR
      have h2 := h1.ok.recell (pid := pid) (R := R) (es' := R.es.set i ((R.es.getD i []).set o (.sl ⟨id, k, none⟩ 0 0 none))) hR' hRz (by simp) (fun i' hi' => by
        by_cases hii : i = i'
        · subst hii
          rw [Go.AM.getD_set_eq hi]
          refine ⟨by simp, fun j => ?_⟩
          by_cases hj : o = j
          · subst hj
            rw [Go.AM.getD_set_eq ho, hcell]
            refine .inr ⟨trivial, trivial, fun u hu => ?_⟩
            obtain ⟨ad, rfl⟩ := hu.nilsl_inv
            refine .sl _ _ _ _ _ _ (by simp) ⟨.inr rfl, by simp⟩ fun sz' es hc => ?_
            have hc := (content_iff.1 hc).1
            simp only [rcontent, sget_cons, if_true] at hc
            simp only [Option.some.injEq, Prod.mk.injEq] at hc
            obtain ⟨rfl, rfl⟩ := hc
            refine ⟨by simp, ?_⟩
            simp only [Ref.pl, Option.map_none, upd_self]
            exact ⟨rfl, rfl, _, rfl⟩
          · rw [Go.AM.getD_set_ne hj]; exact .inl rfl
        · rw [Go.AM.getD_set_ne hii]; exact ⟨rfl, fun j => .inl rfl⟩)
      have h3 := h2.ok.goes_grow (s' := (pid, some ⟨R.gen, R.ver, R.sz, R.es.set i ((R.es.getD i []).set o (.sl ⟨id, k, none⟩ 0 0 none))⟩) :: (id, some ⟨k, k, sz, []⟩) :: s) (c' := clk (k + 1)) (w' := w) (fun _ _ h => h) clk_succ (.refl _ _)
      exact hK x0 _ a w (hg.trans (h1.trans (h2.trans h3))) ⟨h3.ok, hst.size, hst.defers, fun t' => (hst.env t').mono (h1.trans (h2.trans h3)).le⟩
    · exact h.elim
  · exact h.elim

end Go.AM

/- Regions in whose midst roots are frozen. -/
namespace Go.AM

/-- Ahead of an operation the named roots may be frozen, the named slots seen through them. -/
def frzAt (g : Option (List Nat × List Nat)) (e : Env) (s : Store) : Env × Store :=
  match g with
  | none => (e, s)
  | some (ids, fs) => (fs.map (fun t => (t, vw (keepS ids s) 5 (eget e t))) ++ e, dropS ids s)
theorem eget_frz2 (s1 : Store) (d : Nat) (e e0 : Env) (t : Nat) : ∀ fs : List Nat, eget (fs.map (fun t => (t, vw s1 d (eget e0 t))) ++ e) t = eget e t ∨ eget (fs.map (fun t => (t, vw s1 d (eget e0 t))) ++ e) t = vw s1 d (eget e0 t)
  | [] => .inl rfl
  | a :: l => by
    simp only [List.map_cons, List.cons_append, eget_cons]
    by_cases ha : a = t
    · subst ha; rw [if_pos rfl]; exact .inr rfl
    · rw [if_neg ha]; exact eget_frz2 s1 d e e0 t l
theorem frz_sound {g : Option (List Nat × List Nat)} {e e0 : Env} {s s0 : Store} {k n : Nat} {x0 : Cx} {ρ : Pl → Option (Nat × Nat)} {a : Act} {w : World} (h : frzAt g e0 s0 = (e, s)) (hg : Goes x0 ⟨ρ, s0, clk k, w, x0.F⟩) (hs : St ⟨ρ, s0, clk k, w, x0.F⟩ e0 n a) :
    Goes x0 ⟨ρ, s, clk k, w, x0.F⟩ ∧ St ⟨ρ, s, clk k, w, x0.F⟩ e n a := by
  cases g with
  | none =>
    simp only [frzAt, Prod.mk.injEq] at h
    obtain ⟨rfl, rfl⟩ := h
    exact ⟨hg, hs⟩
  | some p =>
    obtain ⟨ids, fs⟩ := p
    simp only [frzAt, Prod.mk.injEq] at h
    obtain ⟨rfl, rfl⟩ := h
    have hgo := hs.ok.goes_grow (s' := dropS ids s0) (c' := clk k) (w' := w) (fun id R hR => by
      rw [sget_drop] at hR; split at hR
      · cases hR
      · exact hR) (fun _ h => h) (.refl _ _)
    refine ⟨hg.trans hgo, hgo.ok, hs.size, hs.defers, fun t => ?_⟩
    rcases eget_frz2 (keepS ids s0) 5 e0 e0 t fs with h1 | h1
    · rw [h1]; exact (hs.env t).mono hgo.le
    · rw [h1]; exact .pure _ _ (freeze_view hs.ok ids 5 (hs.env t))

def arunG (P : Program) (n base : Nat) (orc : Nat → Option Orc) (gh : Nat → Option (List Nat × List Nat)) (all : List Oper) : List Oper → Nat → Env → Store → Nat → Post → Prop
  | [], _, e, s, k, K => K e s k
  | o :: rest, i, e0, s0, k, K =>
    match frzAt (gh i) e0 s0 with
    | (e, s) => match stepOp P (orc i) o.op (base + o.dst.getD 0) k e s with
    | none => False
    | some r => match o.guard with
      | none => r.vc ∧ dstOk n o.dst ∧ arunG P n base orc gh all rest (i + 1) (setE o.dst r.v e) (r.u ++ s) (k + 2) K
      | some (j, want) => match yieldA all e j with
        | (q, .bool b) => match r.u with
          | [] => ((q ∧ b = want) → r.vc) ∧ dstOk n o.dst ∧ arunG P n base orc gh all rest (i + 1) (setE o.dst (.opt (q ∧ b = want) r.v) e) s (k + 2) K
          | c :: u => q ∧ b = want ∧ r.vc ∧ dstOk n o.dst ∧ arunG P n base orc gh all rest (i + 1) (setE o.dst r.v e) (c :: u ++ s) (k + 2) K
        | _ => False

theorem arunG_sound {P : Program} {n base : Nat} {orc : Nat → Option Orc} {gh : Nat → Option (List Nat × List Nat)} {all : List Oper} {Q : AX → Post} : ∀ (rest : List Oper) (i : Nat) (e : Env) (s : Store) (k : Nat), arunG P n base orc gh all rest i e s k (Q .normal) →
    ∀ x0 ρ a w, Goes x0 ⟨ρ, s, clk k, w, x0.F⟩ → St ⟨ρ, s, clk k, w, x0.F⟩ e n a → wpList P all.toArray (LiftX x0 n Q) rest a w
  | [], _, e, s, k, h, x0, ρ, a, w, hg, hs => ⟨ρ, e, s, k, h, hg, hs⟩
  | o :: rest, i, e0, s0, k, h, x0, ρ, a, w, hg0, hs0 => by
    have ih := arunG_sound (P := P) (n := n) (base := base) (orc := orc) (gh := gh) (all := all) (Q := Q) rest (i + 1)
    unfold arunG at h
    generalize hfz : frzAt (gh i) e0 s0 = es at h
    obtain ⟨e, s⟩ := es
    obtain ⟨hg, hs⟩ := frz_sound hfz hg0 hs0
    simp only at h
    split at h
    · exact h.elim
    · rename_i r hr
      have hrun : ∀ (v : AV) (s' : Store), r.vc → dstOk n o.dst → (∀ y u, Rel y r.v u → Rel y v u) → s' = r.u ++ s → arunG P n base orc gh all rest (i + 1) (setE o.dst v e) s' (k + 2) (Q .normal) → o.wp P a w (wpList P all.toArray (LiftX x0 n Q) rest) (LiftX x0 n Q) := by
        intro v s' hvc hd hrel hs' hrest
        refine step_sound (x := ⟨ρ, s, clk k, w, x0.F⟩) hs.ok hs.env hr hvc clk_fresh.1 clk_fresh.2 (B := k) (fun _ h => h) fun y u hgo hys hyc hru => ?_
        have hgo2 := hgo.ok.goes_grow (s' := y.s) (c' := clk (k + 2)) (w' := y.w) (fun _ _ h => h) (fun g hg => by
          rcases hyc g hg with h1 | h1 | h1
          · exact Nat.lt_of_lt_of_le h1 (by omega)
          · simp [clk, h1]
          · simp [clk, h1]) (.refl _ _)
        have hall := hg.trans (hgo.trans hgo2)
        have hF : y.F = x0.F := hgo.F
        rw [hs', ← hys] at hrest
        rw [hF] at hall hgo2
        exact ih _ _ _ hrest x0 y.ρ _ y.w hall (put_env ((hgo.trans hgo2).le) hs hgo2.ok hd ((hrel _ _ hru).mono hgo2.le))
      split at h
      · rename_i hgd
        obtain ⟨hvc, hd, hrest⟩ := h
        unfold wpList
        rw [if_pos (by simp [Region.wanted, hgd])]
        exact .inl (hrun r.v _ hvc hd (fun _ _ h => h) rfl hrest)
      · rename_i j want hgd
        split at h
        · rename_i q b hy
          split at h
          rotate_left
          · rename_i c u hu
            obtain ⟨hq, hb, hvc, hd, hrest⟩ := h
            have hyd := yielded_of hs hy hq
            unfold wpList
            rw [if_pos (by simp [Region.wanted, hgd, hyd, hb])]
            exact .inl (hrun r.v _ hvc hd (fun _ _ h => h) (by rw [hu]) hrest)
          rename_i hu
          obtain ⟨hvc, hd, hrest⟩ := h
          unfold wpList
          by_cases hq : q ∧ b = want
          · have hyd := yielded_of hs hy hq.1
            rw [if_pos (by simp [Region.wanted, hgd, hyd, hq.2])]
            refine .inl (hrun _ s (hvc hq) hd (fun y u hr => .opt _ _ _ (fun _ => hr) (fun hn => absurd hq hn)) (by rw [hu]; rfl) hrest)
          · have hyd : Region.wanted o (yielded all.toArray a.tmps) = false := by
              by_cases hq1 : q
              · have := yielded_of hs hy hq1
                have hne : b ≠ want := fun e => hq ⟨hq1, e⟩
                simp [Region.wanted, hgd, this, hne]
              · have := yielded_not hs hy hq1
                simp [Region.wanted, hgd, this]
            rw [if_neg (by simp [hyd])]
            have hgo2 := hs.ok.goes_grow (s' := s) (c' := clk (k + 2)) (w' := w) (fun _ _ h => h) (fun g (hg : g < k) => show g < k + 2 by omega) (.refl _ _)
            exact ih _ _ _ hrest x0 ρ _ w (hg.trans hgo2) (put_env hgo2.le hs hgo2.ok hd (.opt _ _ _ (fun h => absurd h hq) (fun _ => rfl)))
        · exact h.elim

/-- A region in the order of the text, with freezing; behind it only the named slots and roots are kept. -/
theorem AW.regionG {P : Program} {n id : Nat} {l : List Oper} {Q : AX → Post} {e : Env} {s : Store} {k : Nat} (base : Nat) (orc : Nat → Option Orc) (gh : Nat → Option (List Nat × List Nat)) (ks is : List Nat)
    (h : arunG P n base orc gh l l 0 e s k (fun e s k => Q .normal (keepE ks e) (keepS is s) k)) : AW P n (.region id l.toArray false) Q e s k := by
  intro x0 ρ a w hg hs
  refine wp_mono (wp_region_lit (arunG_sound (Q := thenQ (fun e s k => Q .normal (keepE ks e) (keepS is s) k) Q) l 0 e s k h x0 ρ a w hg hs)) fun ex a' w' hl => ?_
  cases ex with
  | normal => exact Lift.keep ks is hl
  | _ => exact hl

end Go.AM

/- Regions in the order of the text whose guards forbid a writing operation. -/
namespace Go.AM
/-- What is asked where an operation is passed over. -/
def skipS (all : List Oper) (e : Env) (o : Oper) : Option Prop :=
  match o.guard with
  | some (j, want) => match yieldA all e j with
    | (q, .bool b) => some (¬ (q ∧ b = want))
    | (q, .any) => some (¬ q)
    | _ => none
  | none => none
def anyG (all : List Oper) (e : Env) (o : Oper) : Bool :=
  match o.guard with
  | some (j, _) => isAny (yieldA all e j).2
  | none => false
def arunS (P : Program) (n base : Nat) (orc : Nat → Option Orc) (all : List Oper) : List Oper → Nat → Env → Store → Nat → Post → Prop
  | [], _, e, s, k, K => K e s k
  | o :: rest, i, e, s, k, K =>
    match (if (isSkip (orc i) || anyG all e o) = true then none else stepOp P (orc i) o.op (base + o.dst.getD 0) k e s) with
    | none => match skipS all e o with
      | some p => p ∧ dstOk n o.dst ∧ arunS P n base orc all rest (i + 1) (setE o.dst .any e) s (k + 2) K
      | none => False
    | some r => match o.guard with
      | none => r.vc ∧ dstOk n o.dst ∧ arunS P n base orc all rest (i + 1) (setE o.dst r.v e) (r.u ++ s) (k + 2) K
      | some (j, want) => match yieldA all e j with
        | (q, .bool b) => match r.u with
          | [] => ((q ∧ b = want) → r.vc) ∧ dstOk n o.dst ∧ arunS P n base orc all rest (i + 1) (setE o.dst (.opt (q ∧ b = want) r.v) e) s (k + 2) K
          | c :: u => q ∧ b = want ∧ r.vc ∧ dstOk n o.dst ∧ arunS P n base orc all rest (i + 1) (setE o.dst r.v e) (c :: u ++ s) (k + 2) K
        | _ => False

end Go.AM

/- The rules by which a region is run. -/
namespace Go.AM

attribute [go_sem] aBinA aBytes aNil orcN isNilC isAny aPick2 arun arunS stepOp ev strip ofVal ofCell eget sget setE dstOk yieldA aLoad aStore aFieldAddr aIndexAddr aBin aBin2 aUn aConv aLen aPick isTrueC isFalseC keepE keepS aBuild aParts fillA splice mkA takeC unosl cellsA known scalar content rcontent noMap mcontent mapSz isMapT aLookup aMapUpdate keyOk isFlat isFlat1 isMv isMv1 mvCell inner pcontent
  setCu Root.setSub aBuildSlice chunkN aMake aSlice idxA optE isC aField aPart aIndex aExtract aMin aAppend srcOf aCopy aCall aBuiltin aMLen allP vws pureA pureS argsE resOk resVals resVal IntKind.signed thenQ blockQ retQ
  drun gstep isSkip skipG rdsOp idA aUpd entryM exitM mvStore mvRoot mvRef findS findD exitS nodupB ren renC settleM settles arunG frzAt skipS anyG adoptP nilCellP frzE dropS frzCellP notOsl

attribute [go_sem] decide_true decide_false ne_eq not_false_eq_true Nat.zero_add Nat.add_zero Option.getD_some Option.getD_none List.map_cons List.map_nil List.length_cons List.length_nil List.getD_cons_zero List.getD_cons_succ List.drop_zero List.drop_succ_cons
  List.all_cons List.all_nil Bool.and_true Bool.and_self List.nil_append List.cons_append List.set_cons_zero List.set_cons_succ and_true true_and and_self implies_true imp_self List.getElem?_cons_zero List.getElem?_cons_succ and_assoc
  Nat.add_assoc Option.some.injEq Prod.mk.injEq and_imp forall_eq forall_eq' forall_apply_eq_imp_iff List.flatten_cons List.flatten_nil List.take_succ_cons List.take_zero List.take_nil List.drop_nil List.isEmpty_nil List.isEmpty_cons List.flatMap_cons List.flatMap_nil List.append_nil
attribute [go_sem] vw_int vw_bool vw_str vw_nilp vw_nilsl vw_nilq vw_rsl vw_rptr vw_any vw_agg vw_tup vw_fn vw_sl vw_ptr vwc_osl vwc_int vwc_bool vwc_str vwc_nilp vwc_nilsl vwc_rsl vwc_rptr vwc_sl vwc_ptr
  vwF_int vwF_bool vwF_str vwF_nilp vwF_nilsl vwF_nilq vwF_rnil vwF_agg vwF_tup vwF_sl vwF_ptr vwcF_osl vwcF_int vwcF_bool vwcF_nilsl vwcF_nilp vwcF_sl vwcF_ptr vw_map_int vwc_map_int vwc_map_bool vwF_map_int vwcF_map_int vwcF_map_bool

@[go_sem] theorem Res.vc_mk (a : Prop) (v : AV) (u : Store) : (Res.mk a v u).vc = a := rfl
@[go_sem] theorem Res.v_mk (a : Prop) (v : AV) (u : Store) : (Res.mk a v u).v = v := rfl
@[go_sem] theorem Res.u_mk (a : Prop) (v : AV) (u : Store) : (Res.mk a v u).u = u := rfl
@[go_sem] theorem GRes.vc_mk (a : Prop) (v : AV) (u : Store) : (GRes.mk a v u).vc = a := rfl
@[go_sem] theorem GRes.v_mk (a : Prop) (v : AV) (u : Store) : (GRes.mk a v u).v = v := rfl
@[go_sem] theorem GRes.u_mk (a : Prop) (v : AV) (u : Store) : (GRes.mk a v u).u = u := rfl
@[go_sem] theorem inR_i64 (n : Int) : inR .i64 n = (-9223372036854775808 ≤ n ∧ n ≤ 9223372036854775807) := by
  simp [inR, IntKind.min, IntKind.max, IntKind.bits, IntKind.signed]
attribute [go_sem] Bool.not_false Bool.not_true List.contains_cons List.contains_nil Bool.or_false Bool.false_or Bool.true_and or_true true_or false_or or_false List.getD_nil
theorem hB : (∀ a b : Bool, ((a || b) = true) = (a = true ∨ b = true)) ∧ (∀ a b : Bool, ((a && b) = true) = (a = true ∧ b = true)) ∧ (∀ (p : Prop) [Decidable p], (decide p = true) = p) ∧ (∀ a b : Bool, ((a || b) = false) ↔ (a = false ∧ b = false)) ∧
    (∀ a b : Bool, ((a && b) = false) ↔ (a = false ∨ b = false)) ∧ (∀ (p : Prop) [Decidable p], (decide p = false) ↔ ¬ p) ∧ (∀ a : Bool, ((!a) = true) = (a = false)) ∧ (∀ a : Bool, ((!a) = false) = (a = true)) ∧ (∀ a b : Int, (¬ a < b) ↔ b ≤ a) ∧ (∀ a b : Int, (¬ a ≤ b) ↔ b < a) ∧
    ((!true) = false) ∧ ((!false) = true) ∧ ∀ (α β : Type) (f : α → β) (l : List α), (l.map f).length = l.length :=
  ⟨fun _ _ => Bool.or_eq_true _ _, fun _ _ => Bool.and_eq_true _ _, fun _ _ => decide_eq_true_eq, fun _ _ => Bool.or_eq_false_iff, fun _ _ => Bool.and_eq_false_iff, fun _ _ => decide_eq_false_iff_not, fun _ => Bool.not_eq_true' _, fun _ => Bool.not_eq_false' _, fun _ _ => Int.not_lt, fun _ _ => Int.not_le, rfl, rfl, fun _ _ _ _ => List.length_map _⟩
theorem chk {l : List Oper} {L : List FP} (h : chkA l L = true) : chkA l L = true := h
theorem ent {P : Program} {f : FuncId} (h : enters P f = true) : enters P f = true := h
theorem cj {a b : Prop} (hb : b) (ha : a) : a ∧ b := ⟨ha, hb⟩

end Go.AM

/- A region that ends in the compare of an empty slice with nil: both answers must do. -/
namespace Go.AM

end Go.AM

/- The steps of a printed walk, in short: what a step asks for is proved by the text that stands as its default. -/
namespace Go.AM
theorem e2 {a b : Prop} (x : a) (y : b) : a ∧ b := ⟨x, y⟩
theorem e3 {a b c : Prop} (x : a) (y : b) (z : c) : a ∧ b ∧ c := ⟨x, y, z⟩
theorem e4 {a b c d : Prop} (x : a) (y : b) (z : c) (u : d) : a ∧ b ∧ c ∧ d := ⟨x, y, z, u⟩
theorem e5 {a b c d p : Prop} (x : a) (y : b) (z : c) (u : d) (v : p) : a ∧ b ∧ c ∧ d ∧ p := ⟨x, y, z, u, v⟩
theorem cjG {g a b : Prop} (ha : a) (hb : g → b) : g → a ∧ b := fun h => ⟨ha, hb h⟩
theorem AW.seq1 {P : Program} {n : Nat} {c d : Code} {Q : AX → Post} {e : Env} {s : Store} {k : Nat} (h : AW P n c (thenQ (fun e s k => AW P n d Q e s k) Q) e s k) : AW P n (.seq c d) Q e s k := by
  intro x0 ρ a w hg hs
  have h1 := h x0 ρ a w hg hs
  refine wp_seq (wp_mono h1 fun ex a' w' hl => ?_)
  cases ex with
  | normal =>
    obtain ⟨ρ', e', s', k', g1, g2, g3⟩ := hl
    exact g1 x0 ρ' a' w' g2 g3
  | _ => exact hl
theorem AW.sg {P : Program} {n id : Nat} {l : List Oper} {Q : AX → Post} {e : Env} {s : Store} {k : Nat} {b : Code} (ks is : List Nat) {E : Prop} (hE : E) {G : Prop} (hG : G)
    (h : E → G → arun P n 0 (fun _ => Option.none) l l 0 e s k fun e s k => AW P n b Q (keepE ks e) (keepS is s) k := by
      intro xE
      simp (maxSteps := 2000000) only [go_sem, reduceIte, reduceCtorEq, Nat.reduceAdd, Nat.reduceMul, Nat.reduceEqDiff, Nat.reduceLT, Nat.reduceLeDiff, Nat.reduceSub, Nat.reducePow, Nat.reduceBEq, Int.reduceToNat, List.reduceReplicate, xE]
      repeat ((with_reducible apply cjG); (first | omega | exact ent (by kernel_rfl) | (simp [scP, scalar]; done) | exact scP_words _ | exact scP_ints _ | exact scP_bools _))
      exact fun xG => xG) : AW P n (.seq (.region id l.toArray false) b) Q e s k :=
  AW.seq1 (AW.regionK 0 (fun _ => Option.none) ks is (h hE hG))
theorem AW.so {P : Program} {n id : Nat} {l : List Oper} {Q : AX → Post} {e : Env} {s : Store} {k : Nat} {b : Code} (base : Nat) (orc : Nat → Option Orc) (ks is : List Nat) {E : Prop} (hE : E) {G : Prop} (hG : G)
    (h : E → G → arun P n base orc l l 0 e s k fun e s k => AW P n b Q (keepE ks e) (keepS is s) k := by
      intro xE
      simp (maxSteps := 2000000) only [go_sem, reduceIte, reduceCtorEq, Nat.reduceAdd, Nat.reduceMul, Nat.reduceEqDiff, Nat.reduceLT, Nat.reduceLeDiff, Nat.reduceSub, Nat.reducePow, Nat.reduceBEq, Int.reduceToNat, List.reduceReplicate, xE]
      repeat ((with_reducible apply cjG); (first | omega | exact ent (by kernel_rfl) | (simp [scP, scalar]; done) | exact scP_words _ | exact scP_ints _ | exact scP_bools _))
      exact fun xG => xG) : AW P n (.seq (.region id l.toArray false) b) Q e s k :=
  AW.seq1 (AW.regionK base orc ks is (h hE hG))
theorem AW.rg {P : Program} {n id : Nat} {l : List Oper} {Q : AX → Post} {e : Env} {s : Store} {k : Nat} (ks is : List Nat) {E : Prop} (hE : E) {G : Prop} (hG : G)
    (h : E → G → arun P n 0 (fun _ => Option.none) l l 0 e s k fun e s k => Q .normal (keepE ks e) (keepS is s) k := by
      intro xE
      simp (maxSteps := 2000000) only [go_sem, reduceIte, reduceCtorEq, Nat.reduceAdd, Nat.reduceMul, Nat.reduceEqDiff, Nat.reduceLT, Nat.reduceLeDiff, Nat.reduceSub, Nat.reducePow, Nat.reduceBEq, Int.reduceToNat, List.reduceReplicate, xE]
      repeat ((with_reducible apply cjG); (first | omega | exact ent (by kernel_rfl) | (simp [scP, scalar]; done) | exact scP_words _ | exact scP_ints _ | exact scP_bools _))
      exact fun xG => xG) : AW P n (.region id l.toArray false) Q e s k :=
  AW.regionK 0 (fun _ => Option.none) ks is (h hE hG)
theorem AW.ro {P : Program} {n id : Nat} {l : List Oper} {Q : AX → Post} {e : Env} {s : Store} {k : Nat} (base : Nat) (orc : Nat → Option Orc) (ks is : List Nat) {E : Prop} (hE : E) {G : Prop} (hG : G)
    (h : E → G → arun P n base orc l l 0 e s k fun e s k => Q .normal (keepE ks e) (keepS is s) k := by
      intro xE
      simp (maxSteps := 2000000) only [go_sem, reduceIte, reduceCtorEq, Nat.reduceAdd, Nat.reduceMul, Nat.reduceEqDiff, Nat.reduceLT, Nat.reduceLeDiff, Nat.reduceSub, Nat.reducePow, Nat.reduceBEq, Int.reduceToNat, List.reduceReplicate, xE]
      repeat ((with_reducible apply cjG); (first | omega | exact ent (by kernel_rfl) | (simp [scP, scalar]; done) | exact scP_words _ | exact scP_ints _ | exact scP_bools _))
      exact fun xG => xG) : AW P n (.region id l.toArray false) Q e s k :=
  AW.regionK base orc ks is (h hE hG)
theorem AW.sd {P : Program} {n id : Nat} {l : List Oper} {Q : AX → Post} {e : Env} {s : Store} {k : Nat} {b : Code} (hm : P.follows .mixedOrders = true) (base : Nat) (orc : Nat → Option Orc) (ks is : List Nat) {E : Prop} (hE : E) {G : Prop} (hG : G)
    (h : E → G → drun P n base orc l k l 0 [] e s fun L e s => chkA l L = true ∧ AW P n b Q (keepE ks e) (keepS is s) (k + 2 * l.length) := by
      intro xE
      simp (maxSteps := 2000000) only [go_sem, reduceIte, reduceCtorEq, Nat.reduceAdd, Nat.reduceMul, Nat.reduceEqDiff, Nat.reduceLT, Nat.reduceLeDiff, Nat.reduceSub, Nat.reducePow, Nat.reduceBEq, Int.reduceToNat, List.reduceReplicate, xE]
      repeat ((with_reducible apply cjG); (first | omega | exact chk (by kernel_rfl) | exact ent (by kernel_rfl) | (simp [scP, scalar]; done) | exact scP_words _ | exact scP_ints _ | exact scP_bools _))
      exact fun xG => xG) : AW P n (.seq (.region id l.toArray true) b) Q e s k :=
  AW.seq1 (AW.regionD hm base orc ks is (h hE hG))
theorem AW.rd {P : Program} {n id : Nat} {l : List Oper} {Q : AX → Post} {e : Env} {s : Store} {k : Nat} (hm : P.follows .mixedOrders = true) (base : Nat) (orc : Nat → Option Orc) (ks is : List Nat) {E : Prop} (hE : E) {G : Prop} (hG : G)
    (h : E → G → drun P n base orc l k l 0 [] e s fun L e s => chkA l L = true ∧ Q .normal (keepE ks e) (keepS is s) (k + 2 * l.length) := by
      intro xE
      simp (maxSteps := 2000000) only [go_sem, reduceIte, reduceCtorEq, Nat.reduceAdd, Nat.reduceMul, Nat.reduceEqDiff, Nat.reduceLT, Nat.reduceLeDiff, Nat.reduceSub, Nat.reducePow, Nat.reduceBEq, Int.reduceToNat, List.reduceReplicate, xE]
      repeat ((with_reducible apply cjG); (first | omega | exact chk (by kernel_rfl) | exact ent (by kernel_rfl) | (simp [scP, scalar]; done) | exact scP_words _ | exact scP_ints _ | exact scP_bools _))
      exact fun xG => xG) : AW P n (.region id l.toArray true) Q e s k :=
  AW.regionD hm base orc ks is (h hE hG)
theorem AW.cn {P : Program} {n : Nat} {Q : AX → Post} {e : Env} {s : Store} {k : Nat} {o : Operand} {c d : Code} {b : Bool} {p q : Prop} (ht : p → AW P n c Q e s k) (hf : q → AW P n d Q e s k) (he : (ev e o).2 = .bool b := by rfl)
    (hp : (ev e o).1 := by simp only [go_sem, reduceIte, reduceCtorEq, Nat.reduceAdd, Nat.reduceMul, Nat.reduceEqDiff, Nat.reduceLT, Nat.reduceLeDiff, Nat.reduceSub, Nat.reducePow, Nat.reduceBEq, Int.reduceToNat, List.reduceReplicate]) (h1 : b = true → p := by (intro xb; first | (simp only [hB, decide_eq_true_eq, decide_eq_false_iff_not] at xb; exact xb) | exact xb)) (h2 : b = false → q := by (intro xb; first | (simp only [hB, decide_eq_true_eq, decide_eq_false_iff_not] at xb; exact xb) | exact xb)) :
    AW P n (.cond o c d) Q e s k :=
  AW.cond he hp (fun h => ht (h1 h)) (fun h => hf (h2 h))
theorem AW.kx {P : Program} {n : Nat} {Q : AX → Post} {e : Env} {s : Store} {k : Nat} {id : Nat} (ks is : List Nat) {G : Prop} (hG : G) (h : G → Q (.exit id) (keepE ks e) (keepS is s) k := by ((try simp only [go_sem, reduceIte, reduceCtorEq, Nat.reduceAdd, Nat.reduceMul, Nat.reduceEqDiff, Nat.reduceLT, Nat.reduceLeDiff, Nat.reduceSub, Nat.reducePow, Nat.reduceBEq, Int.reduceToNat, List.reduceReplicate]); exact fun xG => xG)) : AW P n (.exit id) Q e s k :=
  AW.keep ks is (AW.exit (h hG))
theorem AW.kp {P : Program} {n : Nat} {c : Code} {Q : AX → Post} {e : Env} {s : Store} {k : Nat} (ks is : List Nat) {G : Prop} (hG : G) (h : G → AW P n c Q (keepE ks e) (keepS is s) k := by ((try simp only [go_sem, reduceIte, reduceCtorEq, Nat.reduceAdd, Nat.reduceMul, Nat.reduceEqDiff, Nat.reduceLT, Nat.reduceLeDiff, Nat.reduceSub, Nat.reducePow, Nat.reduceBEq, Int.reduceToNat, List.reduceReplicate]); exact fun xG => xG)) : AW P n c Q e s k :=
  AW.keep ks is (h hG)
theorem AW.rt {P : Program} {n : Nat} {Q : AX → Post} {e : Env} {s : Store} {k : Nat} {E : Prop} (hE : E) {G : Prop} (hG : G) (h : E → G → Q .ret e s k := by (intro xE; (try simp only [go_sem, reduceIte, reduceCtorEq, Nat.reduceAdd, Nat.reduceMul, Nat.reduceEqDiff, Nat.reduceLT, Nat.reduceLeDiff, Nat.reduceSub, Nat.reducePow, Nat.reduceBEq, Int.reduceToNat, List.reduceReplicate, xE]); exact fun xG => xG)) : AW P n .ret Q e s k :=
  AW.ret (h hE hG)
theorem eD {α : Type} {a b : α} (h : a = b := by
      repeat' (first | rfl | refine env_cons ?_ ?_ | refine st_cons ?_ ?_ ?_ ?_ | refine int_eq ?_ | refine bool_eq ?_ | refine rsl_eq ?_ | refine osl_eq ?_ | refine sl_eq ?_ ?_ ?_ | refine ptr_eq ?_ ?_ ?_ | refine agg_eq ?_ | refine es_cons ?_ ?_ | refine row_cons ?_ ?_)
      all_goals (first | (simp; done) | omega | (simp; omega))) : a = b := h
theorem eT {p : Prop} (h : p := by first | trivial | omega | (simp; done) | (simp; omega)) : p := h
theorem eO {p : Prop} (h : p := by omega) : p := h
theorem gD {p : Prop} (h : p := by (simp only [go_sem, reduceIte, reduceCtorEq, Nat.reduceAdd, Nat.reduceMul, Nat.reduceEqDiff, Nat.reduceLT, Nat.reduceLeDiff, Nat.reduceSub, Nat.reducePow, Nat.reduceBEq, Int.reduceToNat, List.reduceReplicate]; done)) : p := h
end Go.AM

/- Lists of plain values as pure trees. -/
namespace Go.AM
def ints (l : List Int) : List (List AV) := l.map fun x => [.int .i64 x]
def words (l : List Int) : List (List AV) := l.map fun x => [.int .u64 x]
def bools (l : List Bool) : List (List AV) := l.map fun x => [.bool x]
structure USet where
  N : Int
  W : List Int
end Go.AM
namespace Go.AM
theorem ints_len (l : List Int) : (ints l).length = l.length := by simp [ints]
theorem ints_take (l : List Int) (n : Nat) : (ints l).take n = ints (l.take n) := by simp [ints, List.map_take]
theorem ints_drop (l : List Int) (n : Nat) : (ints l).drop n = ints (l.drop n) := by simp [ints, List.map_drop]
theorem ints_set (l : List Int) (i : Nat) (x : Int) : (ints l).set i [.int .i64 x] = ints (l.set i x) := by simp [ints, List.map_set]
theorem ints_upd (l : List Int) (i : Nat) (x : Int) : (ints l).set i (((ints l).getD i []).set 0 (.int .i64 x)) = ints (l.set i x) := by
  by_cases h : i < l.length
  · rw [← ints_set]; congr 1; simp [ints, List.getD_eq_getElem?_getD, h]
  · rw [List.set_eq_of_length_le (by rw [ints_len]; omega), List.set_eq_of_length_le (by omega)]
theorem Reads.old {P : Program} {f : FuncId} {args : List AV} {r : AV} (h : Reads P f true args r) : Reads P f false args r := by
  intro w F us hF hgl hl hr
  refine (h w F us hF hgl hl hr).mono fun e w' ⟨u, h1, h2, h3⟩ => ⟨u, h1, h2, ?_⟩
  exact h3.mono fun b hb => ⟨⟨hb.1, fun hf => hb.2 (hF b hf)⟩, rfl⟩
theorem getV {α : Type} {f : α → List AV} {l : List α} {j : Nat} {x : α} (h : l[j]? = some x) : (l.map f).getD j [] = f x := by
  simp [List.getD_eq_getElem?_getD, h]
theorem getI {α : Type} {l : List α} {j : Nat} (h : j < l.length) : ∃ x, l[j]? = some x := ⟨_, List.getElem?_eq_getElem h⟩
theorem all_take_succ {α : Type} {p : α → Bool} {l : List α} {j : Nat} {x : α} (h : l[j]? = some x) : (l.take (j + 1)).all p = ((l.take j).all p && p x) := by
  obtain ⟨hj, rfl⟩ := List.getElem?_eq_some_iff.1 h
  rw [List.take_succ_eq_append_getElem hj, List.all_append]; simp
theorem all_false_of {α : Type} {p : α → Bool} {l : List α} {j : Nat} {x : α} (h : l[j]? = some x) (hp : p x = false) : l.all p = false := by
  rw [List.all_eq_false]; exact ⟨x, List.mem_of_getElem? h, by simp [hp]⟩
theorem words_len (l : List Int) : (words l).length = l.length := by simp [words]
theorem words_get {l : List Int} {i : Nat} {x : Int} (h : l[i]? = some x) : (words l).getD i [] = [.int .u64 x] := getV h
theorem words_getD {l : List Int} {i : Nat} (h : i < l.length) : (words l).getD i [] = [.int .u64 (l.getD i 0)] := by
  simp [words, List.getD_eq_getElem?_getD, h]
theorem words_set (l : List Int) (i : Nat) (x : Int) : (words l).set i [.int .u64 x] = words (l.set i x) := by simp [words, List.map_set]
theorem words_upd (l : List Int) (i : Nat) (x : Int) : (words l).set i (((words l).getD i []).set 0 (.int .u64 x)) = words (l.set i x) := by
  by_cases h : i < l.length
  · rw [← words_set]; congr 1; simp [words, List.getD_eq_getElem?_getD, h]
  · rw [List.set_eq_of_length_le (by rw [words_len]; omega), List.set_eq_of_length_le (by omega)]
theorem words_take (l : List Int) (n : Nat) : (words l).take n = words (l.take n) := by simp [words, List.map_take]
theorem bools_len (l : List Bool) : (bools l).length = l.length := by simp [bools]
theorem bools_set (l : List Bool) (i : Nat) (x : Bool) : (bools l).set i [.bool x] = bools (l.set i x) := by simp [bools, List.map_set]
theorem bools_upd (l : List Bool) (i : Nat) (x : Bool) : (bools l).set i (((bools l).getD i []).set 0 (.bool x)) = bools (l.set i x) := by
  by_cases h : i < l.length
  · rw [← bools_set]; congr 1; simp [bools, List.getD_eq_getElem?_getD, h]
  · rw [List.set_eq_of_length_le (by rw [bools_len]; omega), List.set_eq_of_length_le (by omega)]
theorem bools_take (l : List Bool) (n : Nat) : (bools l).take n = bools (l.take n) := by simp [bools, List.map_take]
section
variable (s : Store) (d : Nat)
theorem vw_ints (l : List Int) : (ints l).map (fun cs => cs.map (vw s d)) = ints l := vw_map_int s d _ l
theorem vwc_ints (l : List Int) : (ints l).map (fun cs => cs.map (vwc s d)) = ints l := vwc_map_int s d _ l
theorem vwF_ints (l : List Int) : (ints l).map (fun cs => cs.map (vwF s d)) = ints l := vwF_map_int s d _ l
theorem vwcF_ints (l : List Int) : (ints l).map (fun cs => cs.map (vwcF s d)) = ints l := vwcF_map_int s d _ l
theorem vw_words (l : List Int) : (words l).map (fun cs => cs.map (vw s d)) = words l := vw_map_int s d _ l
theorem vwc_words (l : List Int) : (words l).map (fun cs => cs.map (vwc s d)) = words l := vwc_map_int s d _ l
theorem vwF_words (l : List Int) : (words l).map (fun cs => cs.map (vwF s d)) = words l := vwF_map_int s d _ l
theorem vwcF_words (l : List Int) : (words l).map (fun cs => cs.map (vwcF s d)) = words l := vwcF_map_int s d _ l
theorem vwc_bools (l : List Bool) : (bools l).map (fun cs => cs.map (vwc s d)) = bools l := vwc_map_bool s d l
theorem vwcF_bools (l : List Bool) : (bools l).map (fun cs => cs.map (vwcF s d)) = bools l := vwcF_map_bool s d l
variable (m : Ref → Option Ref)
theorem ren_int (k : IntKind) (x : Int) : ren m d (.int k x) = .int k x := by cases d <;> rfl
theorem ren_bool (x : Bool) : ren m d (.bool x) = .bool x := by cases d <;> rfl
theorem ren_ints (l : List Int) : (ints l).map (fun row => row.map (ren m d)) = ints l := by simp [ints, ren_int]
theorem renC_ints (l : List Int) : (ints l).map (fun row => row.map (renC m d)) = ints l := by simp [ints, renC, ren_int]
theorem ren_words (l : List Int) : (words l).map (fun row => row.map (ren m d)) = words l := by simp [words, ren_int]
theorem renC_words (l : List Int) : (words l).map (fun row => row.map (renC m d)) = words l := by simp [words, renC, ren_int]
theorem ren_bools (l : List Bool) : (bools l).map (fun row => row.map (ren m d)) = bools l := by simp [bools, ren_bool]
theorem renC_bools (l : List Bool) : (bools l).map (fun row => row.map (renC m d)) = bools l := by simp [bools, renC, ren_bool]
end
attribute [go_sem] vw_ints vwc_ints vwF_ints vwcF_ints vw_words vwc_words vwF_words vwcF_words vwc_bools vwcF_bools ren_ints renC_ints ren_words renC_words ren_bools renC_bools
  ints_len ints_set ints_upd ints_take words_len words_set words_upd words_take bools_len bools_set bools_upd bools_take List.take_length Int.toNat_natCast List.length_map List.length_replicate Nat.sub_zero Nat.sub_self List.getD_nil
end Go.AM
namespace Go.AM
def noOslR {α : Type} (f : α → List AV) : Prop := ∀ x i sz q, (f x).getD i .any ≠ .osl sz q
theorem noOsl_map {α : Type} {f : α → List AV} (h : noOslR f) (l : List α) : noOsl (l.map f) := fun i j sz q e => by
  by_cases hi : i < l.length
  · rw [getV (List.getElem?_eq_getElem hi)] at e
    exact h _ _ _ _ e
  · have e0 : (l.map f).getD i [] = [] := by simp [List.getD_eq_getElem?_getD, List.getElem?_eq_none (by simpa using hi : l.length ≤ i)]
    rw [e0] at e
    simp at e
theorem noOslR_int (k : IntKind) : noOslR (α := Int) fun x : Int => [AV.int k x] := fun x i sz q e => by
  rcases i with _ | i <;> simp at e
theorem ints_app (l : List Int) (x : Int) : ints l ++ [[.int .i64 x]] = ints (l ++ [x]) := by simp [ints]
theorem ints_get {l : List Int} {i : Nat} {x : Int} (h : l[i]? = some x) : (ints l).getD i [] = [.int .i64 x] := getV h
theorem ints_getD {l : List Int} {i : Nat} (h : i < l.length) : (ints l).getD i [] = [.int .i64 (l.getD i 0)] := by
  simp [ints, List.getD_eq_getElem?_getD, h]
theorem mem_getD {α : Type} {l : List α} {i : Nat} (h : i < l.length) (d : α) : l.getD i d ∈ l := by
  rw [List.getD_eq_getElem?_getD, List.getElem?_eq_getElem h]; exact List.getElem_mem h
theorem getD_of {α : Type} {l : List α} {i : Nat} {x : α} (h : l[i]? = some x) (d : α) : l.getD i d = x := by
  rw [List.getD_eq_getElem?_getD, h]; rfl
theorem scP_ints (l : List Int) : scP (ints l) := fun cs h a ha => by
  simp only [ints, List.mem_map] at h
  obtain ⟨x, _, rfl⟩ := h
  simp at ha; subst ha; rfl
theorem scP_words (l : List Int) : scP (words l) := fun cs h a ha => by
  simp only [words, List.mem_map] at h
  obtain ⟨x, _, rfl⟩ := h
  simp at ha; subst ha; rfl
theorem scP_bools (l : List Bool) : scP (bools l) := fun cs h a ha => by
  simp only [bools, List.mem_map] at h
  obtain ⟨x, _, rfl⟩ := h
  simp at ha; subst ha; rfl
def pairV (p : Int × Int) : List AV := [.int .i64 p.1, .int .i64 p.2]
theorem vwc_pairs (s : Store) (d : Nat) (l : List (Int × Int)) : (l.map pairV).map (fun cs => cs.map (vwc s d)) = l.map pairV := by simp [pairV, vwc_int]
theorem vwcF_pairs (s : Store) (d : Nat) (l : List (Int × Int)) : (l.map pairV).map (fun cs => cs.map (vwcF s d)) = l.map pairV := by simp [pairV, vwcF_int]
theorem renC_pairs (m : Ref → Option Ref) (d : Nat) (l : List (Int × Int)) : (l.map pairV).map (fun cs => cs.map (renC m d)) = l.map pairV := by simp [pairV, renC, ren_int]
attribute [go_sem] vwc_pairs vwcF_pairs renC_pairs
theorem noOsl_words (l : List Int) : noOsl (words l) := noOsl_map (noOslR_int _) l
end Go.AM

/- Sets as words. -/
namespace Go.AM
theorem eqL_len {a b : List Int} (h : a.length ≠ b.length) : (a == b) = false := by
  rw [beq_eq_false_iff_ne]; exact fun e => h (by rw [e])
theorem eqL_ne {a b : List Int} {j : Nat} {x y : Int} (ha : a[j]? = some x) (hb : b[j]? = some y) (h : x ≠ y) : (a == b) = false := by
  rw [beq_eq_false_iff_ne]; intro e; subst e; rw [ha] at hb; exact h (Option.some.inj hb)
theorem take_succ_eq {a b : List Int} {j : Nat} {x : Int} (ha : a[j]? = some x) (hb : b[j]? = some x) (h : a.take j = b.take j) : a.take (j + 1) = b.take (j + 1) := by
  obtain ⟨h1, h2⟩ := List.getElem?_eq_some_iff.1 ha
  obtain ⟨h3, h4⟩ := List.getElem?_eq_some_iff.1 hb
  rw [List.take_succ_eq_append_getElem h1, List.take_succ_eq_append_getElem h3, h, h2, h4]
/-- A bit is set. -/
def setBit (W : List Int) (i : Int) : List Int := W.set (i.tdiv 64).toNat (bOr .u64 (W.getD (i.tdiv 64).toNat 0) (bShl .u64 1 (i.tmod 64)))
def wordsN (n : Int) : Int := (n + 64 - 1).tdiv 64
theorem wordsN_rng {n : Int} (h0 : 0 ≤ n) : 0 ≤ wordsN n ∧ n ≤ 64 * wordsN n ∧ 64 * wordsN n ≤ n + 63 := by
  unfold wordsN; rw [Int.tdiv_eq_ediv_of_nonneg (by omega)]; omega
theorem div64_rng {i n : Int} (h0 : 0 ≤ i) (h1 : i < n) : 0 ≤ i.tdiv 64 ∧ i.tdiv 64 < wordsN n ∧ 0 ≤ i.tmod 64 ∧ i.tmod 64 < 64 := by
  have := wordsN_rng (n := n) (by omega)
  rw [Int.tdiv_eq_ediv_of_nonneg h0, Int.tmod_eq_emod_of_nonneg h0]; omega
def setW (l : List Bool) (j : Nat) : List Int := (List.range j).foldl (fun W i => if l.getD i false = true then setBit W (i : Int) else W) (List.replicate (wordsN l.length).toNat 0)
theorem setW_succ (l : List Bool) (j : Nat) : setW l (j + 1) = if l.getD j false = true then setBit (setW l j) (j : Int) else setW l j := by
  unfold setW; rw [List.range_succ, List.foldl_append]; rfl
theorem setW_len (l : List Bool) (j : Nat) : (setW l j).length = (wordsN l.length).toNat := by
  induction j with
  | zero => simp [setW]
  | succ j ih => rw [setW_succ]; split <;> simp [setBit, ih]
def hasW (W : List Int) (i : Int) : Bool := decide ((bShr .u64 (W.getD (i.tdiv 64).toNat 0) (i.tmod 64)).tmod 2 = 1)
def okW (W : List Int) : Prop := ∀ i, 0 ≤ W.getD i 0 ∧ W.getD i 0 < 18446744073709551616
theorem bShr_nat {w k : Nat} (hk : k < 64) : bShr .u64 (w : Int) (k : Int) = ((w >>> k : Nat) : Int) := by
  unfold bShr
  have : min (k : Int).toNat IntKind.u64.bits = k := by simp [IntKind.bits]; omega
  rw [this, Nat.shiftRight_eq_div_pow, Int.fdiv_eq_ediv_of_nonneg _ (by exact_mod_cast Nat.zero_le _)]
  norm_cast
theorem hasW_bit {W : List Int} {i : Int} (h0 : 0 ≤ i) (hW : 0 ≤ W.getD (i.tdiv 64).toNat 0) : hasW W i = (W.getD (i.tdiv 64).toNat 0).toNat.testBit (i.toNat % 64) := by
  unfold hasW
  obtain ⟨w, hw⟩ : ∃ w : Nat, W.getD (i.tdiv 64).toNat 0 = w := ⟨_, (Int.toNat_of_nonneg hW).symm⟩
  obtain ⟨m, rfl⟩ : ∃ m : Nat, i = m := ⟨_, (Int.toNat_of_nonneg h0).symm⟩
  have e : (m : Int).tmod 64 = ((m % 64 : Nat) : Int) := by rw [Int.tmod_eq_emod_of_nonneg (by omega)]; rfl
  rw [hw, e, bShr_nat (by omega), Int.toNat_natCast, Int.toNat_natCast, Nat.testBit_eq_decide_div_mod_eq, Nat.shiftRight_eq_div_pow]
  generalize w / 2 ^ (m % 64) = d
  rw [Int.tmod_eq_emod_of_nonneg (by omega)]
  congr 1
  apply propext
  omega
theorem bOr_nat {a b : Nat} (ha : a < 18446744073709551616) (hb : b < 18446744073709551616) : bOr .u64 (a : Int) (b : Int) = ((a ||| b : Nat) : Int) := by
  unfold bOr
  have e : (BitVec.ofInt IntKind.u64.bits (a : Int) ||| BitVec.ofInt IntKind.u64.bits (b : Int)).toNat = a ||| b := by
    show (BitVec.ofInt 64 (a : Int) ||| BitVec.ofInt 64 (b : Int) : BitVec 64).toNat = _
    rw [BitVec.toNat_or, BitVec.ofInt_natCast, BitVec.ofInt_natCast, BitVec.toNat_ofNat, BitVec.toNat_ofNat, Nat.mod_eq_of_lt (by omega), Nat.mod_eq_of_lt (by omega)]
  rw [e]
  have : a ||| b < 2 ^ 64 := Nat.or_lt_two_pow (by omega) (by omega)
  simp [IntKind.wrap, IntKind.signed, IntKind.bits]
  omega
theorem bShl_nat {k : Nat} (hk : k < 64) : bShl .u64 1 (k : Int) = ((2 ^ k : Nat) : Int) := by
  unfold bShl
  have : min (k : Int).toNat IntKind.u64.bits = k := by simp [IntKind.bits]; omega
  rw [this]
  have h : (2 : Nat) ^ k < 2 ^ 64 := Nat.pow_lt_pow_right (by decide) hk
  have h2 : (1 : Int) * 2 ^ k = ((2 ^ k : Nat) : Int) := by rw [Int.one_mul]; norm_cast
  rw [h2]
  generalize 2 ^ k = p at h ⊢
  have h3 : p < 18446744073709551616 := by simpa using h
  simp [IntKind.wrap, IntKind.signed, IntKind.bits]
  omega
theorem okW.set {W : List Int} (h : okW W) {i : Int} (h0 : 0 ≤ i) : okW (setBit W i) ∧ ∀ j : Int, 0 ≤ j → (j.tdiv 64).toNat < W.length → hasW (setBit W i) j = (decide (i = j) || hasW W j) := by
  have hq : (i.tmod 64) = ((i.toNat % 64 : Nat) : Int) := by rw [Int.tmod_eq_emod_of_nonneg h0]; omega
  generalize hk : (i.tdiv 64).toNat = k
  obtain ⟨w, hw⟩ : ∃ w : Nat, W.getD k 0 = w := ⟨_, (Int.toNat_of_nonneg (h k).1).symm⟩
  have hw2 : w < 18446744073709551616 := by have := (h k).2; omega
  have hp : 2 ^ (i.toNat % 64) < 18446744073709551616 := by
    have : (2 : Nat) ^ (i.toNat % 64) < 2 ^ 64 := Nat.pow_lt_pow_right (by decide) (Nat.mod_lt _ (by decide))
    simpa using this
  have hv : bOr .u64 (W.getD k 0) (bShl .u64 1 (i.tmod 64)) = ((w ||| 2 ^ (i.toNat % 64) : Nat) : Int) := by
    rw [hq, hw, bShl_nat (Nat.mod_lt _ (by decide)), bOr_nat hw2 hp]
  have hor : w ||| 2 ^ (i.toNat % 64) < 18446744073709551616 := by
    have : w ||| 2 ^ (i.toNat % 64) < 2 ^ 64 := Nat.or_lt_two_pow (by omega) (by omega)
    simpa using this
  have hs : setBit W i = W.set k ((w ||| 2 ^ (i.toNat % 64) : Nat) : Int) := by unfold setBit; rw [hk, hv]
  have hok : okW (setBit W i) := by
    intro j
    rw [hs]
    by_cases hj : j = k ∧ k < W.length
    · rw [hj.1, List.getD_eq_getElem?_getD, List.getElem?_set_self hj.2]; simp; omega
    · have : (W.set k ((w ||| 2 ^ (i.toNat % 64) : Nat) : Int)).getD j 0 = W.getD j 0 := by
        rw [List.getD_eq_getElem?_getD, List.getD_eq_getElem?_getD]
        by_cases hjk : k = j
        · subst hjk
          rw [List.getElem?_eq_none (by simp; omega), List.getElem?_eq_none (by omega)]
        · rw [List.getElem?_set_ne hjk]
      rw [this]; exact h j
  refine ⟨hok, fun j hj hl => ?_⟩
  rw [hasW_bit hj (hok _).1, hasW_bit hj (h _).1]
  rw [hs]
  have hjq : (j.tdiv 64).toNat = j.toNat / 64 := by rw [Int.tdiv_eq_ediv_of_nonneg hj]; omega
  have hiq : k = i.toNat / 64 := by rw [← hk, Int.tdiv_eq_ediv_of_nonneg h0]; omega
  rw [hjq] at hl ⊢
  by_cases hjk : j.toNat / 64 = k
  · rw [hjk] at hl ⊢
    rw [List.getD_eq_getElem?_getD, List.getElem?_set_self hl, Option.getD_some, Int.toNat_natCast, Nat.testBit_or, Nat.testBit_two_pow, hw, Int.toNat_natCast, Bool.or_comm]
    congr 1
    by_cases e : i = j
    · subst e; simp
    · have : i.toNat % 64 ≠ j.toNat % 64 := by omega
      simp [e, this]
  · rw [List.getD_eq_getElem?_getD, List.getElem?_set_ne (fun e => hjk e.symm), ← List.getD_eq_getElem?_getD]
    have e : i ≠ j := by rintro rfl; exact hjk hiq.symm
    simp [e]
theorem okW_zero (n : Nat) : okW (List.replicate n 0) := fun i => by
  rw [List.getD_eq_getElem?_getD, List.getElem?_replicate]; split <;> simp
theorem bAnd_nat {a b : Nat} (ha : a < 18446744073709551616) (hb : b < 18446744073709551616) : bAnd .u64 (a : Int) (b : Int) = ((a &&& b : Nat) : Int) := by
  unfold bAnd
  have e : (BitVec.ofInt IntKind.u64.bits (a : Int) &&& BitVec.ofInt IntKind.u64.bits (b : Int)).toNat = a &&& b := by
    show (BitVec.ofInt 64 (a : Int) &&& BitVec.ofInt 64 (b : Int) : BitVec 64).toNat = _
    rw [BitVec.toNat_and, BitVec.ofInt_natCast, BitVec.ofInt_natCast, BitVec.toNat_ofNat, BitVec.toNat_ofNat, Nat.mod_eq_of_lt (by omega), Nat.mod_eq_of_lt (by omega)]
  rw [e]
  have : a &&& b < 2 ^ 64 := Nat.and_lt_two_pow _ (by omega)
  simp [IntKind.wrap, IntKind.signed, IntKind.bits]
  omega
/-- A bit, as the program asks for it. -/
def bitW (M i : Int) : Int := bAnd .u64 (bShr .u64 M i) 1
theorem bitW_nat {m i : Nat} (hm : m < 18446744073709551616) (hi : i < 64) : bitW m i = if m.testBit i then 1 else 0 := by
  unfold bitW
  have hs : m >>> i ≤ m := by rw [Nat.shiftRight_eq_div_pow]; exact Nat.div_le_self _ _
  rw [bShr_nat hi, show (1 : Int) = ((1 : Nat) : Int) from rfl, bAnd_nat (by omega) (by decide), Nat.and_one_is_mod, Nat.testBit_eq_decide_div_mod_eq, Nat.shiftRight_eq_div_pow]
  generalize m / 2 ^ i = d
  rcases Nat.mod_two_eq_zero_or_one d with h | h <;> simp [h]
theorem setW_hasA (b : List Bool) : ∀ j, j ≤ b.length → okW (setW b j) ∧ ∀ i : Nat, ((i : Int).tdiv 64).toNat < (wordsN b.length).toNat → hasW (setW b j) i = (decide (i < j) && b.getD i false)
  | 0, _ => ⟨by unfold setW; exact okW_zero _, fun i hi => by
      have : hasW (List.replicate (wordsN b.length).toNat 0) i = false := by
        rw [hasW_bit (by omega) (okW_zero _ _).1]
        have : (List.replicate (wordsN b.length).toNat (0 : Int)).getD ((i : Int).tdiv 64).toNat 0 = 0 := by
          rw [List.getD_eq_getElem?_getD, List.getElem?_replicate]; split <;> rfl
        rw [this]; simp
      simpa [setW] using this⟩
  | j + 1, hj => by
    obtain ⟨h1, h2⟩ := setW_hasA b j (by omega)
    rw [setW_succ]
    by_cases hb : b.getD j false = true
    · rw [if_pos hb]
      obtain ⟨h3, h4⟩ := h1.set (i := (j : Int)) (by omega)
      refine ⟨h3, fun i hi => ?_⟩
      rw [h4 i (by omega) (by rw [setW_len]; exact hi), h2 i hi]
      by_cases e : j = i
      · subst e; rw [hb]; simp
      · have : ((j : Int) = (i : Int)) = False := by simp; omega
        simp only [this, decide_false, Bool.false_or]
        congr 1
        simp; omega
    · rw [if_neg hb]
      refine ⟨h1, fun i hi => ?_⟩
      rw [h2 i hi]
      by_cases e : j = i
      · subst e
        have : b.getD j false = false := by simpa using hb
        rw [this]; simp
      · congr 1
        simp; omega
theorem bit_hasW {W : List Int} (hW : okW W) {i : Int} (h0 : 0 ≤ i) : decide (bAnd .u64 (bShr .u64 (W.getD (i.tdiv 64).toNat 0) (i.tmod 64)) 1 = 1) = hasW W i := by
  rw [hasW_bit h0 (hW _).1]
  obtain ⟨w, hw⟩ : ∃ w : Nat, W.getD (i.tdiv 64).toNat 0 = w := ⟨_, (Int.toNat_of_nonneg (hW _).1).symm⟩
  have hw2 := (hW (i.tdiv 64).toNat).2
  rw [hw] at hw2 ⊢
  have e : i.tmod 64 = ((i.toNat % 64 : Nat) : Int) := by rw [Int.tmod_eq_emod_of_nonneg h0]; omega
  have := bitW_nat (m := w) (i := i.toNat % 64) (by omega) (Nat.mod_lt _ (by decide))
  unfold bitW at this
  rw [e, this, Int.toNat_natCast]
  cases w.testBit (i.toNat % 64) <;> simp
def topB (N : Int) (W : List Int) : Bool := decide (N.tmod 64 = 0) || decide (bShr .u64 (W.getD (W.length - 1) 0) (N.tmod 64) = 0)
def validS (N : Int) (W : List Int) : Bool := decide (0 ≤ N) && decide (N ≤ 512) && decide ((W.length : Int) = wordsN N) && topB N W
theorem validS_sz {N : Int} {W : List Int} (h : validS N W = true) : 0 ≤ N ∧ N ≤ 512 ∧ (W.length : Int) = wordsN N := by
  simp only [validS, Bool.and_eq_true, decide_eq_true_eq] at h; exact ⟨h.1.1.1, h.1.1.2, h.1.2⟩
theorem wordsN_ref (N : Int) : (N + 63).tdiv 64 = wordsN N := by unfold wordsN; congr 1; omega
theorem top_ix {N : Int} {W : List Int} (h0 : 0 ≤ N) (hl : (W.length : Int) = wordsN N) (hm : N.tmod 64 ≠ 0) : (N.tdiv 64).toNat = W.length - 1 ∧ N.tdiv 64 < W.length := by
  unfold wordsN at hl
  rw [Int.tdiv_eq_ediv_of_nonneg (by omega)] at hl ⊢
  rw [Int.tmod_eq_emod_of_nonneg h0] at hm
  omega
theorem shr_zero {w k : Nat} (h : ∀ i, k ≤ i → w.testBit i = false) : w >>> k = 0 := by
  refine Nat.eq_of_testBit_eq fun i => ?_
  rw [Nat.testBit_shiftRight, Nat.zero_testBit]
  exact h _ (by omega)
theorem validS_setW {b : List Bool} (hb : b.length ≤ 512) : validS b.length (setW b b.length) = true := by
  obtain ⟨ho, hh⟩ := setW_hasA b b.length (Nat.le_refl _)
  have hwn := wordsN_rng (n := (b.length : Int)) (by omega)
  have hl := setW_len b b.length
  simp only [validS, Bool.and_eq_true, decide_eq_true_eq]
  refine ⟨⟨⟨by omega, by omega⟩, by rw [hl]; omega⟩, ?_⟩
  simp only [topB, Bool.or_eq_true, decide_eq_true_eq]
  by_cases hm : (b.length : Int).tmod 64 = 0
  · exact .inl hm
  · right
    have hix := top_ix (N := (b.length : Int)) (W := setW b b.length) (by omega) (by rw [hl]; omega) hm
    rw [Int.tmod_eq_emod_of_nonneg (by omega)] at hm ⊢
    rw [Int.tdiv_eq_ediv_of_nonneg (by omega)] at hix
    generalize hW : setW b b.length = W at *
    have hw := ho (W.length - 1)
    obtain ⟨w, hw1⟩ : ∃ w : Nat, W.getD (W.length - 1) 0 = w := ⟨_, (Int.toNat_of_nonneg hw.1).symm⟩
    rw [hw1] at hw ⊢
    rw [show ((b.length : Int) % 64) = ((b.length % 64 : Nat) : Int) by omega, bShr_nat (Nat.mod_lt _ (by decide)), shr_zero]
    · rfl
    · intro i hi
      by_cases h64 : i < 64
      · have hq : (((64 * (W.length - 1) + i : Nat) : Int).tdiv 64).toNat = W.length - 1 := by rw [Int.tdiv_eq_ediv_of_nonneg (by omega)]; omega
        have := hh (64 * (W.length - 1) + i) (by rw [hq]; omega)
        rw [hasW_bit (by omega) (by rw [hq, hw1]; omega), hq, hw1, Int.toNat_natCast, Int.toNat_natCast, show (64 * (W.length - 1) + i) % 64 = i by omega] at this
        rw [this]
        have : ¬ 64 * (W.length - 1) + i < b.length := by omega
        simp [this]
      · refine Nat.testBit_lt_two_pow (Nat.lt_of_lt_of_le (m := 2 ^ 64) (by simp only [Nat.reducePow]; omega) (Nat.pow_le_pow_right (by decide) (by omega)))
end Go.AM

/- The first that a test finds. -/
namespace Go.AM
def ixf {α : Type} (p : α → Bool) (l : List α) : Int := if l.any p then (l.findIdx p : Nat) else -1
theorem ixf_at {α : Type} {p : α → Bool} {l : List α} {j : Nat} {x : α} (hx : l[j]? = some x) (hp : p x = true) (h : (l.take j).any p = false) : ixf p l = j := by
  obtain ⟨hj, rfl⟩ := List.getElem?_eq_some_iff.1 hx
  have h1 : l.any p = true := List.any_eq_true.2 ⟨_, List.getElem_mem hj, hp⟩
  unfold ixf
  rw [if_pos h1, (List.findIdx_eq hj).2 ⟨hp, fun i hi => ?_⟩]
  have : ¬ p (l[i]'(by omega)) = true := fun hh => by
    have : (l.take j).any p = true := List.any_eq_true.2 ⟨l[i]'(by omega), by rw [List.mem_take_iff_getElem]; exact ⟨i, by omega, rfl⟩, hh⟩
    rw [this] at h; cases h
  simpa using this
theorem ixf_none {α : Type} {p : α → Bool} {l : List α} (h : l.any p = false) : ixf p l = -1 := by unfold ixf; rw [if_neg (by rw [h]; simp)]
theorem any_take_succ {α : Type} {p : α → Bool} {l : List α} {j : Nat} {x : α} (hx : l[j]? = some x) : (l.take (j + 1)).any p = ((l.take j).any p || p x) := by
  obtain ⟨hj, rfl⟩ := List.getElem?_eq_some_iff.1 hx
  rw [List.take_succ_eq_append_getElem hj, List.any_append]; simp
theorem ixf_ge {α : Type} (p : α → Bool) (l : List α) : (decide (0 ≤ ixf p l)) = l.any p := by
  unfold ixf
  cases h : l.any p <;> simp
end Go.AM

/- Sets as words, and as lists of truths. -/
namespace Go.AM
theorem getD_ext {a b : List Int} (hl : a.length = b.length) (h : ∀ k, k < a.length → a.getD k 0 = b.getD k 0) : a = b := by
  refine List.ext_getElem hl fun i h1 h2 => ?_
  have := h i h1
  simpa [List.getD_eq_getElem?_getD, h1, h2] using this
theorem getD_extB {a b : List Bool} (hl : a.length = b.length) (h : ∀ k, k < a.length → a.getD k false = b.getD k false) : a = b := by
  refine List.ext_getElem hl fun i h1 h2 => ?_
  have := h i h1
  simpa [List.getD_eq_getElem?_getD, h1, h2] using this
theorem tdiv64 (i : Nat) : ((i : Int).tdiv 64).toNat = i / 64 := by rw [Int.tdiv_eq_ediv_of_nonneg (by omega)]; omega
theorem hasW_nat {W : List Int} (hW : okW W) (i : Nat) : hasW W i = (W.getD (i / 64) 0).toNat.testBit (i % 64) := by
  rw [hasW_bit (by omega) (hW _).1, tdiv64, Int.toNat_natCast]
/-- Words are told by their bits. -/
theorem words_ext {a b : List Int} (ha : okW a) (hb : okW b) (hl : a.length = b.length) (h : ∀ i : Nat, i < 64 * a.length → hasW a i = hasW b i) : a = b := by
  refine getD_ext hl fun k hk => ?_
  have h1 := ha k
  have h2 := hb k
  have : (a.getD k 0).toNat = (b.getD k 0).toNat := by
    refine Nat.eq_of_testBit_eq fun i => ?_
    by_cases hi : i < 64
    · have := h (64 * k + i) (by omega)
      rw [hasW_nat ha, hasW_nat hb, show (64 * k + i) / 64 = k by omega, show (64 * k + i) % 64 = i by omega] at this
      exact this
    · have hp : 2 ^ 64 ≤ 2 ^ i := Nat.pow_le_pow_right (by decide) (by omega)
      simp only [Nat.reducePow] at hp
      rw [Nat.testBit_lt_two_pow (by omega), Nat.testBit_lt_two_pow (by omega)]
  omega
theorem setW_ok (b : List Bool) : okW (setW b b.length) := (setW_hasA b b.length (Nat.le_refl _)).1
theorem setW_len' (b : List Bool) : (setW b b.length).length = (wordsN b.length).toNat := setW_len b b.length
theorem hasW_setW (b : List Bool) {i : Nat} (hi : i / 64 < (setW b b.length).length) : hasW (setW b b.length) i = b.getD i false := by
  rw [setW_len'] at hi
  rw [(setW_hasA b b.length (Nat.le_refl _)).2 i (by rw [tdiv64]; exact hi)]
  by_cases h : i < b.length
  · simp [h]
  · rw [Go.AM.getD_out (by omega)]; simp
theorem div_words {n i : Nat} (h : i < n) : i / 64 < (wordsN n).toNat := by
  have := wordsN_rng (n := (n : Int)) (by omega)
  omega
/-- A valid set is that of its members. -/
theorem setW_of {N : Int} {W : List Int} (hW : okW W) (hv : validS N W = true) : ∃ b : List Bool, (b.length : Int) = N ∧ W = setW b b.length := by
  obtain ⟨h0, h1, h2⟩ := validS_sz hv
  have hwn := wordsN_rng (n := N) h0
  obtain ⟨b, hb⟩ : ∃ b : List Bool, b = (List.range N.toNat).map fun i => hasW W (i : Nat) := ⟨_, rfl⟩
  have hbl : b.length = N.toNat := by rw [hb]; simp
  have hbN : (b.length : Int) = N := by omega
  refine ⟨b, hbN, words_ext hW (setW_ok b) (by rw [setW_len', hbN]; omega) fun i hi => ?_⟩
  rw [hasW_setW b (by rw [setW_len', hbN]; omega)]
  by_cases h : i < N.toNat
  · rw [hb]; simp [List.getD_eq_getElem?_getD, h]
  · rw [Go.AM.getD_out (by omega), hasW_nat hW]
    simp only [validS, topB, Bool.and_eq_true, Bool.or_eq_true, decide_eq_true_eq] at hv
    have ht := hv.2
    by_cases hm : N.tmod 64 = 0
    · exfalso
      rw [Int.tmod_eq_emod_of_nonneg h0] at hm
      omega
    · have ht := ht.resolve_left hm
      have hix := top_ix h0 h2 hm
      rw [Int.tmod_eq_emod_of_nonneg h0] at hm ht
      have hw := hW (W.length - 1)
      rw [show N % 64 = ((N.toNat % 64 : Nat) : Int) by omega] at ht
      obtain ⟨w, hw1⟩ : ∃ w : Nat, W.getD (W.length - 1) 0 = w := ⟨_, (Int.toNat_of_nonneg hw.1).symm⟩
      rw [hw1, bShr_nat (Nat.mod_lt _ (by decide))] at ht
      rw [Int.tdiv_eq_ediv_of_nonneg h0] at hix
      have hq : i / 64 = W.length - 1 := by omega
      rw [hq, hw1, Int.toNat_natCast]
      have hz : w >>> (N.toNat % 64) = 0 := by exact_mod_cast ht
      have := congrArg (fun x => x.testBit (i % 64 - N.toNat % 64)) hz
      simp only [Nat.testBit_shiftRight, Nat.zero_testBit] at this
      rwa [show N.toNat % 64 + (i % 64 - N.toNat % 64) = i % 64 by omega] at this
theorem setBit_len (W : List Int) (i : Int) : (setBit W i).length = W.length := by simp [setBit]
theorem getD_setB (b : List Bool) (i j : Nat) (x : Bool) : (b.set i x).getD j false = if i = j ∧ i < b.length then x else b.getD j false := by
  by_cases h : i = j
  · subst h
    by_cases h2 : i < b.length
    · rw [Go.AM.getD_set_eq h2, if_pos ⟨rfl, h2⟩]
    · rw [List.set_eq_of_length_le (by omega), if_neg (by omega)]
  · rw [Go.AM.getD_set_ne h, if_neg (by rintro ⟨a, _⟩; exact h a)]
theorem setBit_setW (b : List Bool) {i : Nat} (h : i < b.length) : setBit (setW b b.length) (i : Int) = setW (b.set i true) b.length := by
  have h1 := (setW_ok b).set (i := (i : Int)) (by omega)
  have hl : (b.set i true).length = b.length := by simp
  have h2 := setW_ok (b.set i true)
  have h3 := fun (j : Nat) => hasW_setW (b.set i true) (i := j)
  have h4 := setW_len' (b.set i true)
  rw [hl] at h2 h3 h4
  refine words_ext h1.1 h2 (by rw [setBit_len, setW_len', h4]) fun j hj => ?_
  rw [setBit_len, setW_len'] at hj
  rw [h1.2 j (by omega) (by rw [tdiv64, setW_len']; omega), h3 _ (by omega), hasW_setW b (by rw [setW_len']; omega), getD_setB]
  by_cases e : i = j
  · subst e; simp [h]
  · have : ((i : Int) = (j : Int)) = False := by simp; omega
    simp [e, this]
theorem setW_zero (n : Nat) : setW (List.replicate n false) n = List.replicate (wordsN n).toNat 0 := by
  have hl : (List.replicate n false).length = n := by simp
  have h2 := setW_ok (List.replicate n false)
  have h3 := fun (j : Nat) => hasW_setW (List.replicate n false) (i := j)
  have h4 := setW_len' (List.replicate n false)
  rw [hl] at h2 h3 h4
  refine words_ext h2 (okW_zero _) (by rw [h4]; simp) fun j hj => ?_
  rw [h3 _ (by omega), hasW_nat (okW_zero _)]
  have e1 : (List.replicate n false).getD j false = false := by rw [List.getD_eq_getElem?_getD, List.getElem?_replicate]; split <;> rfl
  have e2 : (List.replicate (wordsN n).toNat (0 : Int)).getD (j / 64) 0 = 0 := by rw [List.getD_eq_getElem?_getD, List.getElem?_replicate]; split <;> rfl
  rw [e1, e2]; simp
/-- A word is made of two. -/
theorem zipW_get (f : Int → Int → Int) {A B : List Int} (hl : A.length = B.length) {k : Nat} (hk : k < A.length) : (List.zipWith f A B).getD k 0 = f (A.getD k 0) (B.getD k 0) := by
  simp [List.getD_eq_getElem?_getD, List.getElem?_zipWith, hk, show k < B.length by omega]
theorem zipB_get (f : Bool → Bool → Bool) {a b : List Bool} (hl : a.length = b.length) {k : Nat} (hk : k < a.length) : (List.zipWith f a b).getD k false = f (a.getD k false) (b.getD k false) := by
  simp [List.getD_eq_getElem?_getD, List.getElem?_zipWith, hk, show k < b.length by omega]
structure BitOp (f : Int → Int → Int) (g : Bool → Bool → Bool) : Prop where
  rng : ∀ a b : Int, 0 ≤ a → a < 18446744073709551616 → 0 ≤ b → b < 18446744073709551616 → 0 ≤ f a b ∧ f a b < 18446744073709551616
  bit : ∀ (a b : Int) (i : Nat), 0 ≤ a → a < 18446744073709551616 → 0 ≤ b → b < 18446744073709551616 → i < 64 → (f a b).toNat.testBit i = g (a.toNat.testBit i) (b.toNat.testBit i)
  zer : g false false = false
theorem zipW_setW {f : Int → Int → Int} {g : Bool → Bool → Bool} (hf : BitOp f g) {a b : List Bool} (hl : a.length = b.length) : List.zipWith f (setW a a.length) (setW b b.length) = setW (List.zipWith g a b) a.length := by
  have hzl : (List.zipWith g a b).length = a.length := by simp; omega
  have ha := setW_ok a
  have hb := setW_ok b
  have hla := setW_len' a
  have hlb := setW_len' b
  have h2 := setW_ok (List.zipWith g a b)
  have h3 := fun (j : Nat) => hasW_setW (List.zipWith g a b) (i := j)
  have h4 := setW_len' (List.zipWith g a b)
  rw [hzl] at h2 h3 h4
  have hll : (setW a a.length).length = (setW b b.length).length := by rw [hla, hlb, hl]
  have hok : okW (List.zipWith f (setW a a.length) (setW b b.length)) := fun k => by
    by_cases hk : k < (setW a a.length).length
    · rw [zipW_get f hll hk]
      exact hf.rng _ _ (ha k).1 (ha k).2 (hb k).1 (hb k).2
    · rw [Go.AM.getD_out (by simp; omega)]; simp
  refine words_ext hok h2 (by rw [List.length_zipWith, ← hll, hla, h4]; omega) fun i hi => ?_
  simp only [List.length_zipWith] at hi
  have hia : i / 64 < (setW a a.length).length := by omega
  rw [hasW_nat hok, zipW_get f hll hia, hf.bit _ _ _ (ha _).1 (ha _).2 (hb _).1 (hb _).2 (Nat.mod_lt _ (by decide)), ← hasW_nat ha, ← hasW_nat hb, hasW_setW a hia, hasW_setW b (by omega), h3 _ (by omega)]
  by_cases h : i < a.length
  · rw [zipB_get g hl h]
  · rw [Go.AM.getD_out (by omega), Go.AM.getD_out (by omega), Go.AM.getD_out (by omega), hf.zer]
theorem nat_of {a : Int} (h : 0 ≤ a) : ∃ n : Nat, a = n := ⟨a.toNat, by omega⟩
theorem bitOp_or : BitOp (bOr .u64) (· || ·) := by
  refine ⟨fun a b h1 h2 h3 h4 => ?_, fun a b i h1 h2 h3 h4 _ => ?_, rfl⟩
  · obtain ⟨m, rfl⟩ := nat_of h1; obtain ⟨n, rfl⟩ := nat_of h3
    rw [bOr_nat (by omega) (by omega)]
    have : m ||| n < 2 ^ 64 := Nat.or_lt_two_pow (by omega) (by omega)
    simp only [Nat.reducePow] at this; omega
  · obtain ⟨m, rfl⟩ := nat_of h1; obtain ⟨n, rfl⟩ := nat_of h3
    rw [bOr_nat (by omega) (by omega), Int.toNat_natCast, Nat.testBit_or]; rfl
theorem bAndNot_bv {a b : Nat} (ha : a < 18446744073709551616) (hb : b < 18446744073709551616) : bAndNot .u64 (a : Int) (b : Int) = ((BitVec.ofNat 64 a &&& ~~~ BitVec.ofNat 64 b).toNat : Int) := by
  unfold bAndNot
  have e : (BitVec.ofInt IntKind.u64.bits (a : Int) &&& ~~~ BitVec.ofInt IntKind.u64.bits (b : Int)).toNat = (BitVec.ofNat 64 a &&& ~~~ BitVec.ofNat 64 b).toNat := by
    show (BitVec.ofInt 64 (a : Int) &&& ~~~ BitVec.ofInt 64 (b : Int) : BitVec 64).toNat = _
    rw [BitVec.ofInt_natCast, BitVec.ofInt_natCast]
  rw [e]
  have := (BitVec.ofNat 64 a &&& ~~~ BitVec.ofNat 64 b).isLt
  generalize (BitVec.ofNat 64 a &&& ~~~ BitVec.ofNat 64 b).toNat = x at *
  simp only [Nat.reducePow] at this
  simp [IntKind.wrap, IntKind.signed, IntKind.bits]
  omega
theorem bitOp_andNot : BitOp (bAndNot .u64) (fun x y => x && !y) := by
  refine ⟨fun a b h1 h2 h3 h4 => ?_, fun a b i h1 h2 h3 h4 hi => ?_, rfl⟩
  · obtain ⟨m, rfl⟩ := nat_of h1; obtain ⟨n, rfl⟩ := nat_of h3
    rw [bAndNot_bv (by omega) (by omega)]
    have := (BitVec.ofNat 64 m &&& ~~~ BitVec.ofNat 64 n).isLt
    simp only [Nat.reducePow] at this; omega
  · obtain ⟨m, rfl⟩ := nat_of h1; obtain ⟨n, rfl⟩ := nat_of h3
    rw [bAndNot_bv (by omega) (by omega), Int.toNat_natCast, BitVec.testBit_toNat, BitVec.getLsbD_and, BitVec.getLsbD_not, BitVec.getLsbD_ofNat, BitVec.getLsbD_ofNat]
    simp [hi]
end Go.AM

/- Relations as tables of truths. -/
namespace Go.AM
def rowV (x : USet) : List AV := [.int .i64 x.N, .rsl 1 (words x.W)]
def rowB (b : List Bool) : List AV := [.int .i64 b.length, .rsl 1 (words (setW b b.length))]
def rowO (b : List Bool) : List AV := [.int .i64 b.length, .osl 1 (words (setW b b.length))]
def tabR (t : List (List Bool)) : List (List AV) := t.map rowB
def tabO (t : List (List Bool)) : List (List AV) := t.map rowO
def SB (b : List Bool) : USet := ⟨b.length, setW b b.length⟩
theorem tabR_SB (t : List (List Bool)) : tabR t = (t.map SB).map rowV := by simp [tabR, rowB, SB, rowV]
def relB (t : List (List Bool)) : AV := .agg [.rsl 2 (tabR t)]
def relV (rs : List USet) : AV := .agg [.rsl 2 (rs.map rowV)]
theorem relB_SB (t : List (List Bool)) : relB t = relV (t.map SB) := by rw [relB, relV, tabR_SB]
structure Sq (n : Nat) (t : List (List Bool)) : Prop where
  len : t.length = n
  row : ∀ b ∈ t, b.length = n
def rowT (t : List (List Bool)) (i : Nat) : List Bool := t.getD i []
def atT (t : List (List Bool)) (i j : Nat) : Bool := (rowT t i).getD j false
theorem Sq.rowLen {n : Nat} {t : List (List Bool)} (h : Sq n t) {i : Nat} (hi : i < n) : (rowT t i).length = n := h.row _ (mem_getD (by rw [h.len]; exact hi) _)
theorem Sq.set {n : Nat} {t : List (List Bool)} (h : Sq n t) (i : Nat) {b : List Bool} (hb : b.length = n) : Sq n (t.set i b) :=
  ⟨by simp [h.len], fun c hc => by rcases List.mem_or_eq_of_mem_set hc with h1 | h1; exact h.row c h1; rw [h1, hb]⟩
theorem Sq.rep (n : Nat) : Sq n (List.replicate n (List.replicate n false)) := ⟨by simp, fun b hb => by rw [List.eq_of_mem_replicate hb]; simp⟩
theorem rowT_set (t : List (List Bool)) (i k : Nat) (b : List Bool) : rowT (t.set i b) k = if i = k ∧ i < t.length then b else rowT t k := by
  unfold rowT
  by_cases h : i = k
  · subst h
    by_cases h2 : i < t.length
    · rw [Go.AM.getD_set_eq h2, if_pos ⟨rfl, h2⟩]
    · rw [List.set_eq_of_length_le (by omega), if_neg (by omega)]
  · rw [Go.AM.getD_set_ne h, if_neg (by rintro ⟨a, _⟩; exact h a)]
theorem rowT_of {t : List (List Bool)} {i : Nat} {b : List Bool} (h : t[i]? = some b) : rowT t i = b := getD_of h _
theorem rowT_get {t : List (List Bool)} {i : Nat} (h : i < t.length) : t[i]? = some (rowT t i) := by unfold rowT; simp [List.getD_eq_getElem?_getD, h]
theorem tab_ext {n : Nat} {t u : List (List Bool)} (ht : Sq n t) (hu : Sq n u) (h : ∀ i j, i < n → j < n → atT t i j = atT u i j) : t = u := by
  refine List.ext_getElem (by rw [ht.len, hu.len]) fun i h1 h2 => ?_
  have hi : i < n := by rw [← ht.len]; exact h1
  have e1 : rowT t i = t[i] := rowT_of (List.getElem?_eq_getElem h1)
  have e2 : rowT u i = u[i] := rowT_of (List.getElem?_eq_getElem h2)
  rw [← e1, ← e2]
  refine getD_extB (by rw [ht.rowLen hi, hu.rowLen hi]) fun k hk => h i k hi (by rw [ht.rowLen hi] at hk; exact hk)
def validR (rs : List USet) : Bool := decide (rs.length ≤ 512) && rs.all fun x => decide (x.N = rs.length) && validS x.N x.W
theorem all_map {α β : Type} {f : α → β} {p : α → Prop} : ∀ {l : List β}, (∀ x ∈ l, ∃ a, x = f a ∧ p a) → ∃ m : List α, l = m.map f ∧ ∀ a ∈ m, p a
  | [], _ => ⟨[], rfl, fun _ h => by cases h⟩
  | x :: l, h => by
    obtain ⟨a, rfl, ha⟩ := h x (List.mem_cons_self ..)
    obtain ⟨m, rfl, hm⟩ := all_map fun y hy => h y (List.mem_cons_of_mem _ hy)
    exact ⟨a :: m, rfl, fun b hb => by rcases List.mem_cons.1 hb with rfl | hb; exact ha; exact hm b hb⟩
/-- A valid relation is a table. -/
theorem rel_of {rs : List USet} (hok : ∀ x ∈ rs, okW x.W) (hv : validR rs = true) : ∃ t, rs = t.map SB ∧ Sq rs.length t ∧ rs.length ≤ 512 := by
  simp only [validR, Bool.and_eq_true, decide_eq_true_eq, List.all_eq_true] at hv
  obtain ⟨h1, h2⟩ := hv
  obtain ⟨t, ht, hb⟩ := all_map (f := SB) (p := fun b => b.length = rs.length) (l := rs) fun x hx => by
    obtain ⟨b, g1, g2⟩ := setW_of (hok x hx) (h2 x hx).2
    have := (h2 x hx).1
    refine ⟨b, ?_, by omega⟩
    obtain ⟨N, W⟩ := x
    simp only [SB] at *
    rw [g1, g2]
  exact ⟨t, ht, ⟨by rw [ht]; simp, hb⟩, h1⟩
theorem valid_tab {n : Nat} {t : List (List Bool)} (h : Sq n t) (hn : n ≤ 512) : validR (t.map SB) = true := by
  simp only [validR, Bool.and_eq_true, decide_eq_true_eq, List.all_eq_true, List.length_map, h.len]
  refine ⟨hn, fun x hx => ?_⟩
  obtain ⟨b, hb, rfl⟩ := List.mem_map.1 hx
  have hbl := h.row b hb
  exact ⟨by simp [SB, hbl], validS_setW (by omega)⟩
section
variable (s : Store) (d : Nat) (m : Ref → Option Ref)
theorem vwc_tabO (t : List (List Bool)) : (tabO t).map (fun cs => cs.map (vwc s (d + 1))) = tabR t := by simp [tabO, tabR, rowO, rowB, vwc_osl, vwc_int, vw_words]
theorem vwcF_tabO (t : List (List Bool)) : (tabO t).map (fun cs => cs.map (vwcF s (d + 1))) = tabR t := by simp [tabO, tabR, rowO, rowB, vwcF_osl, vwcF_int, vwF_words]
theorem renC_tabO (t : List (List Bool)) : (tabO t).map (fun row => row.map (renC m d)) = tabO t := by simp [tabO, rowO, renC, ren_int, ren_words]
end
theorem tabO_len (t : List (List Bool)) : (tabO t).length = t.length := by simp [tabO]
theorem tabR_len (t : List (List Bool)) : (tabR t).length = t.length := by simp [tabR]
theorem tabO_get {t : List (List Bool)} {i : Nat} (h : i < t.length) : (tabO t).getD i [] = rowO (rowT t i) := getV (rowT_get h)
theorem tabR_get {t : List (List Bool)} {i : Nat} (h : i < t.length) : (tabR t).getD i [] = rowB (rowT t i) := getV (rowT_get h)
theorem tabO_set (t : List (List Bool)) (i : Nat) (b : List Bool) : (tabO t).set i (rowO b) = tabO (t.set i b) := by simp [tabO, List.map_set]
theorem tabO_app (t : List (List Bool)) (b : List Bool) : tabO t ++ [rowO b] = tabO (t ++ [b]) := by simp [tabO]
theorem hasW_row {b : List Bool} {j : Nat} (h : j < b.length) : hasW (setW b b.length) (j : Int) = b.getD j false := hasW_setW b (by rw [setW_len']; exact div_words h)
/-! ### Truths in rows, for the reference. -/
section
variable (s : Store) (d : Nat) (m : Ref → Option Ref)
end
end Go.AM

namespace Go.Proofs.R
open Go.AM
set_option maxRecDepth 100000
@[go_sem] theorem tyd1 : tyd Try.prog 1 = some (1, false) := by kernel_rfl
@[go_sem] theorem zeC1 : zeC Try.prog 1 = some [.any] := by kernel_rfl
@[go_sem] theorem byD1 : byD Try.prog 1 = some 8 := by kernel_rfl
@[go_sem] theorem tyd2 : tyd Try.prog 2 = some (1, false) := by kernel_rfl
@[go_sem] theorem zeC2 : zeC Try.prog 2 = some [.int .i64 0] := by kernel_rfl
@[go_sem] theorem byD2 : byD Try.prog 2 = some 8 := by kernel_rfl
@[go_sem] theorem inD2 : inD Try.prog 2 = some .i64 := by kernel_rfl
@[go_sem] theorem und2 : Try.prog.underlying 2 = some (.int .i64) := by kernel_rfl
@[go_sem] theorem valD2 : valD Try.prog 2 = some (some .i64) := by kernel_rfl
@[go_sem] theorem tyd3 : tyd Try.prog 3 = some (1, false) := by kernel_rfl
@[go_sem] theorem zeC3 : zeC Try.prog 3 = some [.int .i64 0] := by kernel_rfl
@[go_sem] theorem byD3 : byD Try.prog 3 = some 8 := by kernel_rfl
@[go_sem] theorem inD3 : inD Try.prog 3 = some .i64 := by kernel_rfl
@[go_sem] theorem und3 : Try.prog.underlying 3 = some (.int .i64) := by kernel_rfl
@[go_sem] theorem valD3 : valD Try.prog 3 = some (some .i64) := by kernel_rfl
@[go_sem] theorem tyd4 : tyd Try.prog 4 = some (1, false) := by kernel_rfl
@[go_sem] theorem zeC4 : zeC Try.prog 4 = some [.bool false] := by kernel_rfl
@[go_sem] theorem byD4 : byD Try.prog 4 = some 1 := by kernel_rfl
@[go_sem] theorem valD4 : valD Try.prog 4 = some none := by kernel_rfl
@[go_sem] theorem und4 : Try.prog.underlying 4 = some .bool := by kernel_rfl
@[go_sem] theorem tyd5 : tyd Try.prog 5 = some (1, false) := by kernel_rfl
@[go_sem] theorem zeC5 : zeC Try.prog 5 = some [.int .u8 0] := by kernel_rfl
@[go_sem] theorem byD5 : byD Try.prog 5 = some 1 := by kernel_rfl
@[go_sem] theorem inD5 : inD Try.prog 5 = some .u8 := by kernel_rfl
@[go_sem] theorem und5 : Try.prog.underlying 5 = some (.int .u8) := by kernel_rfl
@[go_sem] theorem valD5 : valD Try.prog 5 = some (some .u8) := by kernel_rfl
@[go_sem] theorem tyd6 : tyd Try.prog 6 = some (1, false) := by kernel_rfl
@[go_sem] theorem zeC6 : zeC Try.prog 6 = some [.int .u8 0] := by kernel_rfl
@[go_sem] theorem byD6 : byD Try.prog 6 = some 1 := by kernel_rfl
@[go_sem] theorem inD6 : inD Try.prog 6 = some .u8 := by kernel_rfl
@[go_sem] theorem und6 : Try.prog.underlying 6 = some (.int .u8) := by kernel_rfl
@[go_sem] theorem valD6 : valD Try.prog 6 = some (some .u8) := by kernel_rfl
@[go_sem] theorem tyd7 : tyd Try.prog 7 = some (4, true) := by kernel_rfl
@[go_sem] theorem flD7_0 : flD Try.prog 7 0 = some (2, 0, 1) := by kernel_rfl
@[go_sem] theorem flD7_1 : flD Try.prog 7 1 = some (3, 1, 1) := by kernel_rfl
@[go_sem] theorem flD7_2 : flD Try.prog 7 2 = some (4, 2, 1) := by kernel_rfl
@[go_sem] theorem flD7_3 : flD Try.prog 7 3 = some (6, 3, 1) := by kernel_rfl
@[go_sem] theorem stD7 : stD Try.prog 7 = some [(0, 1), (1, 1), (2, 1), (3, 1)] := by kernel_rfl
@[go_sem] theorem zeC7 : zeC Try.prog 7 = some [.int .i64 0, .int .i64 0, .bool false, .int .u8 0] := by kernel_rfl
@[go_sem] theorem byD7 : byD Try.prog 7 = some 24 := by kernel_rfl
@[go_sem] theorem tyd8 : tyd Try.prog 8 = some (4, true) := by kernel_rfl
@[go_sem] theorem flD8_0 : flD Try.prog 8 0 = some (2, 0, 1) := by kernel_rfl
@[go_sem] theorem flD8_1 : flD Try.prog 8 1 = some (3, 1, 1) := by kernel_rfl
@[go_sem] theorem flD8_2 : flD Try.prog 8 2 = some (4, 2, 1) := by kernel_rfl
@[go_sem] theorem flD8_3 : flD Try.prog 8 3 = some (6, 3, 1) := by kernel_rfl
@[go_sem] theorem stD8 : stD Try.prog 8 = some [(0, 1), (1, 1), (2, 1), (3, 1)] := by kernel_rfl
@[go_sem] theorem zeC8 : zeC Try.prog 8 = some [.int .i64 0, .int .i64 0, .bool false, .int .u8 0] := by kernel_rfl
@[go_sem] theorem byD8 : byD Try.prog 8 = some 24 := by kernel_rfl
@[go_sem] theorem tyd9 : tyd Try.prog 9 = some (1, false) := by kernel_rfl
@[go_sem] theorem zeC9 : zeC Try.prog 9 = some [.str ByteArray.empty] := by kernel_rfl
@[go_sem] theorem byD9 : byD Try.prog 9 = some 16 := by kernel_rfl
@[go_sem] theorem und9 : Try.prog.underlying 9 = some .string := by kernel_rfl
@[go_sem] theorem tyd10 : tyd Try.prog 10 = some (1, false) := by kernel_rfl
@[go_sem] theorem zeC10 : zeC Try.prog 10 = some [.str ByteArray.empty] := by kernel_rfl
@[go_sem] theorem byD10 : byD Try.prog 10 = some 16 := by kernel_rfl
@[go_sem] theorem und10 : Try.prog.underlying 10 = some .string := by kernel_rfl
@[go_sem] theorem tyd11 : tyd Try.prog 11 = some (1, false) := by kernel_rfl
@[go_sem] theorem zeC11 : zeC Try.prog 11 = some [.str ByteArray.empty] := by kernel_rfl
@[go_sem] theorem byD11 : byD Try.prog 11 = some 16 := by kernel_rfl
@[go_sem] theorem und11 : Try.prog.underlying 11 = some .string := by kernel_rfl
@[go_sem] theorem tyd12 : tyd Try.prog 12 = some (1, false) := by kernel_rfl
@[go_sem] theorem zeC12 : zeC Try.prog 12 = some [.int .u64 0] := by kernel_rfl
@[go_sem] theorem byD12 : byD Try.prog 12 = some 8 := by kernel_rfl
@[go_sem] theorem inD12 : inD Try.prog 12 = some .u64 := by kernel_rfl
@[go_sem] theorem und12 : Try.prog.underlying 12 = some (.int .u64) := by kernel_rfl
@[go_sem] theorem valD12 : valD Try.prog 12 = some (some .u64) := by kernel_rfl
@[go_sem] theorem tyd13 : tyd Try.prog 13 = some (2, true) := by kernel_rfl
@[go_sem] theorem flD13_0 : flD Try.prog 13 0 = some (9, 0, 1) := by kernel_rfl
@[go_sem] theorem flD13_1 : flD Try.prog 13 1 = some (12, 1, 1) := by kernel_rfl
@[go_sem] theorem stD13 : stD Try.prog 13 = some [(0, 1), (1, 1)] := by kernel_rfl
@[go_sem] theorem zeC13 : zeC Try.prog 13 = some [.str ByteArray.empty, .int .u64 0] := by kernel_rfl
@[go_sem] theorem byD13 : byD Try.prog 13 = some 24 := by kernel_rfl
@[go_sem] theorem tyd14 : tyd Try.prog 14 = some (2, true) := by kernel_rfl
@[go_sem] theorem flD14_0 : flD Try.prog 14 0 = some (9, 0, 1) := by kernel_rfl
@[go_sem] theorem flD14_1 : flD Try.prog 14 1 = some (12, 1, 1) := by kernel_rfl
@[go_sem] theorem stD14 : stD Try.prog 14 = some [(0, 1), (1, 1)] := by kernel_rfl
@[go_sem] theorem zeC14 : zeC Try.prog 14 = some [.str ByteArray.empty, .int .u64 0] := by kernel_rfl
@[go_sem] theorem byD14 : byD Try.prog 14 = some 24 := by kernel_rfl
@[go_sem] theorem tyd15 : tyd Try.prog 15 = some (1, false) := by kernel_rfl
@[go_sem] theorem zeC15 : zeC Try.prog 15 = some [.nilp] := by kernel_rfl
@[go_sem] theorem byD15 : byD Try.prog 15 = some 8 := by kernel_rfl
@[go_sem] theorem tyd16 : tyd Try.prog 16 = some (1, false) := by kernel_rfl
@[go_sem] theorem zeC16 : zeC Try.prog 16 = some [.nilp] := by kernel_rfl
@[go_sem] theorem byD16 : byD Try.prog 16 = some 8 := by kernel_rfl
@[go_sem] theorem tyd17 : tyd Try.prog 17 = some (1, false) := by kernel_rfl
@[go_sem] theorem zeC17 : zeC Try.prog 17 = some [.nilp] := by kernel_rfl
@[go_sem] theorem byD17 : byD Try.prog 17 = some 8 := by kernel_rfl
@[go_sem] theorem tyd18 : tyd Try.prog 18 = some (1, true) := by kernel_rfl
@[go_sem] theorem flD18_0 : flD Try.prog 18 0 = some (17, 0, 1) := by kernel_rfl
@[go_sem] theorem stD18 : stD Try.prog 18 = some [(0, 1)] := by kernel_rfl
@[go_sem] theorem zeC18 : zeC Try.prog 18 = some [.nilp] := by kernel_rfl
@[go_sem] theorem byD18 : byD Try.prog 18 = some 8 := by kernel_rfl
@[go_sem] theorem tyd19 : tyd Try.prog 19 = some (1, true) := by kernel_rfl
@[go_sem] theorem flD19_0 : flD Try.prog 19 0 = some (17, 0, 1) := by kernel_rfl
@[go_sem] theorem stD19 : stD Try.prog 19 = some [(0, 1)] := by kernel_rfl
@[go_sem] theorem zeC19 : zeC Try.prog 19 = some [.nilp] := by kernel_rfl
@[go_sem] theorem byD19 : byD Try.prog 19 = some 8 := by kernel_rfl
@[go_sem] theorem tyd21 : tyd Try.prog 21 = some (1, false) := by kernel_rfl
@[go_sem] theorem zeC21 : zeC Try.prog 21 = some [.int .i32 0] := by kernel_rfl
@[go_sem] theorem byD21 : byD Try.prog 21 = some 4 := by kernel_rfl
@[go_sem] theorem inD21 : inD Try.prog 21 = some .i32 := by kernel_rfl
@[go_sem] theorem und21 : Try.prog.underlying 21 = some (.int .i32) := by kernel_rfl
@[go_sem] theorem valD21 : valD Try.prog 21 = some (some .i32) := by kernel_rfl
@[go_sem] theorem tyd22 : tyd Try.prog 22 = some (1, false) := by kernel_rfl
@[go_sem] theorem slD22 : slD Try.prog 22 = some (63, 2) := by kernel_rfl
@[go_sem] theorem zeC22 : zeC Try.prog 22 = some [.nilsl] := by kernel_rfl
@[go_sem] theorem byD22 : byD Try.prog 22 = some 24 := by kernel_rfl
@[go_sem] theorem tyd23 : tyd Try.prog 23 = some (1, true) := by kernel_rfl
@[go_sem] theorem flD23_0 : flD Try.prog 23 0 = some (22, 0, 1) := by kernel_rfl
@[go_sem] theorem stD23 : stD Try.prog 23 = some [(0, 1)] := by kernel_rfl
@[go_sem] theorem zeC23 : zeC Try.prog 23 = some [.nilsl] := by kernel_rfl
@[go_sem] theorem byD23 : byD Try.prog 23 = some 24 := by kernel_rfl
@[go_sem] theorem tyd24 : tyd Try.prog 24 = some (1, true) := by kernel_rfl
@[go_sem] theorem flD24_0 : flD Try.prog 24 0 = some (22, 0, 1) := by kernel_rfl
@[go_sem] theorem stD24 : stD Try.prog 24 = some [(0, 1)] := by kernel_rfl
@[go_sem] theorem zeC24 : zeC Try.prog 24 = some [.nilsl] := by kernel_rfl
@[go_sem] theorem byD24 : byD Try.prog 24 = some 24 := by kernel_rfl
@[go_sem] theorem tyd25 : tyd Try.prog 25 = some (1, false) := by kernel_rfl
@[go_sem] theorem slD25 : slD Try.prog 25 = some (38, 2) := by kernel_rfl
@[go_sem] theorem zeC25 : zeC Try.prog 25 = some [.nilsl] := by kernel_rfl
@[go_sem] theorem byD25 : byD Try.prog 25 = some 24 := by kernel_rfl
@[go_sem] theorem tyd26 : tyd Try.prog 26 = some (1, false) := by kernel_rfl
@[go_sem] theorem zeC26 : zeC Try.prog 26 = some [.any] := by kernel_rfl
@[go_sem] theorem byD26 : byD Try.prog 26 = some 8 := by kernel_rfl
@[go_sem] theorem tyd27 : tyd Try.prog 27 = some (1, false) := by kernel_rfl
@[go_sem] theorem zeC27 : zeC Try.prog 27 = some [.any] := by kernel_rfl
@[go_sem] theorem byD27 : byD Try.prog 27 = some 8 := by kernel_rfl
@[go_sem] theorem tyd28 : tyd Try.prog 28 = some (1, false) := by kernel_rfl
@[go_sem] theorem zeC28 : zeC Try.prog 28 = some [.int .i64 0] := by kernel_rfl
@[go_sem] theorem byD28 : byD Try.prog 28 = some 8 := by kernel_rfl
@[go_sem] theorem inD28 : inD Try.prog 28 = some .i64 := by kernel_rfl
@[go_sem] theorem und28 : Try.prog.underlying 28 = some (.int .i64) := by kernel_rfl
@[go_sem] theorem valD28 : valD Try.prog 28 = some (some .i64) := by kernel_rfl
@[go_sem] theorem tyd30 : tyd Try.prog 30 = some (1, false) := by kernel_rfl
@[go_sem] theorem zeC30 : zeC Try.prog 30 = some [.any] := by kernel_rfl
@[go_sem] theorem byD30 : byD Try.prog 30 = some 8 := by kernel_rfl
@[go_sem] theorem tyd32 : tyd Try.prog 32 = some (1, false) := by kernel_rfl
@[go_sem] theorem zeC32 : zeC Try.prog 32 = some [.any] := by kernel_rfl
@[go_sem] theorem byD32 : byD Try.prog 32 = some 8 := by kernel_rfl
@[go_sem] theorem tyd33 : tyd Try.prog 33 = some (1, false) := by kernel_rfl
@[go_sem] theorem zeC33 : zeC Try.prog 33 = some [.any] := by kernel_rfl
@[go_sem] theorem byD33 : byD Try.prog 33 = some 8 := by kernel_rfl
@[go_sem] theorem tyd34 : tyd Try.prog 34 = some (1, false) := by kernel_rfl
@[go_sem] theorem zeC34 : zeC Try.prog 34 = some [.any] := by kernel_rfl
@[go_sem] theorem byD34 : byD Try.prog 34 = some 8 := by kernel_rfl
@[go_sem] theorem tyd36 : tyd Try.prog 36 = some (1, false) := by kernel_rfl
@[go_sem] theorem zeC36 : zeC Try.prog 36 = some [.any] := by kernel_rfl
@[go_sem] theorem byD36 : byD Try.prog 36 = some 8 := by kernel_rfl
@[go_sem] theorem tyd37 : tyd Try.prog 37 = some (1, false) := by kernel_rfl
@[go_sem] theorem zeC37 : zeC Try.prog 37 = some [.any] := by kernel_rfl
@[go_sem] theorem byD37 : byD Try.prog 37 = some 8 := by kernel_rfl
@[go_sem] theorem tyd38 : tyd Try.prog 38 = some (2, true) := by kernel_rfl
@[go_sem] theorem gdD38 : gdD Try.prog 38 = false := by kernel_rfl
@[go_sem] theorem arD38 : arD Try.prog 38 = some (2, 3, 1) := by kernel_rfl
@[go_sem] theorem stD38 : stD Try.prog 38 = none := by kernel_rfl
@[go_sem] theorem zeC38 : zeC Try.prog 38 = some [.int .i64 0, .int .i64 0] := by kernel_rfl
@[go_sem] theorem byD38 : byD Try.prog 38 = some 16 := by kernel_rfl
@[go_sem] theorem tyd39 : tyd Try.prog 39 = some (1, false) := by kernel_rfl
@[go_sem] theorem zeC39 : zeC Try.prog 39 = some [.any] := by kernel_rfl
@[go_sem] theorem byD39 : byD Try.prog 39 = some 8 := by kernel_rfl
@[go_sem] theorem tyd40 : tyd Try.prog 40 = some (1, false) := by kernel_rfl
@[go_sem] theorem zeC40 : zeC Try.prog 40 = some [.any] := by kernel_rfl
@[go_sem] theorem byD40 : byD Try.prog 40 = some 8 := by kernel_rfl
@[go_sem] theorem tyd41 : tyd Try.prog 41 = some (1, false) := by kernel_rfl
@[go_sem] theorem zeC41 : zeC Try.prog 41 = some [.any] := by kernel_rfl
@[go_sem] theorem byD41 : byD Try.prog 41 = some 8 := by kernel_rfl
@[go_sem] theorem tyd42 : tyd Try.prog 42 = some (1, false) := by kernel_rfl
@[go_sem] theorem zeC42 : zeC Try.prog 42 = some [.any] := by kernel_rfl
@[go_sem] theorem byD42 : byD Try.prog 42 = some 8 := by kernel_rfl
@[go_sem] theorem tyd43 : tyd Try.prog 43 = some (1, false) := by kernel_rfl
@[go_sem] theorem zeC43 : zeC Try.prog 43 = some [.any] := by kernel_rfl
@[go_sem] theorem byD43 : byD Try.prog 43 = some 8 := by kernel_rfl
@[go_sem] theorem tyd44 : tyd Try.prog 44 = some (1, false) := by kernel_rfl
@[go_sem] theorem zeC44 : zeC Try.prog 44 = some [.any] := by kernel_rfl
@[go_sem] theorem byD44 : byD Try.prog 44 = some 8 := by kernel_rfl
@[go_sem] theorem tyd45 : tyd Try.prog 45 = some (1, false) := by kernel_rfl
@[go_sem] theorem slD45 : slD Try.prog 45 = some (57, 1) := by kernel_rfl
@[go_sem] theorem zeC45 : zeC Try.prog 45 = some [.nilsl] := by kernel_rfl
@[go_sem] theorem byD45 : byD Try.prog 45 = some 24 := by kernel_rfl
@[go_sem] theorem tyd46 : tyd Try.prog 46 = some (1, false) := by kernel_rfl
@[go_sem] theorem zeC46 : zeC Try.prog 46 = some [.any] := by kernel_rfl
@[go_sem] theorem byD46 : byD Try.prog 46 = some 8 := by kernel_rfl
@[go_sem] theorem tyd47 : tyd Try.prog 47 = some (1, false) := by kernel_rfl
@[go_sem] theorem zeC47 : zeC Try.prog 47 = some [.any] := by kernel_rfl
@[go_sem] theorem byD47 : byD Try.prog 47 = some 8 := by kernel_rfl
@[go_sem] theorem tyd48 : tyd Try.prog 48 = some (1, false) := by kernel_rfl
@[go_sem] theorem zeC48 : zeC Try.prog 48 = some [.any] := by kernel_rfl
@[go_sem] theorem byD48 : byD Try.prog 48 = some 8 := by kernel_rfl
@[go_sem] theorem tyd49 : tyd Try.prog 49 = some (1, false) := by kernel_rfl
@[go_sem] theorem zeC49 : zeC Try.prog 49 = some [.any] := by kernel_rfl
@[go_sem] theorem byD49 : byD Try.prog 49 = some 8 := by kernel_rfl
@[go_sem] theorem tyd50 : tyd Try.prog 50 = some (1, false) := by kernel_rfl
@[go_sem] theorem slD50 : slD Try.prog 50 = some (3, 1) := by kernel_rfl
@[go_sem] theorem zeC50 : zeC Try.prog 50 = some [.nilsl] := by kernel_rfl
@[go_sem] theorem byD50 : byD Try.prog 50 = some 24 := by kernel_rfl
@[go_sem] theorem tyd52 : tyd Try.prog 52 = some (1, false) := by kernel_rfl
@[go_sem] theorem zeC52 : zeC Try.prog 52 = some [.any] := by kernel_rfl
@[go_sem] theorem byD52 : byD Try.prog 52 = some 8 := by kernel_rfl
@[go_sem] theorem tyd53 : tyd Try.prog 53 = some (1, false) := by kernel_rfl
@[go_sem] theorem zeC53 : zeC Try.prog 53 = some [.any] := by kernel_rfl
@[go_sem] theorem byD53 : byD Try.prog 53 = some 8 := by kernel_rfl
@[go_sem] theorem tyd54 : tyd Try.prog 54 = some (1, false) := by kernel_rfl
@[go_sem] theorem zeC54 : zeC Try.prog 54 = some [.any] := by kernel_rfl
@[go_sem] theorem byD54 : byD Try.prog 54 = some 8 := by kernel_rfl
@[go_sem] theorem tyd55 : tyd Try.prog 55 = some (1, false) := by kernel_rfl
@[go_sem] theorem zeC55 : zeC Try.prog 55 = some [.any] := by kernel_rfl
@[go_sem] theorem byD55 : byD Try.prog 55 = some 8 := by kernel_rfl
@[go_sem] theorem tyd56 : tyd Try.prog 56 = some (1, false) := by kernel_rfl
@[go_sem] theorem zeC56 : zeC Try.prog 56 = some [.any] := by kernel_rfl
@[go_sem] theorem byD56 : byD Try.prog 56 = some 8 := by kernel_rfl
@[go_sem] theorem tyd57 : tyd Try.prog 57 = some (1, false) := by kernel_rfl
@[go_sem] theorem slD57 : slD Try.prog 57 = some (4, 1) := by kernel_rfl
@[go_sem] theorem zeC57 : zeC Try.prog 57 = some [.nilsl] := by kernel_rfl
@[go_sem] theorem byD57 : byD Try.prog 57 = some 24 := by kernel_rfl
@[go_sem] theorem tyd58 : tyd Try.prog 58 = some (1, false) := by kernel_rfl
@[go_sem] theorem slD58 : slD Try.prog 58 = some (24, 1) := by kernel_rfl
@[go_sem] theorem zeC58 : zeC Try.prog 58 = some [.nilsl] := by kernel_rfl
@[go_sem] theorem byD58 : byD Try.prog 58 = some 24 := by kernel_rfl
@[go_sem] theorem tyd59 : tyd Try.prog 59 = some (1, false) := by kernel_rfl
@[go_sem] theorem zeC59 : zeC Try.prog 59 = some [.any] := by kernel_rfl
@[go_sem] theorem byD59 : byD Try.prog 59 = some 8 := by kernel_rfl
@[go_sem] theorem tyd60 : tyd Try.prog 60 = some (1, false) := by kernel_rfl
@[go_sem] theorem zeC60 : zeC Try.prog 60 = some [.any] := by kernel_rfl
@[go_sem] theorem byD60 : byD Try.prog 60 = some 8 := by kernel_rfl
@[go_sem] theorem tyd61 : tyd Try.prog 61 = some (1, false) := by kernel_rfl
@[go_sem] theorem slD61 : slD Try.prog 61 = some (71, 1) := by kernel_rfl
@[go_sem] theorem zeC61 : zeC Try.prog 61 = some [.nilsl] := by kernel_rfl
@[go_sem] theorem byD61 : byD Try.prog 61 = some 24 := by kernel_rfl
@[go_sem] theorem tyd62 : tyd Try.prog 62 = some (2, true) := by kernel_rfl
@[go_sem] theorem flD62_0 : flD Try.prog 62 0 = some (3, 0, 1) := by kernel_rfl
@[go_sem] theorem flD62_1 : flD Try.prog 62 1 = some (61, 1, 1) := by kernel_rfl
@[go_sem] theorem stD62 : stD Try.prog 62 = some [(0, 1), (1, 1)] := by kernel_rfl
@[go_sem] theorem zeC62 : zeC Try.prog 62 = some [.int .i64 0, .nilsl] := by kernel_rfl
@[go_sem] theorem byD62 : byD Try.prog 62 = some 32 := by kernel_rfl
@[go_sem] theorem tyd63 : tyd Try.prog 63 = some (2, true) := by kernel_rfl
@[go_sem] theorem flD63_0 : flD Try.prog 63 0 = some (3, 0, 1) := by kernel_rfl
@[go_sem] theorem flD63_1 : flD Try.prog 63 1 = some (61, 1, 1) := by kernel_rfl
@[go_sem] theorem stD63 : stD Try.prog 63 = some [(0, 1), (1, 1)] := by kernel_rfl
@[go_sem] theorem zeC63 : zeC Try.prog 63 = some [.int .i64 0, .nilsl] := by kernel_rfl
@[go_sem] theorem byD63 : byD Try.prog 63 = some 32 := by kernel_rfl
@[go_sem] theorem tyd64 : tyd Try.prog 64 = some (1, false) := by kernel_rfl
@[go_sem] theorem zeC64 : zeC Try.prog 64 = some [.any] := by kernel_rfl
@[go_sem] theorem byD64 : byD Try.prog 64 = some 8 := by kernel_rfl
@[go_sem] theorem tyd65 : tyd Try.prog 65 = some (1, false) := by kernel_rfl
@[go_sem] theorem zeC65 : zeC Try.prog 65 = some [.any] := by kernel_rfl
@[go_sem] theorem byD65 : byD Try.prog 65 = some 8 := by kernel_rfl
@[go_sem] theorem tyd66 : tyd Try.prog 66 = some (1, false) := by kernel_rfl
@[go_sem] theorem zeC66 : zeC Try.prog 66 = some [.any] := by kernel_rfl
@[go_sem] theorem byD66 : byD Try.prog 66 = some 8 := by kernel_rfl
@[go_sem] theorem tyd67 : tyd Try.prog 67 = some (1, false) := by kernel_rfl
@[go_sem] theorem zeC67 : zeC Try.prog 67 = some [.any] := by kernel_rfl
@[go_sem] theorem byD67 : byD Try.prog 67 = some 8 := by kernel_rfl
@[go_sem] theorem tyd68 : tyd Try.prog 68 = some (1, false) := by kernel_rfl
@[go_sem] theorem zeC68 : zeC Try.prog 68 = some [.any] := by kernel_rfl
@[go_sem] theorem byD68 : byD Try.prog 68 = some 8 := by kernel_rfl
@[go_sem] theorem tyd69 : tyd Try.prog 69 = some (1, false) := by kernel_rfl
@[go_sem] theorem zeC69 : zeC Try.prog 69 = some [.any] := by kernel_rfl
@[go_sem] theorem byD69 : byD Try.prog 69 = some 8 := by kernel_rfl
@[go_sem] theorem tyd70 : tyd Try.prog 70 = some (1, false) := by kernel_rfl
@[go_sem] theorem zeC70 : zeC Try.prog 70 = some [.any] := by kernel_rfl
@[go_sem] theorem byD70 : byD Try.prog 70 = some 8 := by kernel_rfl
@[go_sem] theorem tyd71 : tyd Try.prog 71 = some (1, false) := by kernel_rfl
@[go_sem] theorem zeC71 : zeC Try.prog 71 = some [.int .u64 0] := by kernel_rfl
@[go_sem] theorem byD71 : byD Try.prog 71 = some 8 := by kernel_rfl
@[go_sem] theorem inD71 : inD Try.prog 71 = some .u64 := by kernel_rfl
@[go_sem] theorem und71 : Try.prog.underlying 71 = some (.int .u64) := by kernel_rfl
@[go_sem] theorem valD71 : valD Try.prog 71 = some (some .u64) := by kernel_rfl
@[go_sem] theorem tyd72 : tyd Try.prog 72 = some (1, false) := by kernel_rfl
@[go_sem] theorem zeC72 : zeC Try.prog 72 = some [.any] := by kernel_rfl
@[go_sem] theorem byD72 : byD Try.prog 72 = some 8 := by kernel_rfl
@[go_sem] theorem tyd73 : tyd Try.prog 73 = some (1, false) := by kernel_rfl
@[go_sem] theorem zeC73 : zeC Try.prog 73 = some [.any] := by kernel_rfl
@[go_sem] theorem byD73 : byD Try.prog 73 = some 8 := by kernel_rfl
@[go_sem] theorem tyd74 : tyd Try.prog 74 = some (1, false) := by kernel_rfl
@[go_sem] theorem zeC74 : zeC Try.prog 74 = some [.any] := by kernel_rfl
@[go_sem] theorem byD74 : byD Try.prog 74 = some 8 := by kernel_rfl
@[go_sem] theorem tyd75 : tyd Try.prog 75 = some (1, false) := by kernel_rfl
@[go_sem] theorem zeC75 : zeC Try.prog 75 = some [.int .u64 0] := by kernel_rfl
@[go_sem] theorem byD75 : byD Try.prog 75 = some 8 := by kernel_rfl
@[go_sem] theorem inD75 : inD Try.prog 75 = some .u64 := by kernel_rfl
@[go_sem] theorem und75 : Try.prog.underlying 75 = some (.int .u64) := by kernel_rfl
@[go_sem] theorem valD75 : valD Try.prog 75 = some (some .u64) := by kernel_rfl
@[go_sem] theorem tyd76 : tyd Try.prog 76 = some (1, false) := by kernel_rfl
@[go_sem] theorem zeC76 : zeC Try.prog 76 = some [.any] := by kernel_rfl
@[go_sem] theorem byD76 : byD Try.prog 76 = some 8 := by kernel_rfl
@[go_sem] theorem tyd77 : tyd Try.prog 77 = some (1, false) := by kernel_rfl
@[go_sem] theorem zeC77 : zeC Try.prog 77 = some [.any] := by kernel_rfl
@[go_sem] theorem byD77 : byD Try.prog 77 = some 8 := by kernel_rfl
@[go_sem] theorem tyd78 : tyd Try.prog 78 = some (1, false) := by kernel_rfl
@[go_sem] theorem zeC78 : zeC Try.prog 78 = some [.any] := by kernel_rfl
@[go_sem] theorem byD78 : byD Try.prog 78 = some 8 := by kernel_rfl
@[go_sem] theorem tyd79 : tyd Try.prog 79 = some (1, false) := by kernel_rfl
@[go_sem] theorem zeC79 : zeC Try.prog 79 = some [.any] := by kernel_rfl
@[go_sem] theorem byD79 : byD Try.prog 79 = some 8 := by kernel_rfl
@[go_sem] theorem tyd80 : tyd Try.prog 80 = some (1, false) := by kernel_rfl
@[go_sem] theorem zeC80 : zeC Try.prog 80 = some [.any] := by kernel_rfl
@[go_sem] theorem byD80 : byD Try.prog 80 = some 8 := by kernel_rfl
@[go_sem] theorem tyd81 : tyd Try.prog 81 = some (1, false) := by kernel_rfl
@[go_sem] theorem zeC81 : zeC Try.prog 81 = some [.any] := by kernel_rfl
@[go_sem] theorem byD81 : byD Try.prog 81 = some 8 := by kernel_rfl
@[go_sem] theorem tyd82 : tyd Try.prog 82 = some (1, false) := by kernel_rfl
@[go_sem] theorem zeC82 : zeC Try.prog 82 = some [.any] := by kernel_rfl
@[go_sem] theorem byD82 : byD Try.prog 82 = some 8 := by kernel_rfl
@[go_sem] theorem tyd83 : tyd Try.prog 83 = some (1, false) := by kernel_rfl
@[go_sem] theorem zeC83 : zeC Try.prog 83 = some [.any] := by kernel_rfl
@[go_sem] theorem byD83 : byD Try.prog 83 = some 8 := by kernel_rfl
@[go_sem] theorem tyd85 : tyd Try.prog 85 = some (1, false) := by kernel_rfl
@[go_sem] theorem zeC85 : zeC Try.prog 85 = some [.any] := by kernel_rfl
@[go_sem] theorem byD85 : byD Try.prog 85 = some 8 := by kernel_rfl
@[go_sem] theorem tyd86 : tyd Try.prog 86 = some (1, false) := by kernel_rfl
@[go_sem] theorem zeC86 : zeC Try.prog 86 = some [.int .u32 0] := by kernel_rfl
@[go_sem] theorem byD86 : byD Try.prog 86 = some 4 := by kernel_rfl
@[go_sem] theorem inD86 : inD Try.prog 86 = some .u32 := by kernel_rfl
@[go_sem] theorem und86 : Try.prog.underlying 86 = some (.int .u32) := by kernel_rfl
@[go_sem] theorem valD86 : valD Try.prog 86 = some (some .u32) := by kernel_rfl
@[go_sem] theorem tyd88 : tyd Try.prog 88 = some (1, false) := by kernel_rfl
@[go_sem] theorem zeC88 : zeC Try.prog 88 = some [.any] := by kernel_rfl
@[go_sem] theorem byD88 : byD Try.prog 88 = some 8 := by kernel_rfl
@[go_sem] theorem tyd90 : tyd Try.prog 90 = some (1, false) := by kernel_rfl
@[go_sem] theorem zeC90 : zeC Try.prog 90 = some [.any] := by kernel_rfl
@[go_sem] theorem byD90 : byD Try.prog 90 = some 8 := by kernel_rfl
@[go_sem] theorem tyd91 : tyd Try.prog 91 = some (1, false) := by kernel_rfl
@[go_sem] theorem zeC91 : zeC Try.prog 91 = some [.any] := by kernel_rfl
@[go_sem] theorem byD91 : byD Try.prog 91 = some 8 := by kernel_rfl
@[go_sem] theorem tyd92 : tyd Try.prog 92 = some (4, true) := by kernel_rfl
@[go_sem] theorem flD92_0 : flD Try.prog 92 0 = some (17, 0, 1) := by kernel_rfl
@[go_sem] theorem flD92_1 : flD Try.prog 92 1 = some (17, 1, 1) := by kernel_rfl
@[go_sem] theorem flD92_2 : flD Try.prog 92 2 = some (17, 2, 1) := by kernel_rfl
@[go_sem] theorem flD92_3 : flD Try.prog 92 3 = some (9, 3, 1) := by kernel_rfl
@[go_sem] theorem stD92 : stD Try.prog 92 = some [(0, 1), (1, 1), (2, 1), (3, 1)] := by kernel_rfl
@[go_sem] theorem zeC92 : zeC Try.prog 92 = some [.nilp, .nilp, .nilp, .str ByteArray.empty] := by kernel_rfl
@[go_sem] theorem byD92 : byD Try.prog 92 = some 40 := by kernel_rfl
@[go_sem] theorem tyd93 : tyd Try.prog 93 = some (4, true) := by kernel_rfl
@[go_sem] theorem flD93_0 : flD Try.prog 93 0 = some (17, 0, 1) := by kernel_rfl
@[go_sem] theorem flD93_1 : flD Try.prog 93 1 = some (17, 1, 1) := by kernel_rfl
@[go_sem] theorem flD93_2 : flD Try.prog 93 2 = some (17, 2, 1) := by kernel_rfl
@[go_sem] theorem flD93_3 : flD Try.prog 93 3 = some (9, 3, 1) := by kernel_rfl
@[go_sem] theorem stD93 : stD Try.prog 93 = some [(0, 1), (1, 1), (2, 1), (3, 1)] := by kernel_rfl
@[go_sem] theorem zeC93 : zeC Try.prog 93 = some [.nilp, .nilp, .nilp, .str ByteArray.empty] := by kernel_rfl
@[go_sem] theorem byD93 : byD Try.prog 93 = some 40 := by kernel_rfl
@[go_sem] theorem tyd94 : tyd Try.prog 94 = some (0, true) := by kernel_rfl
@[go_sem] theorem arD94 : arD Try.prog 94 = some (0, 16, 1) := by kernel_rfl
@[go_sem] theorem stD94 : stD Try.prog 94 = none := by kernel_rfl
@[go_sem] theorem byD94 : byD Try.prog 94 = some 0 := by kernel_rfl
@[go_sem] theorem tyd95 : tyd Try.prog 95 = some (0, true) := by kernel_rfl
@[go_sem] theorem flD95_0 : flD Try.prog 95 0 = some (94, 0, 0) := by kernel_rfl
@[go_sem] theorem stD95 : stD Try.prog 95 = some [(0, 0)] := by kernel_rfl
@[go_sem] theorem byD95 : byD Try.prog 95 = some 0 := by kernel_rfl
@[go_sem] theorem tyd96 : tyd Try.prog 96 = some (0, true) := by kernel_rfl
@[go_sem] theorem flD96_0 : flD Try.prog 96 0 = some (94, 0, 0) := by kernel_rfl
@[go_sem] theorem stD96 : stD Try.prog 96 = some [(0, 0)] := by kernel_rfl
@[go_sem] theorem byD96 : byD Try.prog 96 = some 0 := by kernel_rfl
@[go_sem] theorem tyd97 : tyd Try.prog 97 = some (1, false) := by kernel_rfl
@[go_sem] theorem zeC97 : zeC Try.prog 97 = some [.any] := by kernel_rfl
@[go_sem] theorem byD97 : byD Try.prog 97 = some 8 := by kernel_rfl
@[go_sem] theorem tyd98 : tyd Try.prog 98 = some (1, false) := by kernel_rfl
@[go_sem] theorem zeC98 : zeC Try.prog 98 = some [.int .u8 0] := by kernel_rfl
@[go_sem] theorem byD98 : byD Try.prog 98 = some 1 := by kernel_rfl
@[go_sem] theorem inD98 : inD Try.prog 98 = some .u8 := by kernel_rfl
@[go_sem] theorem und98 : Try.prog.underlying 98 = some (.int .u8) := by kernel_rfl
@[go_sem] theorem valD98 : valD Try.prog 98 = some (some .u8) := by kernel_rfl
@[go_sem] theorem tyd99 : tyd Try.prog 99 = some (1, false) := by kernel_rfl
@[go_sem] theorem zeC99 : zeC Try.prog 99 = some [.int .u8 0] := by kernel_rfl
@[go_sem] theorem byD99 : byD Try.prog 99 = some 1 := by kernel_rfl
@[go_sem] theorem inD99 : inD Try.prog 99 = some .u8 := by kernel_rfl
@[go_sem] theorem und99 : Try.prog.underlying 99 = some (.int .u8) := by kernel_rfl
@[go_sem] theorem valD99 : valD Try.prog 99 = some (some .u8) := by kernel_rfl
@[go_sem] theorem tyd100 : tyd Try.prog 100 = some (1, false) := by kernel_rfl
@[go_sem] theorem zeC100 : zeC Try.prog 100 = some [.any] := by kernel_rfl
@[go_sem] theorem byD100 : byD Try.prog 100 = some 8 := by kernel_rfl
@[go_sem] theorem tyd101 : tyd Try.prog 101 = some (1, false) := by kernel_rfl
@[go_sem] theorem zeC101 : zeC Try.prog 101 = some [.nilp] := by kernel_rfl
@[go_sem] theorem byD101 : byD Try.prog 101 = some 8 := by kernel_rfl
@[go_sem] theorem tyd102 : tyd Try.prog 102 = some (1, false) := by kernel_rfl
@[go_sem] theorem zeC102 : zeC Try.prog 102 = some [.int .i32 0] := by kernel_rfl
@[go_sem] theorem byD102 : byD Try.prog 102 = some 4 := by kernel_rfl
@[go_sem] theorem inD102 : inD Try.prog 102 = some .i32 := by kernel_rfl
@[go_sem] theorem und102 : Try.prog.underlying 102 = some (.int .i32) := by kernel_rfl
@[go_sem] theorem valD102 : valD Try.prog 102 = some (some .i32) := by kernel_rfl
@[go_sem] theorem tyd103 : tyd Try.prog 103 = some (1, false) := by kernel_rfl
@[go_sem] theorem zeC103 : zeC Try.prog 103 = some [.int .i32 0] := by kernel_rfl
@[go_sem] theorem byD103 : byD Try.prog 103 = some 4 := by kernel_rfl
@[go_sem] theorem inD103 : inD Try.prog 103 = some .i32 := by kernel_rfl
@[go_sem] theorem und103 : Try.prog.underlying 103 = some (.int .i32) := by kernel_rfl
@[go_sem] theorem valD103 : valD Try.prog 103 = some (some .i32) := by kernel_rfl
@[go_sem] theorem tyd104 : tyd Try.prog 104 = some (11, true) := by kernel_rfl
@[go_sem] theorem flD104_0 : flD Try.prog 104 0 = some (12, 0, 1) := by kernel_rfl
@[go_sem] theorem flD104_1 : flD Try.prog 104 1 = some (12, 1, 1) := by kernel_rfl
@[go_sem] theorem flD104_2 : flD Try.prog 104 2 = some (86, 2, 1) := by kernel_rfl
@[go_sem] theorem flD104_3 : flD Try.prog 104 3 = some (98, 3, 1) := by kernel_rfl
@[go_sem] theorem flD104_4 : flD Try.prog 104 4 = some (5, 4, 1) := by kernel_rfl
@[go_sem] theorem flD104_5 : flD Try.prog 104 5 = some (5, 5, 1) := by kernel_rfl
@[go_sem] theorem flD104_6 : flD Try.prog 104 6 = some (99, 6, 1) := by kernel_rfl
@[go_sem] theorem flD104_7 : flD Try.prog 104 7 = some (100, 7, 1) := by kernel_rfl
@[go_sem] theorem flD104_8 : flD Try.prog 104 8 = some (101, 8, 1) := by kernel_rfl
@[go_sem] theorem flD104_9 : flD Try.prog 104 9 = some (102, 9, 1) := by kernel_rfl
@[go_sem] theorem flD104_10 : flD Try.prog 104 10 = some (103, 10, 1) := by kernel_rfl
@[go_sem] theorem stD104 : stD Try.prog 104 = some [(0, 1), (1, 1), (2, 1), (3, 1), (4, 1), (5, 1), (6, 1), (7, 1), (8, 1), (9, 1), (10, 1)] := by kernel_rfl
@[go_sem] theorem zeC104 : zeC Try.prog 104 = some [.int .u64 0, .int .u64 0, .int .u32 0, .int .u8 0, .int .u8 0, .int .u8 0, .int .u8 0, .any, .nilp, .int .i32 0, .int .i32 0] := by kernel_rfl
@[go_sem] theorem byD104 : byD Try.prog 104 = some 48 := by kernel_rfl
@[go_sem] theorem tyd105 : tyd Try.prog 105 = some (11, true) := by kernel_rfl
@[go_sem] theorem flD105_0 : flD Try.prog 105 0 = some (12, 0, 1) := by kernel_rfl
@[go_sem] theorem flD105_1 : flD Try.prog 105 1 = some (12, 1, 1) := by kernel_rfl
@[go_sem] theorem flD105_2 : flD Try.prog 105 2 = some (86, 2, 1) := by kernel_rfl
@[go_sem] theorem flD105_3 : flD Try.prog 105 3 = some (98, 3, 1) := by kernel_rfl
@[go_sem] theorem flD105_4 : flD Try.prog 105 4 = some (5, 4, 1) := by kernel_rfl
@[go_sem] theorem flD105_5 : flD Try.prog 105 5 = some (5, 5, 1) := by kernel_rfl
@[go_sem] theorem flD105_6 : flD Try.prog 105 6 = some (99, 6, 1) := by kernel_rfl
@[go_sem] theorem flD105_7 : flD Try.prog 105 7 = some (100, 7, 1) := by kernel_rfl
@[go_sem] theorem flD105_8 : flD Try.prog 105 8 = some (101, 8, 1) := by kernel_rfl
@[go_sem] theorem flD105_9 : flD Try.prog 105 9 = some (102, 9, 1) := by kernel_rfl
@[go_sem] theorem flD105_10 : flD Try.prog 105 10 = some (103, 10, 1) := by kernel_rfl
@[go_sem] theorem stD105 : stD Try.prog 105 = some [(0, 1), (1, 1), (2, 1), (3, 1), (4, 1), (5, 1), (6, 1), (7, 1), (8, 1), (9, 1), (10, 1)] := by kernel_rfl
@[go_sem] theorem zeC105 : zeC Try.prog 105 = some [.int .u64 0, .int .u64 0, .int .u32 0, .int .u8 0, .int .u8 0, .int .u8 0, .int .u8 0, .any, .nilp, .int .i32 0, .int .i32 0] := by kernel_rfl
@[go_sem] theorem byD105 : byD Try.prog 105 = some 48 := by kernel_rfl
@[go_sem] theorem ent2 : enters Try.prog 2 = true := by kernel_rfl
@[go_sem] theorem ent3 : enters Try.prog 3 = true := by kernel_rfl
@[go_sem] theorem ent4 : enters Try.prog 4 = true := by kernel_rfl
@[go_sem] theorem ent5 : enters Try.prog 5 = true := by kernel_rfl
@[go_sem] theorem ent6 : enters Try.prog 6 = true := by kernel_rfl
@[go_sem] theorem ent7 : enters Try.prog 7 = true := by kernel_rfl
@[go_sem] theorem ent8 : enters Try.prog 8 = true := by kernel_rfl
@[go_sem] theorem ent9 : enters Try.prog 9 = true := by kernel_rfl
@[go_sem] theorem ent10 : enters Try.prog 10 = true := by kernel_rfl
@[go_sem] theorem ent11 : enters Try.prog 11 = true := by kernel_rfl
@[go_sem] theorem ent12 : enters Try.prog 12 = true := by kernel_rfl
@[go_sem] theorem ent13 : enters Try.prog 13 = true := by kernel_rfl
@[go_sem] theorem ent14 : enters Try.prog 14 = true := by kernel_rfl
@[go_sem] theorem ent15 : enters Try.prog 15 = true := by kernel_rfl
@[go_sem] theorem ent16 : enters Try.prog 16 = true := by kernel_rfl
@[go_sem] theorem ent17 : enters Try.prog 17 = true := by kernel_rfl
@[go_sem] theorem ent18 : enters Try.prog 18 = true := by kernel_rfl
@[go_sem] theorem ent19 : enters Try.prog 19 = true := by kernel_rfl
@[go_sem] theorem ent20 : enters Try.prog 20 = true := by kernel_rfl
@[go_sem] theorem ent21 : enters Try.prog 21 = true := by kernel_rfl
@[go_sem] theorem ent22 : enters Try.prog 22 = true := by kernel_rfl
@[go_sem] theorem ent23 : enters Try.prog 23 = true := by kernel_rfl
@[go_sem] theorem ent24 : enters Try.prog 24 = true := by kernel_rfl
@[go_sem] theorem ent25 : enters Try.prog 25 = true := by kernel_rfl
@[go_sem] theorem ent26 : enters Try.prog 26 = true := by kernel_rfl
@[go_sem] theorem ent27 : enters Try.prog 27 = true := by kernel_rfl
@[go_sem] theorem ent28 : enters Try.prog 28 = true := by kernel_rfl
@[go_sem] theorem ent29 : enters Try.prog 29 = true := by kernel_rfl
@[go_sem] theorem ent30 : enters Try.prog 30 = true := by kernel_rfl
@[go_sem] theorem ent31 : enters Try.prog 31 = true := by kernel_rfl
@[go_sem] theorem ent32 : enters Try.prog 32 = true := by kernel_rfl
@[go_sem] theorem ent33 : enters Try.prog 33 = true := by kernel_rfl
@[go_sem] theorem ent34 : enters Try.prog 34 = true := by kernel_rfl
@[go_sem] theorem ent35 : enters Try.prog 35 = true := by kernel_rfl
@[go_sem] theorem ent36 : enters Try.prog 36 = true := by kernel_rfl
@[go_sem] theorem ent37 : enters Try.prog 37 = true := by kernel_rfl
@[go_sem] theorem ent38 : enters Try.prog 38 = true := by kernel_rfl
@[go_sem] theorem ent39 : enters Try.prog 39 = true := by kernel_rfl
@[go_sem] theorem ent40 : enters Try.prog 40 = true := by kernel_rfl
@[go_sem] theorem ent41 : enters Try.prog 41 = true := by kernel_rfl
@[go_sem] theorem ent42 : enters Try.prog 42 = true := by kernel_rfl
@[go_sem] theorem ent43 : enters Try.prog 43 = true := by kernel_rfl
@[go_sem] theorem ent44 : enters Try.prog 44 = true := by kernel_rfl
@[go_sem] theorem ent45 : enters Try.prog 45 = true := by kernel_rfl
@[go_sem] theorem ent46 : enters Try.prog 46 = true := by kernel_rfl
@[go_sem] theorem ent47 : enters Try.prog 47 = true := by kernel_rfl
@[go_sem] theorem ent48 : enters Try.prog 48 = true := by kernel_rfl
@[go_sem] theorem ent49 : enters Try.prog 49 = true := by kernel_rfl
@[go_sem] theorem ent50 : enters Try.prog 50 = true := by kernel_rfl
@[go_sem] theorem ent51 : enters Try.prog 51 = true := by kernel_rfl
@[go_sem] theorem ent52 : enters Try.prog 52 = true := by kernel_rfl
@[go_sem] theorem ent53 : enters Try.prog 53 = true := by kernel_rfl
@[go_sem] theorem ent54 : enters Try.prog 54 = true := by kernel_rfl
@[go_sem] theorem ent55 : enters Try.prog 55 = true := by kernel_rfl
@[go_sem] theorem ent56 : enters Try.prog 56 = true := by kernel_rfl
@[go_sem] theorem ent57 : enters Try.prog 57 = true := by kernel_rfl
@[go_sem] theorem ent58 : enters Try.prog 58 = true := by kernel_rfl
@[go_sem] theorem ent59 : enters Try.prog 59 = true := by kernel_rfl
@[go_sem] theorem ent60 : enters Try.prog 60 = true := by kernel_rfl
@[go_sem] theorem ent61 : enters Try.prog 61 = true := by kernel_rfl
@[go_sem] theorem ent62 : enters Try.prog 62 = true := by kernel_rfl
@[go_sem] theorem ent63 : enters Try.prog 63 = true := by kernel_rfl
@[go_sem] theorem ent64 : enters Try.prog 64 = true := by kernel_rfl
@[go_sem] theorem ent65 : enters Try.prog 65 = true := by kernel_rfl
@[go_sem] theorem ent66 : enters Try.prog 66 = true := by kernel_rfl
end Go.Proofs.R

/- The relation seat. -/
namespace Go.Proofs.R
open Go.AM Go
theorem mixed : Try.prog.follows .mixedOrders = true := by kernel_rfl
end Go.Proofs.R

namespace Go.Proofs.R
open Go.AM Go
set_option maxRecDepth 100000
set_option maxHeartbeats 1000000
theorem bwords_r (n : Int) (h0 : 0 ≤ n) (h1 : n ≤ 1000000) : Reads Try.prog 62 false [.int .i64 n] (.int .i64 (wordsN n)) := by
  have hd : 0 ≤ (n + 64 - 1).tdiv 64 ∧ (n + 64 - 1).tdiv 64 ≤ 1000064 := by rw [Int.tdiv_eq_ediv_of_nonneg (by omega)]; omega
  refine Reads.body (rs := [.tmp 2]) Try.func62 rfl Try.ntmps62 rfl (by simp) ?_
  generalize hQr : retQ _ _ _ = Qr
  -- block 1
  -- region 0
  refine AW.sg [0] [] trivial ?_
  -- region 1
  refine AW.sg [2] [] trivial ?_
  -- ret 1
  rw [← hQr]
  refine AW.rt trivial ?_
  exact Wk.of_eq (by simp [wordsN])
theorem rwords_r (n : Int) (h0 : 0 ≤ n) (h1 : n ≤ 1000000) : Reads Try.prog 61 false [.int .i64 n] (.int .i64 (wordsN n)) := by
  have hw := wordsN_ref n
  have hd : 0 ≤ (n + 63).tdiv 64 ∧ (n + 63).tdiv 64 ≤ 1000064 := by rw [Int.tdiv_eq_ediv_of_nonneg (by omega)]; omega
  refine Reads.body (rs := [.tmp 2]) Try.func61 rfl Try.ntmps61 rfl (by simp) ?_
  generalize hQr : retQ _ _ _ = Qr
  -- block 2
  -- region 0
  refine AW.sg [0] [] trivial ?_
  -- region 1
  refine AW.sg [2] [] trivial ?_
  -- ret 1
  rw [← hQr]
  refine AW.rt trivial ?_
  exact Wk.of_eq (by rw [hw])
theorem bvalid_b (N : Int) (W : List Int) (hl : W.length ≤ 9223372036854775807) (hz : 0 < W.length) : Reads Try.prog 50 false [.agg [.int .i64 N, .rsl 1 (words W)]] (.bool (validS N W)) := by
  have hwr := bwords_r N
  refine Reads.body (rs := [.tmp 2]) Try.func50 rfl Try.ntmps50 rfl (by simp) ?_
  generalize hQr : retQ _ _ _ = Qr
  -- block 3
  -- region 0
  refine AW.sg [1] [1] trivial ?_
  refine AW.seq fun K1 hK1 => ?_
  -- region 1
  refine AW.sd mixed 0 (fun ii => if ii = 14 then some (.reads false (.int .i64 (wordsN N))) else none) [1,20] [1] trivial ?_
  repeat with_reducible refine cj ?_ ?_
  all_goals try first | ((intro hh; refine ⟨hh, ?_⟩; simp at hh; exact hwr (by omega) (by omega))) | (intros; (repeat' apply And.intro) <;> first | assumption | ((intro hh; refine ⟨hh, ?_⟩; simp at hh; exact hwr (by omega) (by omega)))) | omega | exact chk (by kernel_rfl) | exact ent (by kernel_rfl) | (intro hgd; exact absurd hgd (by decide)) | rfl | exact gD | (intro _hgd; simp_all [go_sem]; done)
  -- cond 1
  refine AW.cn ?_ ?_
  · intro hb
    -- region 2
    refine AW.sg [2] [] trivial ?_
    -- ret 1
    rw [← hQr]
    refine AW.rt trivial ?_
    exact Wk.of_eq (by congr 1; symm; simp [validS]; intros; omega)
  · intro hb
    have hwn := wordsN_rng (n := N) (by omega)
    have hmod : 0 ≤ N.tmod 64 ∧ N.tmod 64 < 64 := by rw [Int.tmod_eq_emod_of_nonneg (by omega)]; omega
    have hpre : 0 ≤ N ∧ N ≤ 512 ∧ (W.length : Int) = wordsN N := by omega
    have hgw : (words W).getD ((W.length : Int) - 1).toNat [] = [.int .u64 (W.getD (W.length - 1) 0)] := by rw [show ((W.length : Int) - 1).toNat = W.length - 1 by omega]; exact words_getD (by omega)
    refine AW.skip ?_
    refine hK1 _ _ _ ?_; clear hK1
    -- region 3
    refine AW.sg [1,3] [1] trivial ?_
    -- region 4
    refine AW.sg [2] [] (@hgw) ?_
    repeat with_reducible refine cj ?_ ?_
    all_goals try first | ((intro hh; (repeat' apply And.intro) <;> first | exact hh | omega)) | (intros; (repeat' apply And.intro) <;> first | assumption | ((intro hh; (repeat' apply And.intro) <;> first | exact hh | omega))) | omega | (intro hgd; exact absurd hgd (by decide)) | rfl | (simp only [go_sem, reduceIte, reduceCtorEq, Nat.reduceAdd, Nat.reduceMul, Nat.reduceEqDiff, Nat.reduceLT, Nat.reduceLeDiff, Nat.reduceSub, Nat.reducePow, Nat.reduceBEq, Int.reduceToNat, List.reduceReplicate, hgw]; done) | (intro _hgd; simp_all [go_sem]; done)
    -- ret 2
    rw [← hQr]
    refine AW.rt trivial ?_
    exact Wk.of_eq (by simp [validS, topB, hpre.1, hpre.2.1, hpre.2.2])
theorem words_nil_get (i : Nat) : (words []).getD i [] = [] := rfl
theorem words_nil_len : (words []).length = 0 := rfl
theorem bvalid_a (N : Int) : Reads Try.prog 50 false [.agg [.int .i64 N, .rsl 1 (words [])]] (.bool (validS N [])) := by
  have hwr := bwords_r N
  refine Reads.body (rs := [.tmp 2]) Try.func50 rfl Try.ntmps50 rfl (by simp) ?_
  generalize hQr : retQ _ _ _ = Qr
  -- block 4
  -- region 0
  refine AW.sg [1] [1] trivial ?_
  refine AW.seq fun K1 hK1 => ?_
  -- region 1
  refine AW.sd mixed 0 (fun ii => if ii = 14 then some (.reads false (.int .i64 (wordsN N))) else none) [1,20] [1] (@words_nil_len) ?_
  repeat with_reducible refine cj ?_ ?_
  all_goals try first | ((intro hh; refine ⟨hh, ?_⟩; simp at hh; exact hwr (by omega) (by omega))) | (intros; (repeat' apply And.intro) <;> first | assumption | ((intro hh; refine ⟨hh, ?_⟩; simp at hh; exact hwr (by omega) (by omega)))) | omega | exact chk (by kernel_rfl) | exact ent (by kernel_rfl) | (intro hgd; exact absurd hgd (by decide)) | rfl | (simp only [go_sem, reduceIte, reduceCtorEq, Nat.reduceAdd, Nat.reduceMul, Nat.reduceEqDiff, Nat.reduceLT, Nat.reduceLeDiff, Nat.reduceSub, Nat.reducePow, Nat.reduceBEq, Int.reduceToNat, List.reduceReplicate, words_nil_len]; done) | (intro _hgd; simp_all [go_sem]; done)
  -- cond 1
  refine AW.cn ?_ ?_
  · intro hb
    -- region 2
    refine AW.sg [2] [] trivial ?_
    -- ret 1
    rw [← hQr]
    refine AW.rt trivial ?_
    exact Wk.of_eq (by congr 1; symm; simp [validS]; intros; omega)
  · intro hb
    have hwn := wordsN_rng (n := N) (by omega)
    obtain rfl : N = 0 := by omega
    refine AW.skip ?_
    refine hK1 _ _ _ ?_; clear hK1
    -- region 3
    refine AW.sg [1,3] [1] (@Int.zero_tmod) ?_
    refine AW.seq fun K2 hK2 => ?_
    -- region 4
    refine AW.regionK 0 (fun _ => none) [2] [] ?_
    simp only [go_sem, reduceIte, reduceCtorEq, Nat.reduceAdd, Nat.reduceMul, Nat.reduceEqDiff, Nat.reduceLT, Nat.reduceLeDiff, Nat.reduceSub, Nat.reducePow, Nat.reduceBEq, Int.reduceToNat, List.reduceReplicate, words_nil_get, words_nil_len, List.getD_nil]
    repeat with_reducible refine cj ?_ ?_
    all_goals try first | omega | (intros; (repeat' apply And.intro) <;> first | assumption | omega | decide) | (intro hgd; exact absurd hgd (by decide)) | rfl | (simp only [go_sem, reduceIte, reduceCtorEq, Nat.reduceAdd, Nat.reduceMul, Nat.reduceEqDiff, Nat.reduceLT, Nat.reduceLeDiff, Nat.reduceSub, Nat.reducePow, Nat.reduceBEq, Int.reduceToNat, List.reduceReplicate, words_nil_get, words_nil_len, List.getD_nil]; done) | (intro _hgd; simp_all [go_sem]; done)
    refine hK2 _ _ _ ?_; clear hK2
    -- ret 2
    rw [← hQr]
    refine AW.rt trivial ?_
    exact Wk.of_eq (by rfl)
theorem bvalid_r (N : Int) (W : List Int) (hl : W.length ≤ 9223372036854775807) : Reads Try.prog 50 false [.agg [.int .i64 N, .rsl 1 (words W)]] (.bool (validS N W)) := by
  cases W with
  | nil => exact bvalid_a N
  | cons w l => exact bvalid_b N (w :: l) hl (by simp)
def badRow (n : Nat) (x : USet) : Bool := !(decide (x.N = n) && validS x.N x.W)
theorem vrow_r (rs : List USet) (x : USet) (hl : rs.length ≤ 9223372036854775807) (hx : x.W.length ≤ 9223372036854775807) : Reads Try.prog 49 false [.agg (rowV x), .rptr [.rsl 2 (rs.map rowV)]] (.bool (badRow rs.length x)) := by
  have hv := bvalid_r x.N x.W hx
  unfold rowV
  refine Reads.body (rs := [.tmp 3]) Try.func49 rfl Try.ntmps49 rfl (by simp) ?_
  generalize hQr : retQ _ _ _ = Qr
  -- block 5
  -- region 0
  refine AW.sg [1,2] [2] trivial ?_
  -- region 1
  refine AW.so 0 (fun ii => if ii = 8 then some (.reads false (.bool (validS x.N x.W))) else none) [3] [] trivial ?_
  repeat with_reducible refine cj ?_ ?_
  all_goals try first | ((intro hh; exact ⟨hh, hv⟩)) | (intros; (repeat' apply And.intro) <;> first | assumption | ((intro hh; exact ⟨hh, hv⟩))) | omega | exact ent (by kernel_rfl) | (intro hgd; exact absurd hgd (by decide)) | rfl | exact gD | (intro _hgd; simp_all [go_sem]; done)
  -- ret 1
  rw [← hQr]
  refine AW.rt trivial ?_
  exact Wk.of_eq (by simp [badRow])
theorem ixrow_r (rs : List USet) (hl : rs.length ≤ 9223372036854775807) (hx : ∀ x ∈ rs, x.W.length ≤ 9223372036854775807) : Reads Try.prog 59 false [.rsl 2 (rs.map rowV), .fn 49 [.rptr [.rsl 2 (rs.map rowV)]]] (.int .i64 (ixf (badRow rs.length) rs)) := by
  have hbp := fun x hxm => vrow_r rs x hl (hx x hxm)
  refine Reads.body (rs := [.tmp 4]) Try.func59 rfl Try.ntmps59 rfl (by simp) ?_
  generalize hQr : retQ _ _ _ = Qr
  -- block 6
  -- region 0
  refine AW.sg [0,1] [] trivial ?_
  refine AW.seq fun K1 hK1 => ?_
  -- region 1
  refine AW.sg [0,1,7,8] [] trivial ?_
  refine AW.block ?_
  -- loop 1
  refine AW.loopE (fun mm ee ss kk => ∃ (j : Nat), rs.length - j = mm ∧ ee = [(0, .rsl 2 (rs.map rowV)), (1, .fn 49 [.rptr [.rsl 2 (rs.map rowV)]]), (7, .int .i64 rs.length), (8, .int .i64 (j : Nat))] ∧ ss = [] ∧ (j ≤ rs.length ∧ (rs.take j).any (badRow rs.length) = false)) ?_ ?_
  -- init 1
  · exact ⟨_, 0, rfl, eD, eD, eT⟩
  rintro mm ee ss kk ⟨j, rfl, rfl, rfl, hI⟩
  generalize hQl1 : thenQ _ _ = Ql1
  obtain ⟨hj, hall⟩ := hI
  -- region 2
  refine AW.sg [0,1,7,8,9] [] trivial ?_
  refine AW.seq fun K2 hK2 => ?_
  -- cond 1
  refine AW.cn ?_ ?_
  · intro hb
    obtain ⟨x, hx⟩ := getI (l := rs) (j := j) (by omega)
    have hgx := getV (f := rowV) hx
    have hats := any_take_succ (p := badRow rs.length) hx
    have hbx := hbp x (List.mem_of_getElem? hx)
    refine AW.skip ?_
    refine hK2 _ _ _ ?_; clear hK2
    refine AW.seq fun K3 hK3 => ?_
    refine AW.block ?_
    -- region 3
    refine AW.sg [0,1,5,7,8] [] trivial ?_
    -- region 4
    refine AW.so 0 (fun ii => if ii = 5 then some (.reads false (.bool (badRow rs.length x))) else none) [0,1,5,7,8,16] [] (e2 @hgx @rowV.eq_1) ?_
    repeat with_reducible refine cj ?_ ?_
    all_goals try first | (exact hbx) | omega | exact ent (by kernel_rfl)
    -- cond 2
    refine AW.cn ?_ ?_
    · intro hb
      -- region 5
      refine AW.sg [4] [] trivial ?_
      -- ret 1
      rw [← hQl1, ← hQr]
      refine AW.rt trivial ?_
      exact Wk.of_eq (by rw [ixf_at hx hb hall])
    · intro hb
      refine AW.skip ?_
      refine hK3 _ _ _ ?_; clear hK3
      -- region 6
      refine AW.rg [0,1,7,8] [] trivial ?_
      -- again 1
      rw [← hQl1]; change Exists _
      exact ⟨_, eO, j + 1, rfl, eD, eD, (⟨by omega, by rw [hats, hall, hb]; rfl⟩)⟩
  · intro hb
    -- exit 0
    refine AW.kx [] [] ?_
    rw [← hQl1]
    refine hK1 _ _ _ ?_; clear hK1
    -- region 7
    refine AW.sg [4] [] trivial ?_
    -- ret 2
    rw [← hQr]
    refine AW.rt trivial ?_
    exact Wk.of_eq (by rw [List.take_of_length_le (by omega)] at hall; rw [ixf_none hall])
theorem ctrow_r (rs : List USet) (hl : rs.length ≤ 9223372036854775807) (hx : ∀ x ∈ rs, x.W.length ≤ 9223372036854775807) : Reads Try.prog 41 false [.rsl 2 (rs.map rowV), .fn 49 [.rptr [.rsl 2 (rs.map rowV)]]] (.bool (rs.any (badRow rs.length))) := by
  have h := ixrow_r rs hl hx
  have hge := ixf_ge (badRow rs.length) rs
  refine Reads.body (rs := [.tmp 4]) Try.func41 rfl Try.ntmps41 rfl (by simp) ?_
  generalize hQr : retQ _ _ _ = Qr
  -- block 7
  -- region 0
  refine AW.sg [0,1] [] trivial ?_
  -- region 1
  refine AW.so 0 (fun ii => if ii = 2 then some (.reads false (.int .i64 (ixf (badRow rs.length) rs))) else none) [4] [] trivial ?_
  repeat with_reducible refine cj ?_ ?_
  all_goals try first | (exact h) | omega | exact ent (by kernel_rfl)
  -- ret 1
  rw [← hQr]
  refine AW.rt trivial ?_
  exact Wk.of_eq (by rw [hge])
theorem not_any_all {α : Type} (p : α → Bool) (l : List α) : (!l.any fun x => !p x) = l.all p := by
  induction l with
  | nil => rfl
  | cons a l ih => simp only [List.any_cons, List.all_cons, Bool.not_or, ih, Bool.not_not]
theorem validR_any (rs : List USet) : validR rs = (decide (rs.length ≤ 512) && !rs.any (badRow rs.length)) := by
  unfold validR badRow; rw [not_any_all]
theorem rvalid_r (rs : List USet) (hl : rs.length ≤ 9223372036854775807) (hx : ∀ x ∈ rs, x.W.length ≤ 9223372036854775807) : Reads Try.prog 14 false [relV rs] (.bool (validR rs)) := by
  have h := Reads.flat (ctrow_r rs hl hx) rfl
  have hv := validR_any rs
  have e : ((rs.length : Int) ≤ 512) = (rs.length ≤ 512) := by apply propext; omega
  unfold relV
  refine Reads.body (rs := [.tmp 2]) Try.func14 rfl Try.ntmps14 rfl (by simp) ?_
  generalize hQr : retQ _ _ _ = Qr
  -- block 8
  -- region 0
  refine AW.sg [1] [1] trivial ?_
  -- region 1
  refine AW.so 0 (fun ii => if ii = 8 then some (.reads true (.bool (rs.any (badRow rs.length)))) else none) [2] [] trivial ?_
  repeat with_reducible refine cj ?_ ?_
  all_goals try first | ((intro hh; exact ⟨hh, h⟩)) | (intros; (repeat' apply And.intro) <;> first | assumption | ((intro hh; exact ⟨hh, h⟩))) | omega | exact ent (by kernel_rfl) | (intro hgd; exact absurd hgd (by decide)) | rfl | exact gD | (intro _hgd; simp_all [go_sem]; done)
  -- ret 1
  rw [← hQr]
  refine AW.rt trivial ?_
  exact Wk.of_eq (by rw [hv]; simp [e])
end Go.Proofs.R

namespace Go.Proofs.R
open Go.AM Go
set_option maxRecDepth 100000
set_option maxHeartbeats 1000000
theorem formed_a (N n : Int) (W : List Int) (hl : W.length ≤ 9223372036854775807) (hn0 : 0 ≤ n) (hn1 : n ≤ 512) (hm : n.tmod 64 = 0) : Reads Try.prog 51 false [.agg [.int .i64 N, .rsl 1 (words W)], .int .i64 n] (.bool (decide (N = n) && validS n W)) := by
  have hwe := wordsN_ref n
  have hwn := wordsN_rng (n := n) hn0
  have hdiv : 0 ≤ n.tdiv 64 ∧ n.tdiv 64 ≤ 512 ∧ n.tdiv 64 = wordsN n := by rw [← hwe]; rw [Int.tmod_eq_emod_of_nonneg hn0] at hm; rw [Int.tdiv_eq_ediv_of_nonneg (by omega), Int.tdiv_eq_ediv_of_nonneg (by omega)]; omega
  refine Reads.body (rs := [.tmp 4]) Try.func51 rfl Try.ntmps51 rfl (by simp) ?_
  generalize hQr : retQ _ _ _ = Qr
  -- block 1
  -- region 0
  refine AW.sg [1,2] [2] trivial ?_
  refine AW.seq fun K1 hK1 => ?_
  -- region 1
  refine AW.sg [1,2,17] [2] (@hwe) ?_
  repeat with_reducible refine cj ?_ ?_
  all_goals try first | omega | (intros; (repeat' apply And.intro) <;> first | assumption | omega | decide) | (intro hgd; exact absurd hgd (by decide)) | rfl | (simp only [go_sem, reduceIte, reduceCtorEq, Nat.reduceAdd, Nat.reduceMul, Nat.reduceEqDiff, Nat.reduceLT, Nat.reduceLeDiff, Nat.reduceSub, Nat.reducePow, Nat.reduceBEq, Int.reduceToNat, List.reduceReplicate, hwe]; done) | (intro _hgd; simp_all [go_sem]; done)
  -- cond 1
  refine AW.cn ?_ ?_
  · intro hb
    -- region 2
    refine AW.sg [4] [] trivial ?_
    -- ret 1
    rw [← hQr]
    refine AW.rt trivial ?_
    exact Wk.of_eq (by congr 1; symm; simp [validS]; intros; omega)
  · intro hb
    have hlen : (W.length : Int) = wordsN n := by omega
    have hNn : N = n := by omega
    have hgw : (words W).getD (n.tdiv 64).toNat [] = [] := by rw [List.getD_eq_getElem?_getD, List.getElem?_eq_none (by rw [words_len]; omega)]; rfl
    refine AW.skip ?_
    refine hK1 _ _ _ ?_; clear hK1
    -- region 3
    refine AW.sg [4] [] (e2 @hgw @hm) ?_
    repeat with_reducible refine cj ?_ ?_
    all_goals try first | ((intro hh; (repeat' apply And.intro) <;> first | exact hh | omega | (exfalso; simp at hh; done))) | (intros; (repeat' apply And.intro) <;> first | assumption | ((intro hh; (repeat' apply And.intro) <;> first | exact hh | omega | (exfalso; simp at hh; done)))) | omega | (intro hgd; exact absurd hgd (by decide)) | rfl | (simp only [go_sem, reduceIte, reduceCtorEq, Nat.reduceAdd, Nat.reduceMul, Nat.reduceEqDiff, Nat.reduceLT, Nat.reduceLeDiff, Nat.reduceSub, Nat.reducePow, Nat.reduceBEq, Int.reduceToNat, List.reduceReplicate, hgw, hm]; done) | (intro _hgd; simp_all [go_sem]; done)
    -- ret 2
    rw [← hQr]
    refine AW.rt trivial ?_
    exact Wk.of_eq (by simp [validS, topB, hm, hNn, hlen, hn0, hn1])
theorem formed_b (N n : Int) (W : List Int) (hl : W.length ≤ 9223372036854775807) (hn0 : 0 ≤ n) (hn1 : n ≤ 512) (hm : n.tmod 64 ≠ 0) : Reads Try.prog 51 false [.agg [.int .i64 N, .rsl 1 (words W)], .int .i64 n] (.bool (decide (N = n) && validS n W)) := by
  have hwe := wordsN_ref n
  have hwn := wordsN_rng (n := n) hn0
  have hmod : 0 ≤ n.tmod 64 ∧ n.tmod 64 < 64 := by rw [Int.tmod_eq_emod_of_nonneg (by omega)]; omega
  have hnz : n ≠ 0 := by rintro rfl; exact hm rfl
  have hwr : IntKind.u64.wrap (n.tmod 64) = n.tmod 64 := by simp [IntKind.wrap, IntKind.signed, IntKind.bits]; omega
  refine Reads.body (rs := [.tmp 4]) Try.func51 rfl Try.ntmps51 rfl (by simp) ?_
  generalize hQr : retQ _ _ _ = Qr
  -- block 2
  -- region 0
  refine AW.sg [1,2] [2] trivial ?_
  refine AW.seq fun K1 hK1 => ?_
  -- region 1
  refine AW.sg [1,2,17] [2] (@hwe) ?_
  repeat with_reducible refine cj ?_ ?_
  all_goals try first | omega | (intros; (repeat' apply And.intro) <;> first | assumption | omega | decide) | (intro hgd; exact absurd hgd (by decide)) | rfl | (simp only [go_sem, reduceIte, reduceCtorEq, Nat.reduceAdd, Nat.reduceMul, Nat.reduceEqDiff, Nat.reduceLT, Nat.reduceLeDiff, Nat.reduceSub, Nat.reducePow, Nat.reduceBEq, Int.reduceToNat, List.reduceReplicate, hwe]; done) | (intro _hgd; simp_all [go_sem]; done)
  -- cond 1
  refine AW.cn ?_ ?_
  · intro hb
    -- region 2
    refine AW.sg [4] [] trivial ?_
    -- ret 1
    rw [← hQr]
    refine AW.rt trivial ?_
    exact Wk.of_eq (by congr 1; symm; simp [validS]; intros; omega)
  · intro hb
    have hlen : (W.length : Int) = wordsN n := by omega
    have hNn : N = n := by omega
    obtain ⟨hti, htl⟩ := top_ix hn0 hlen hm
    have hdiv : 0 ≤ n.tdiv 64 ∧ n.tdiv 64 ≤ 512 := by rw [Int.tdiv_eq_ediv_of_nonneg (by omega)]; omega
    have hgw : (words W).getD (n.tdiv 64).toNat [] = [.int .u64 (W.getD (W.length - 1) 0)] := by rw [← hti]; exact words_getD (by omega)
    refine AW.skip ?_
    refine hK1 _ _ _ ?_; clear hK1
    -- region 3
    refine AW.sg [4] [] (e2 @hgw @hwr) ?_
    repeat with_reducible refine cj ?_ ?_
    all_goals try first | ((intro hh; (repeat' apply And.intro) <;> first | exact hh | omega)) | (intros; (repeat' apply And.intro) <;> first | assumption | ((intro hh; (repeat' apply And.intro) <;> first | exact hh | omega))) | omega | (intro hgd; exact absurd hgd (by decide)) | rfl | (simp only [go_sem, reduceIte, reduceCtorEq, Nat.reduceAdd, Nat.reduceMul, Nat.reduceEqDiff, Nat.reduceLT, Nat.reduceLeDiff, Nat.reduceSub, Nat.reducePow, Nat.reduceBEq, Int.reduceToNat, List.reduceReplicate, hgw, hwr]; done) | (intro _hgd; simp_all [go_sem]; done)
    -- ret 2
    rw [← hQr]
    refine AW.rt trivial ?_
    exact Wk.of_eq (by simp [validS, topB, hm, hNn, hlen, hn0, hn1])
theorem formed_r (N n : Int) (W : List Int) (hl : W.length ≤ 9223372036854775807) (hn0 : 0 ≤ n) (hn1 : n ≤ 512) : Reads Try.prog 51 false [.agg [.int .i64 N, .rsl 1 (words W)], .int .i64 n] (.bool (decide (N = n) && validS n W)) := by
  by_cases hm : n.tmod 64 = 0
  · exact formed_a N n W hl hn0 hn1 hm
  · exact formed_b N n W hl hn0 hn1 hm
def goodRow (n : Nat) (x : USet) : Bool := decide (x.N = n) && validS n x.W
theorem validR_good (rs : List USet) : validR rs = (decide (rs.length ≤ 512) && rs.all (goodRow rs.length)) := by
  unfold validR
  have : (fun x : USet => decide (x.N = (rs.length : Int)) && validS x.N x.W) = goodRow rs.length := by
    funext x
    unfold goodRow
    by_cases h : x.N = (rs.length : Int)
    · rw [h]
    · simp [h]
  rw [this]
theorem rrvalid_r (rs : List USet) (hl : rs.length ≤ 9223372036854775807) (hx : ∀ x ∈ rs, x.W.length ≤ 9223372036854775807) : Reads Try.prog 15 false [relV rs] (.bool (validR rs)) := by
  have hf := fun x hxm h => formed_r x.N (rs.length : Nat) x.W (hx x hxm) (by omega) h
  have hvg := validR_good rs
  unfold relV
  refine Reads.body (rs := [.tmp 2]) Try.func15 rfl Try.ntmps15 rfl (by simp) ?_
  generalize hQr : retQ _ _ _ = Qr
  -- block 3
  -- region 0
  refine AW.sg [1] [1] trivial ?_
  -- region 1
  refine AW.sg [1,3] [1] trivial ?_
  refine AW.seq fun K1 hK1 => ?_
  -- region 2
  refine AW.sg [1,3,9] [1] trivial ?_
  -- cond 1
  refine AW.cn ?_ ?_
  · intro hb
    -- region 3
    refine AW.sg [2] [] trivial ?_
    -- ret 1
    rw [← hQr]
    refine AW.rt trivial ?_
    have hn : ¬ rs.length ≤ 512 := by omega
    exact Wk.of_eq (by rw [hvg]; simp [hn])
  · intro hb
    have h512 : rs.length ≤ 512 := by omega
    refine AW.skip ?_
    refine hK1 _ _ _ ?_; clear hK1
    refine AW.seq fun K2 hK2 => ?_
    -- region 4
    refine AW.sg [1,3,4] [1] trivial ?_
    refine AW.block ?_
    -- loop 1
    refine AW.loopE (fun mm ee ss kk => ∃ (j g v : Nat), rs.length - j = mm ∧ ee = [(1, .ptr ⟨1, g, none⟩ 0 0), (3, .int .i64 rs.length), (4, .int .i64 (j : Nat))] ∧ ss = [(1, some ⟨g, v, 1, [[.rsl 2 (rs.map rowV)]]⟩)] ∧ (j ≤ rs.length ∧ (rs.take j).all (goodRow rs.length) = true)) ?_ ?_
    -- init 1
    · exact ⟨_, 0, _, _, rfl, eD, eD, (⟨Nat.zero_le _, rfl⟩)⟩
    rintro mm ee ss kk ⟨j, g, v, rfl, rfl, rfl, hI⟩
    generalize hQl1 : thenQ _ _ = Ql1
    obtain ⟨hj, hall⟩ := hI
    refine AW.seq fun K3 hK3 => ?_
    -- region 5
    refine AW.sg [1,3,4,12] [1] trivial ?_
    -- cond 2
    refine AW.cn ?_ ?_
    · intro hb
      obtain ⟨x, hx2⟩ := getI (l := rs) (j := j) (by omega)
      have hgx := getV (f := rowV) hx2
      have hats := all_take_succ (p := goodRow rs.length) hx2
      have hfx := hf x (List.mem_of_getElem? hx2) (by omega)
      refine AW.skip ?_
      refine hK3 _ _ _ ?_; clear hK3
      refine AW.seq fun K4 hK4 => ?_
      refine AW.block ?_
      -- region 7
      refine AW.so 0 (fun ii => if ii = 6 then some (.reads false (.bool (goodRow rs.length x))) else none) [1,3,4,22] [1] (e2 @hgx @rowV.eq_1) ?_
      repeat with_reducible refine cj ?_ ?_
      all_goals try first | (exact hfx) | omega | exact ent (by kernel_rfl)
      -- cond 3
      refine AW.cn ?_ ?_
      · intro hb
        -- region 8
        refine AW.sg [2] [] trivial ?_
        -- ret 2
        rw [← hQl1, ← hQr]
        refine AW.rt trivial ?_
        exact Wk.of_eq (by rw [hvg, all_false_of hx2 hb]; simp)
      · intro hb
        refine AW.skip ?_
        refine hK4 _ _ _ ?_; clear hK4
        -- region 6
        refine AW.rg [1,3,4] [1] trivial ?_
        -- again 1
        rw [← hQl1]; change Exists _
        exact ⟨_, eO, j + 1, _, _, rfl, eD, eD, (⟨by omega, by rw [hats, hall, hb]; rfl⟩)⟩
    · intro hb
      -- exit 0
      refine AW.kx [] [] ?_
      rw [← hQl1]
      refine hK2 _ _ _ ?_; clear hK2
      -- region 9
      refine AW.sg [2] [] trivial ?_
      -- ret 3
      rw [← hQr]
      refine AW.rt trivial ?_
      exact Wk.of_eq (by rw [List.take_of_length_le (by omega)] at hall; rw [hvg, hall]; simp [h512])
end Go.Proofs.R

namespace Go.Proofs.R
open Go.AM Go
set_option maxRecDepth 100000
set_option maxHeartbeats 1000000
theorem rhas_r (n : Nat) (t : List (List Bool)) (hs : Sq n t) (hn : n ≤ 512) (i j : Nat) (hi : i < n) (hj : j < n) : Reads Try.prog 56 false [relB t, .int .i64 i, .int .i64 j] (.bool (atT t i j)) := by
  have hrl := hs.rowLen hi
  have hgt := tabR_get (t := t) (i := i) (by rw [hs.len]; exact hi)
  have htl := tabR_len t
  have hlen := hs.len
  have hat : atT t i j = (rowT t i).getD j false := rfl
  generalize hb : rowT t i = b at *
  have hwl := setW_len' b
  have hd := div64_rng (i := (j : Int)) (n := b.length) (by omega) (by omega)
  have hwn := wordsN_rng (n := (b.length : Int)) (by omega)
  have hgw := words_getD (l := setW b b.length) (i := ((j : Int).tdiv 64).toNat) (by omega)
  have hbt := bit_hasW (setW_ok b) (i := (j : Int)) (by omega)
  rw [hasW_row (by omega), ← hat] at hbt
  unfold relB
  refine Reads.body (rs := [.tmp 6]) Try.func56 rfl Try.ntmps56 rfl (by simp) ?_
  generalize hQr : retQ _ _ _ = Qr
  -- block 1
  -- region 0
  refine AW.sg [1,2,3] [3] trivial ?_
  -- region 1
  refine AW.sg [6] [] (e3 @hgt @rowB.eq_1 @hgw) ?_
  -- ret 1
  rw [← hQr]
  refine AW.rt trivial ?_
  exact Wk.of_eq (by rw [hbt])
theorem put_u (n : Nat) (t : List (List Bool)) (hs : Sq n t) (hn : n ≤ 512) (i j : Nat) (hi : i < n) (hj : j < n) (g v : Nat) (kc : Option Nat) :
    Upd Try.prog 47 [(0, some ⟨g, v, 2, tabO t⟩)] [.agg [.sl ⟨0, g, none⟩ 0 n kc], .int .i64 i, .int .i64 j] (fun _ => .tup []) (fun k => [(0, some ⟨g, k, 2, tabO (t.set i ((rowT t i).set j true))⟩)]) := by
  have hrl := hs.rowLen hi
  have hlen := hs.len
  have hgt := tabO_get (t := t) (i := i) (by omega)
  have htl := tabO_len t
  have hts := tabO_set t i
  generalize hb : rowT t i = b at *
  have hwl := setW_len' b
  have hd := div64_rng (i := (j : Int)) (n := b.length) (by omega) (by omega)
  have hwn := wordsN_rng (n := (b.length : Int)) (by omega)
  have hgw := words_getD (l := setW b b.length) (i := ((j : Int).tdiv 64).toNat) (by omega)
  have hsb := setBit_setW b (i := j) (by omega)
  unfold setBit at hsb
  have hro : rowO (b.set j true) = [.int .i64 b.length, .osl 1 (words (setW (b.set j true) b.length))] := by simp [rowO]
  have hts2 : (tabO t).set i [.int .i64 b.length, .osl 1 (words (setW (b.set j true) b.length))] = tabO (t.set i (b.set j true)) := by rw [← hro]; exact hts _
  refine Upd.of_body (rs := []) Try.func47 rfl Try.ntmps47 rfl (by simp) ?_
  intro k0 k hk0 hk1
  generalize hQr : retQ _ _ _ = Qr
  -- block 2
  -- region 0
  refine AW.so 100 (fun _ => none) [1,2,3] [0,103] trivial ?_
  -- region 1
  refine AW.rd mixed 100 (fun _ => none) [] [0] (e5 @hgt @rowO.eq_1 @hgw @hsb @hts2) ?_
  -- ret 0
  rw [← hQr]
  simp only [go_sem, reduceIte, reduceCtorEq, Nat.reduceAdd, Nat.reduceMul, Nat.reduceEqDiff, Nat.reduceLT, Nat.reduceLeDiff, Nat.reduceSub, Nat.reducePow, Nat.reduceBEq, Int.reduceToNat, List.reduceReplicate]
  refine ⟨[(0, 0, false)], ?_⟩
  simp only [go_sem, reduceIte, Nat.reduceEqDiff, renC_tabO]
theorem set_getD_self {α : Type} (l : List α) (i : Nat) (d : α) : l.set i (l.getD i d) = l := by
  refine List.ext_getElem? fun k => ?_
  rw [List.getElem?_set]
  split
  · rename_i h; subst h
    split
    · rename_i h2; simp [List.getD_eq_getElem?_getD, h2]
    · rename_i h2; rw [List.getElem?_eq_none (by omega)]
  · rfl
/-- A row takes the members of another one up to a word. -/
def orUpto (A B : List Int) (j : Nat) : List Int := List.zipWith (bOr .u64) (A.take j) (B.take j) ++ A.drop j
theorem orUpto_zero (A B : List Int) : orUpto A B 0 = A := by simp [orUpto]
theorem orUpto_len {A B : List Int} (h : A.length = B.length) (j : Nat) : (orUpto A B j).length = A.length := by simp [orUpto]; omega
theorem orUpto_all {A B : List Int} (h : A.length = B.length) {j : Nat} (hj : A.length ≤ j) : orUpto A B j = List.zipWith (bOr .u64) A B := by
  unfold orUpto; rw [List.take_of_length_le hj, List.take_of_length_le (by omega), List.drop_of_length_le hj]; simp
theorem orUpto_get {A B : List Int} (h : A.length = B.length) {j k : Nat} (hk : j ≤ k) : (orUpto A B j).getD k 0 = A.getD k 0 := by
  unfold orUpto
  by_cases hj : j ≤ A.length
  · have hl : (List.zipWith (bOr .u64) (A.take j) (B.take j)).length = j := by simp; omega
    rw [List.getD_eq_getElem?_getD, List.getElem?_append_right (by omega), hl, List.getElem?_drop, List.getD_eq_getElem?_getD]
    congr 2; omega
  · have hl : (List.zipWith (bOr .u64) (A.take j) (B.take j)).length = A.length := by simp; omega
    rw [List.drop_of_length_le (by omega), List.append_nil, Go.AM.getD_out (by omega), Go.AM.getD_out (by omega)]
theorem orUpto_succ {A B : List Int} (h : A.length = B.length) {j : Nat} (hj : j < A.length) : orUpto A B (j + 1) = (orUpto A B j).set j (bOr .u64 (A.getD j 0) (B.getD j 0)) := by
  unfold orUpto
  have hl : (List.zipWith (bOr .u64) (A.take j) (B.take j)).length = j := by simp; omega
  rw [List.set_append_right _ _ (by omega), hl, Nat.sub_self, List.drop_eq_getElem_cons hj, List.set_cons_zero, List.take_succ_eq_append_getElem hj, List.take_succ_eq_append_getElem (by omega), List.zipWith_append (by simp; omega)]
  simp [List.getD_eq_getElem?_getD, hj, show j < B.length by omega]
theorem merge_p (n : Nat) (t : List (List Bool)) (hs : Sq n t) (hn : n ≤ 512) (i : Nat) (hi : i < n) (b : List Bool) (hb : b.length = n) (g v : Nat) (kc : Option Nat) :
    Upd Try.prog 63 [(0, some ⟨g, v, 2, tabO t⟩)] [.agg [.int .i64 n, .sl ⟨0, g, some (i, 1, v)⟩ 0 (wordsN n).toNat kc], .agg (rowB b)] (fun _ => .tup []) (fun k => [(0, some ⟨g, k, 2, tabO (t.set i (List.zipWith (· || ·) (rowT t i) b))⟩)]) := by
  have hrl := hs.rowLen hi
  have hlen := hs.len
  have hts := tabO_set t i
  have htl := tabO_len t
  have hz := zipW_setW bitOp_or (a := rowT t i) (b := b) (by omega)
  generalize ha : rowT t i = a at *
  have hla := setW_len' a
  have hlb := setW_len' b
  have hwn := wordsN_rng (n := (n : Int)) (by omega)
  have hro : ∀ W, rowO (List.zipWith (· || ·) a b) = [.int .i64 n, .osl 1 (words W)] ↔ words (setW (List.zipWith (· || ·) a b) a.length) = words W := fun W => by
    have e : (List.zipWith (· || ·) a b).length = a.length := by simp; omega
    unfold rowO; rw [e, hrl]; simp
  rw [show (a.length : Int) = n by omega] at hla
  rw [show (b.length : Int) = n by omega] at hlb
  generalize hA : setW a a.length = A at *
  generalize hB : setW b b.length = B at *
  have hAB : A.length = B.length := by omega
  have hg0 : (tabO t).getD i [] = [.int .i64 n, .osl 1 (words A)] := by rw [tabO_get (by omega), ha, rowO, hA, hrl]
  have hset : ∀ W, ((tabO t).set i [.int .i64 n, .osl 1 (words W)]).getD i [] = [.int .i64 n, .osl 1 (words W)] := fun W => Go.AM.getD_set_eq (by omega) _ _
  have hfix : (tabO t).set i [.int .i64 n, .osl 1 (words A)] = tabO t := by
    rw [← hg0]; exact set_getD_self _ _ _
  unfold rowB
  rw [hB]
  refine Upd.of_body (rs := []) Try.func63 rfl Try.ntmps63 rfl (by simp) ?_
  intro k0 k hk0 hk1
  generalize hQr : retQ _ _ _ = Qr
  -- block 3
  -- region 0
  refine AW.so 100 (fun _ => none) [2,3] [0,102,103] trivial ?_
  -- region 1
  refine AW.so 100 (fun _ => none) [2,7,8,9] [0,102] trivial ?_
  refine AW.block ?_
  -- loop 1
  refine AW.loopE (fun mm ee ss kk => ∃ (j g2 v2 : Nat), B.length - j = mm ∧ ee = [(2, .ptr ⟨102, g2, none⟩ 0 0), (7, .rsl 1 (words B)), (8, .int .i64 B.length), (9, .int .i64 (j : Nat))] ∧ ss = [(0, some ⟨g, v, 2, (tabO t).set i [.int .i64 n, .osl 1 (words (orUpto A B j))]⟩), (102, some ⟨g2, v2, 2, [[.int .i64 n, .sl ⟨0, g, some (i, 1, v)⟩ 0 (wordsN n).toNat kc]]⟩)] ∧ (j ≤ B.length)) ?_ ?_
  -- init 1
  · refine ⟨_, 0, ?_, ?_, rfl, ?henv, ?hstore, ?hst⟩
    case henv =>
      repeat' (first | rfl | refine env_cons ?_ ?_ | refine st_cons ?_ ?_ ?_ ?_ | refine int_eq ?_ | refine bool_eq ?_ | refine rsl_eq ?_ | refine osl_eq ?_ | refine sl_eq ?_ ?_ ?_ | refine ptr_eq ?_ ?_ ?_ | refine agg_eq ?_ | refine es_cons ?_ ?_ | refine row_cons ?_ ?_)
      all_goals (first | (simp; done) | omega | (simp; omega))
    case hstore =>
      repeat' (first | rfl | refine env_cons ?_ ?_ | refine st_cons ?_ ?_ ?_ ?_ | refine int_eq ?_ | refine bool_eq ?_ | refine rsl_eq ?_ | refine osl_eq ?_ | refine sl_eq ?_ ?_ ?_ | refine ptr_eq ?_ ?_ ?_ | refine agg_eq ?_ | refine es_cons ?_ ?_ | refine row_cons ?_ ?_)
      all_goals (first | (rw [orUpto_zero, hfix]; done) | (simp; done))
    case hst =>
      first | trivial | omega | (simp; done) | (simp; omega)
  rintro mm ee ss kk ⟨j, g2, v2, rfl, rfl, rfl, hI⟩
  generalize hQl1 : thenQ _ _ = Ql1
  -- region 2
  refine AW.so 100 (fun _ => none) [2,7,8,9,10] [0,102] trivial ?_
  refine AW.seq fun K1 hK1 => ?_
  -- cond 1
  refine AW.cn ?_ ?_
  · intro hb
    have hgb := words_getD (l := B) (i := j) (by omega)
    have hol := orUpto_len hAB j
    have hgo := words_getD (l := orUpto A B j) (i := j) (by omega)
    rw [orUpto_get hAB (Nat.le_refl _)] at hgo
    have hos := orUpto_succ hAB (j := j) (by omega)
    refine AW.skip ?_
    refine hK1 _ _ _ ?_; clear hK1
    refine AW.seq fun K2 hK2 => ?_
    refine AW.block ?_
    -- region 3
    refine AW.so 100 (fun _ => none) [2,4,5,7,8,9] [0,102] (@hgb) ?_
    -- region 4
    refine AW.ro 100 (fun _ => none) [2,7,8,9] [0,102] (e3 @hset @hgo @List.set_set.{0}) ?_
    refine hK2 _ _ _ ?_; clear hK2
    -- region 5
    refine AW.ro 100 (fun _ => none) [2,7,8,9] [0,102] trivial ?_
    -- again 1
    rw [← hQl1]; change Exists _
    refine ⟨_, ?hm, j + 1, ?_, ?_, rfl, ?henv, ?hstore, ?hst⟩
    case henv =>
      repeat' (first | rfl | refine env_cons ?_ ?_ | refine st_cons ?_ ?_ ?_ ?_ | refine int_eq ?_ | refine bool_eq ?_ | refine rsl_eq ?_ | refine osl_eq ?_ | refine sl_eq ?_ ?_ ?_ | refine ptr_eq ?_ ?_ ?_ | refine agg_eq ?_ | refine es_cons ?_ ?_ | refine row_cons ?_ ?_)
      all_goals (first | (simp; done) | omega | (simp; omega))
    case hstore =>
      repeat' (first | rfl | refine env_cons ?_ ?_ | refine st_cons ?_ ?_ ?_ ?_ | refine int_eq ?_ | refine bool_eq ?_ | refine rsl_eq ?_ | refine osl_eq ?_ | refine sl_eq ?_ ?_ ?_ | refine ptr_eq ?_ ?_ ?_ | refine agg_eq ?_ | refine es_cons ?_ ?_ | refine row_cons ?_ ?_)
      all_goals (rw [hos])
    case hst =>
      first | trivial | omega | (simp; done) | (simp; omega)
    case hm => omega
  · intro hb
    have hj : j = B.length := by omega
    subst hj
    have hoa := orUpto_all hAB (j := B.length) (by omega)
    rw [hoa]
    have hfin : (tabO t).set i [.int .i64 n, .osl 1 (words (List.zipWith (bOr .u64) A B))] = tabO (t.set i (List.zipWith (· || ·) a b)) := by
      rw [← hts, (hro (List.zipWith (bOr .u64) A B)).2 (by rw [hz])]
    rw [hfin]
    -- exit 0
    refine AW.kx [] [0] ?_
    rw [← hQl1]
    -- ret 0
    rw [← hQr]
    simp only [go_sem, reduceIte, reduceCtorEq, Nat.reduceAdd, Nat.reduceMul, Nat.reduceEqDiff, Nat.reduceLT, Nat.reduceLeDiff, Nat.reduceSub, Nat.reducePow, Nat.reduceBEq, Int.reduceToNat, List.reduceReplicate]
    refine ⟨[(0, 0, false)], ?_⟩
    simp only [go_sem, reduceIte, Nat.reduceEqDiff, renC_tabO]
theorem merge_s (n : Nat) (t : List (List Bool)) (hs : Sq n t) (hn : n ≤ 512) (i q : Nat) (hi : i < n) (hq : q < n) (g v : Nat) (kc kd : Option Nat) :
    Upd Try.prog 63 [(0, some ⟨g, v, 2, tabO t⟩)] [.agg [.int .i64 n, .sl ⟨0, g, some (i, 1, v)⟩ 0 (wordsN n).toNat kc], .agg [.int .i64 n, .sl ⟨0, g, some (q, 1, v)⟩ 0 (wordsN n).toNat kd]] (fun _ => .tup []) (fun k => [(0, some ⟨g, k, 2, tabO (t.set i (List.zipWith (· || ·) (rowT t i) (rowT t q)))⟩)]) := by
  have hrl := hs.rowLen hi
  have hrq := hs.rowLen hq
  have hlen := hs.len
  have hts := tabO_set t i
  have htl := tabO_len t
  have hz := zipW_setW bitOp_or (a := rowT t i) (b := rowT t q) (by omega)
  generalize ha : rowT t i = a at *
  generalize hb' : rowT t q = b at *
  have hla := setW_len' a
  have hlb := setW_len' b
  have hwn := wordsN_rng (n := (n : Int)) (by omega)
  have hro : ∀ W, rowO (List.zipWith (· || ·) a b) = [.int .i64 n, .osl 1 (words W)] ↔ words (setW (List.zipWith (· || ·) a b) a.length) = words W := fun W => by
    have e : (List.zipWith (· || ·) a b).length = a.length := by simp; omega
    unfold rowO; rw [e, hrl]; simp
  have hiq : i = q → a = b := fun e => by rw [← ha, ← hb', e]
  rw [show (a.length : Int) = n by omega] at hla
  rw [show (b.length : Int) = n by omega] at hlb
  have hAB' : a = b → setW a a.length = setW b b.length := fun e => by rw [e]
  have hgq0 : (tabO t).getD q [] = [.int .i64 n, .osl 1 (words (setW b b.length))] := by rw [tabO_get (by omega), hb', rowO, hrq]
  have hg0 : (tabO t).getD i [] = [.int .i64 n, .osl 1 (words (setW a a.length))] := by rw [tabO_get (by omega), ha, rowO, hrl]
  generalize hA : setW a a.length = A at *
  generalize hB : setW b b.length = B at *
  have hAB : A.length = B.length := by omega
  have hset : ∀ W, ((tabO t).set i [.int .i64 n, .osl 1 (words W)]).getD i [] = [.int .i64 n, .osl 1 (words W)] := fun W => Go.AM.getD_set_eq (by omega) _ _
  have hfix : (tabO t).set i [.int .i64 n, .osl 1 (words A)] = tabO t := by
    rw [← hg0]; exact set_getD_self _ _ _
  have hC : ∀ j, j < B.length → ∃ C : List Int, ((tabO t).set i [.int .i64 n, .osl 1 (words (orUpto A B j))]).getD q [] = [.int .i64 n, .osl 1 (words C)] ∧ C.length = B.length ∧ C.getD j 0 = B.getD j 0 := fun j hj => by
    by_cases e : i = q
    · refine ⟨orUpto A B j, by rw [← e]; exact hset _, by rw [orUpto_len hAB]; exact hAB, ?_⟩
      rw [orUpto_get hAB (Nat.le_refl _), hAB' (hiq e)]
    · exact ⟨B, by rw [Go.AM.getD_set_ne e, hgq0], rfl, rfl⟩
  have hgq1 : ((tabO t).set i [.int .i64 n, .osl 1 (words (orUpto A B 0))]).getD q [] = [.int .i64 n, .osl 1 (words B)] := by rw [orUpto_zero, hfix, hgq0]
  refine Upd.of_body (rs := []) Try.func63 rfl Try.ntmps63 rfl (by simp) ?_
  intro k0 k hk0 hk1
  generalize hQr : retQ _ _ _ = Qr
  -- block 4
  -- region 0
  refine AW.so 100 (fun _ => none) [2,3] [0,102,103] trivial ?_
  -- region 1
  refine AW.so 100 (fun _ => none) [2,7,8,9] [0,102] (@hgq0) ?_
  refine AW.block ?_
  -- loop 1
  refine AW.loopE (fun mm ee ss kk => ∃ (j g2 v2 : Nat), B.length - j = mm ∧ ee = [(2, .ptr ⟨102, g2, none⟩ 0 0), (7, .sl ⟨0, g, some (q, 1, v)⟩ 0 (wordsN n).toNat kd), (8, .int .i64 (wordsN n).toNat), (9, .int .i64 (j : Nat))] ∧ ss = [(0, some ⟨g, v, 2, (tabO t).set i [.int .i64 n, .osl 1 (words (orUpto A B j))]⟩), (102, some ⟨g2, v2, 2, [[.int .i64 n, .sl ⟨0, g, some (i, 1, v)⟩ 0 (wordsN n).toNat kc]]⟩)] ∧ (j ≤ B.length)) ?_ ?_
  -- init 1
  · refine ⟨_, 0, ?_, ?_, rfl, ?henv, ?hstore, ?hst⟩
    case henv =>
      repeat' (first | rfl | refine env_cons ?_ ?_ | refine st_cons ?_ ?_ ?_ ?_ | refine int_eq ?_ | refine bool_eq ?_ | refine rsl_eq ?_ | refine osl_eq ?_ | refine sl_eq ?_ ?_ ?_ | refine ptr_eq ?_ ?_ ?_ | refine agg_eq ?_ | refine es_cons ?_ ?_ | refine row_cons ?_ ?_)
      all_goals (first | (simp; done) | omega | (simp; omega))
    case hstore =>
      repeat' (first | rfl | refine env_cons ?_ ?_ | refine st_cons ?_ ?_ ?_ ?_ | refine int_eq ?_ | refine bool_eq ?_ | refine rsl_eq ?_ | refine osl_eq ?_ | refine sl_eq ?_ ?_ ?_ | refine ptr_eq ?_ ?_ ?_ | refine agg_eq ?_ | refine es_cons ?_ ?_ | refine row_cons ?_ ?_)
      all_goals (first | (rw [orUpto_zero, hfix]; done) | (simp; done))
    case hst =>
      first | trivial | omega | (simp; done) | (simp; omega)
  rintro mm ee ss kk ⟨j, g2, v2, rfl, rfl, rfl, hI⟩
  generalize hQl1 : thenQ _ _ = Ql1
  -- region 2
  refine AW.so 100 (fun _ => none) [2,7,8,9,10] [0,102] trivial ?_
  refine AW.seq fun K1 hK1 => ?_
  -- cond 1
  refine AW.cn ?_ ?_
  · intro hb
    obtain ⟨C, hC1, hC2, hC3⟩ := hC j (by omega)
    have hgb := words_getD (l := C) (i := j) (by omega)
    rw [hC3] at hgb
    have hol := orUpto_len hAB j
    have hgo := words_getD (l := orUpto A B j) (i := j) (by omega)
    rw [orUpto_get hAB (Nat.le_refl _)] at hgo
    have hos := orUpto_succ hAB (j := j) (by omega)
    refine AW.skip ?_
    refine hK1 _ _ _ ?_; clear hK1
    refine AW.seq fun K2 hK2 => ?_
    refine AW.block ?_
    -- region 3
    refine AW.so 100 (fun _ => none) [2,4,5,7,8,9] [0,102] (e2 @hC1 @hgb) ?_
    -- region 4
    refine AW.ro 100 (fun _ => none) [2,7,8,9] [0,102] (e3 @hset @hgo @List.set_set.{0}) ?_
    refine hK2 _ _ _ ?_; clear hK2
    -- region 5
    refine AW.ro 100 (fun _ => none) [2,7,8,9] [0,102] trivial ?_
    -- again 1
    rw [← hQl1]; change Exists _
    refine ⟨_, ?hm, j + 1, ?_, ?_, rfl, ?henv, ?hstore, ?hst⟩
    case henv =>
      repeat' (first | rfl | refine env_cons ?_ ?_ | refine st_cons ?_ ?_ ?_ ?_ | refine int_eq ?_ | refine bool_eq ?_ | refine rsl_eq ?_ | refine osl_eq ?_ | refine sl_eq ?_ ?_ ?_ | refine ptr_eq ?_ ?_ ?_ | refine agg_eq ?_ | refine es_cons ?_ ?_ | refine row_cons ?_ ?_)
      all_goals (first | (simp; done) | omega | (simp; omega))
    case hstore =>
      repeat' (first | rfl | refine env_cons ?_ ?_ | refine st_cons ?_ ?_ ?_ ?_ | refine int_eq ?_ | refine bool_eq ?_ | refine rsl_eq ?_ | refine osl_eq ?_ | refine sl_eq ?_ ?_ ?_ | refine ptr_eq ?_ ?_ ?_ | refine agg_eq ?_ | refine es_cons ?_ ?_ | refine row_cons ?_ ?_)
      all_goals (rw [hos])
    case hst =>
      first | trivial | omega | (simp; done) | (simp; omega)
    case hm => omega
  · intro hb
    have hj : j = B.length := by omega
    subst hj
    have hoa := orUpto_all hAB (j := B.length) (by omega)
    rw [hoa]
    have hfin : (tabO t).set i [.int .i64 n, .osl 1 (words (List.zipWith (bOr .u64) A B))] = tabO (t.set i (List.zipWith (· || ·) a b)) := by
      rw [← hts, (hro (List.zipWith (bOr .u64) A B)).2 (by rw [hz])]
    rw [hfin]
    -- exit 0
    refine AW.kx [] [0] ?_
    rw [← hQl1]
    -- ret 0
    rw [← hQr]
    simp only [go_sem, reduceIte, reduceCtorEq, Nat.reduceAdd, Nat.reduceMul, Nat.reduceEqDiff, Nat.reduceLT, Nat.reduceLeDiff, Nat.reduceSub, Nat.reducePow, Nat.reduceBEq, Int.reduceToNat, List.reduceReplicate]
    refine ⟨[(0, 0, false)], ?_⟩
    simp only [go_sem, reduceIte, Nat.reduceEqDiff, renC_tabO]
theorem rep_succ (n j : Nat) (b : List Bool) : List.replicate (j + 1) b = List.replicate j b ++ [b] := List.replicate_succ'
theorem empty_u (n : Nat) (hn : n ≤ 512) : Upd Try.prog 46 [] [.int .i64 n] (fun k => .agg [.sl ⟨0, k, none⟩ 0 n none]) (fun k => [(0, some ⟨k, k, 2, tabO (List.replicate n (List.replicate n false))⟩)]) := by
  have hwn := wordsN_rng (n := (n : Int)) (by omega)
  have hrw := rwords_r n (by omega) (by omega)
  have hro : rowO (List.replicate n false) = [.int .i64 n, .osl 1 (words (List.replicate (wordsN n).toNat 0))] := by unfold rowO; simp only [List.length_replicate]; rw [setW_zero]
  have hwz : words (List.replicate (wordsN n).toNat 0) = List.replicate (wordsN n).toNat [.int .u64 0] := by simp [words]
  refine Upd.of_body (rs := [.cell 2 24]) Try.func46 rfl Try.ntmps46 rfl (by simp) ?_
  intro k0 k hk0 hk1
  generalize hQr : retQ _ _ _ = Qr
  -- block 5
  -- region 0
  refine AW.so 100 (fun _ => none) [0,2] [102] trivial ?_
  -- region 1
  refine AW.so 100 (fun _ => none) [0,2,3] [102,103] trivial ?_
  refine AW.seq fun K1 hK1 => ?_
  -- region 2
  refine AW.so 100 (fun _ => none) [0,2,3,4,5] [102,103] trivial ?_
  refine AW.block ?_
  refine AW.nilCellK 103 0 0 200 2 ?_
  simp only [go_sem, reduceIte, Nat.reduceEqDiff]
  repeat refine cj ?_ ?_
  any_goals first | decide | omega
  refine AW.keep [0, 2, 3, 4, 5] [102, 103, 200] ?_
  simp only [go_sem, reduceIte, Nat.reduceEqDiff]
  -- loop 1
  refine AW.loopE (fun mm ee ss kk => ∃ (j g2 v2 g3 v3 g v : Nat), n - j = mm ∧ ee = [(0, .int .i64 n), (2, .ptr ⟨102, g2, none⟩ 0 0), (3, .ptr ⟨103, g3, none⟩ 0 0), (4, .int .i64 n), (5, .int .i64 (j : Nat))] ∧ ss = [(102, some ⟨g2, v2, 1, [[.nilsl]]⟩), (103, some ⟨g3, v3, 1, [[.sl ⟨200, g, none⟩ 0 j none]]⟩), (200, some ⟨g, v, 2, tabO (List.replicate j (List.replicate n false))⟩)] ∧ (j ≤ n)) ?_ ?_
  -- init 1
  · exact ⟨_, 0, _, _, _, _, _, _, rfl, eD, eD, eT⟩
  rintro mm ee ss kk ⟨j, g2, v2, g3, v3, g, v, rfl, rfl, rfl, hI⟩
  generalize hQl1 : thenQ _ _ = Ql1
  -- region 3
  refine AW.so 100 (fun _ => none) [0,2,3,4,5,6] [102,103,200] trivial ?_
  refine AW.seq fun K2 hK2 => ?_
  -- cond 1
  refine AW.cn ?_ ?_
  · intro hb
    have htl : (List.replicate j (List.replicate n false)).length = j := by simp
    have htk : (tabO (List.replicate j (List.replicate n false))).take j = tabO (List.replicate j (List.replicate n false)) := List.take_of_length_le (by rw [tabO_len, htl]; exact Nat.le_refl _)
    have hgl : ∀ x : List AV, (tabO (List.replicate j (List.replicate n false)) ++ [x]).getD j [] = x := fun x => by rw [List.getD_eq_getElem?_getD, List.getElem?_append_right (by rw [tabO_len, htl]; exact Nat.le_refl _), tabO_len, htl]; simp
    have hsl : ∀ x y : List AV, (tabO (List.replicate j (List.replicate n false)) ++ [x]).set j y = tabO (List.replicate j (List.replicate n false)) ++ [y] := fun x y => by rw [List.set_append_right _ _ (by rw [tabO_len, htl]; exact Nat.le_refl _), tabO_len, htl]; simp
    have hll : ∀ x : List AV, (tabO (List.replicate j (List.replicate n false)) ++ [x]).length = j + 1 := fun x => by simp [tabO_len]
    have hrs := rep_succ n j (List.replicate n false)
    have hta := tabO_app (List.replicate j (List.replicate n false)) (List.replicate n false)
    rw [hro, ← hrs] at hta
    refine AW.skip ?_
    refine hK2 _ _ _ ?_; clear hK2
    refine AW.seq fun K3 hK3 => ?_
    refine AW.block ?_
    -- region 4
    refine AW.rd mixed 100 (fun ii => if ii = 4 then some (.reads false (.int .i64 (wordsN n))) else none) [0,2,3,4,5] [102,103,112,200] (e3 @htk @tabO_len @htl) ?_
    repeat with_reducible refine cj ?_ ?_
    all_goals try first | (exact hrw) | omega | exact chk (by kernel_rfl) | exact ent (by kernel_rfl) | (simp [scP, scalar]; done) | exact scP_words _ | exact scP_ints _ | exact scP_bools _
    refine hK3 _ _ _ ?_; clear hK3
    refine AW.adoptK 200 j 1 112 ?_
    simp only [go_sem, reduceIte, Nat.reduceEqDiff, hgl, hsl, hll]
    repeat refine cj ?_ ?_
    any_goals first | decide | (rw [← hwz]; exact noOsl_words _) | omega
    refine AW.keep [0, 2, 3, 4, 5] [102, 103, 200] ?_
    simp only [go_sem, reduceIte, Nat.reduceEqDiff]
    rw [← hwz, hta]
    -- region 5
    refine AW.ro 100 (fun _ => none) [0,2,3,4,5] [102,103,200] trivial ?_
    -- again 1
    rw [← hQl1]; change Exists _
    exact ⟨_, eO, j + 1, _, _, _, _, _, _, rfl, eD, eD, eT⟩
  · intro hb
    -- exit 0
    refine AW.kx [2,3] [102,103,112,115,200] ?_
    rw [← hQl1]
    refine hK1 _ _ _ ?_; clear hK1
    -- region 6
    refine AW.so 100 (fun _ => none) [2] [102,200] trivial ?_
    -- ret 1
    rw [← hQr]
    refine AW.rt trivial ?_
    have hj : j = n := by omega
    subst hj
    refine ⟨[(200, 0, true)], ?_⟩
    simp only [go_sem, reduceIte, Nat.reduceEqDiff, renC_tabO]
end Go.Proofs.R

/- What the relation program computes, over tables. -/
namespace Go.AM
def iter {α : Type} (f : Nat → α → α) : Nat → α → α
  | 0, x => x
  | m + 1, x => f m (iter f m x)
theorem iter_succ {α : Type} (f : Nat → α → α) (m : Nat) (x : α) : iter f (m + 1) x = f m (iter f m x) := rfl
theorem iter_inv {α : Type} {f : Nat → α → α} {p : α → Prop} {n : Nat} (hf : ∀ i x, i < n → p x → p (f i x)) : ∀ m x, m ≤ n → p x → p (iter f m x)
  | 0, _, _, h => h
  | m + 1, x, hm, h => hf m _ (by omega) (iter_inv hf m x (by omega) h)
def orRow (t : List (List Bool)) (i : Nat) (b : List Bool) : List (List Bool) := t.set i (List.zipWith (· || ·) (rowT t i) b)
theorem Sq.orRow {n : Nat} {t : List (List Bool)} (h : Sq n t) {i : Nat} (hi : i < n) {b : List Bool} (hb : b.length = n) : Sq n (orRow t i b) :=
  h.set i (by have := h.rowLen hi; simp; omega)
def warshI (k i : Nat) (t : List (List Bool)) : List (List Bool) := if atT t i k then orRow t i (rowT t k) else t
theorem warshI_eq (k i : Nat) (t : List (List Bool)) : warshI k i t = if atT t i k then orRow t i (rowT t k) else t := rfl
theorem Sq.warshI {n : Nat} {t : List (List Bool)} (h : Sq n t) {k i : Nat} (hk : k < n) (hi : i < n) : Sq n (warshI k i t) := by
  unfold AM.warshI; split
  · exact h.orRow hi (h.rowLen hk)
  · exact h
def warshK (n k : Nat) (t : List (List Bool)) : List (List Bool) := iter (warshI k) n t
theorem Sq.warshK' {n : Nat} {t : List (List Bool)} (h : Sq n t) {k : Nat} (hk : k < n) {m : Nat} (hm : m ≤ n) : Sq n (iter (AM.warshI k) m t) := iter_inv (n := n) (fun i x hi hx => hx.warshI hk hi) m t hm h
theorem Sq.warshK {n : Nat} {t : List (List Bool)} (h : Sq n t) {k : Nat} (hk : k < n) : Sq n (warshK n k t) := h.warshK' hk (Nat.le_refl _)
def warsh (n : Nat) (t : List (List Bool)) : List (List Bool) := iter (warshK n) n t
theorem Sq.warsh' {n : Nat} {t : List (List Bool)} (h : Sq n t) {m : Nat} (hm : m ≤ n) : Sq n (iter (AM.warshK n) m t) := iter_inv (n := n) (fun i x hi hx => hx.warshK hi) m t hm h
theorem Sq.warsh {n : Nat} {t : List (List Bool)} (h : Sq n t) : Sq n (warsh n t) := h.warsh' (Nat.le_refl _)
def zeroT (n : Nat) : List (List Bool) := List.replicate n (List.replicate n false)
def compI (a b : List (List Bool)) (i k : Nat) (t : List (List Bool)) : List (List Bool) := if atT a i k then orRow t i (rowT b k) else t
def compT (n : Nat) (a b : List (List Bool)) : List (List Bool) := iter (fun i t => iter (compI a b i) n t) n (zeroT n)
theorem compI_eq (a b : List (List Bool)) (i k : Nat) (t : List (List Bool)) : compI a b i k t = if atT a i k then orRow t i (rowT b k) else t := rfl
theorem Sq.compI {n : Nat} {a b t : List (List Bool)} (hb : Sq n b) (h : Sq n t) {i k : Nat} (hi : i < n) (hk : k < n) : Sq n (compI a b i k t) := by
  unfold AM.compI; split
  · exact h.orRow hi (hb.rowLen hk)
  · exact h
theorem Sq.compK {n : Nat} {a b t : List (List Bool)} (hb : Sq n b) (h : Sq n t) {i : Nat} (hi : i < n) {m : Nat} (hm : m ≤ n) : Sq n (iter (AM.compI a b i) m t) := iter_inv (p := Sq n) (n := n) (fun k x hk hx => Sq.compI hb hx hi hk) m t hm h
theorem Sq.comp' {n : Nat} {a b : List (List Bool)} (hb : Sq n b) {m : Nat} (hm : m ≤ n) : Sq n (iter (fun i t => iter (AM.compI a b i) n t) m (zeroT n)) := iter_inv (p := Sq n) (n := n) (fun i x hi hx => Sq.compK hb hx hi (Nat.le_refl _)) m _ hm (Sq.rep n)
theorem Sq.comp {n : Nat} {a b : List (List Bool)} (hb : Sq n b) : Sq n (compT n a b) := Sq.comp' hb (Nat.le_refl _)
def rowPairs (t : List (List Bool)) (i m : Nat) : List (Int × Int) := ((List.range m).filter fun j => atT t i j).map fun (j : Nat) => ((i : Int), (j : Int))
theorem rowPairs_succ (t : List (List Bool)) (i m : Nat) : rowPairs t i (m + 1) = if atT t i m then rowPairs t i m ++ [((i : Int), (m : Int))] else rowPairs t i m := by
  unfold rowPairs
  rw [List.range_succ, List.filter_append, List.map_append]
  by_cases h : atT t i m = true
  · rw [if_pos h]; simp [List.filter_cons, h]
  · rw [if_neg h]; simp [List.filter_cons, h]
theorem rowPairs_le (t : List (List Bool)) (i m : Nat) : (rowPairs t i m).length ≤ m := by
  unfold rowPairs
  have := List.length_filter_le (fun j => atT t i j) (List.range m)
  simp at this ⊢; exact this
def pairsAt (t : List (List Bool)) (n i : Nat) : List (Int × Int) := (List.range i).flatMap fun i => rowPairs t i n
def pairsT (t : List (List Bool)) (n : Nat) : List (Int × Int) := pairsAt t n n
theorem pairsAt_succ (t : List (List Bool)) (n i : Nat) : pairsAt t n (i + 1) = pairsAt t n i ++ rowPairs t i n := by
  unfold pairsAt; rw [List.range_succ, List.flatMap_append]; simp
theorem pairsAt_le (t : List (List Bool)) (n : Nat) : ∀ i, (pairsAt t n i).length ≤ n * i
  | 0 => by simp [pairsAt]
  | i + 1 => by
    have ih := pairsAt_le t n i
    have := rowPairs_le t i n
    rw [pairsAt_succ, List.length_append, Nat.mul_add]; omega
theorem pairsT_mem {t : List (List Bool)} {n : Nat} {p : Int × Int} : p ∈ pairsT t n ↔ ∃ i j : Nat, p = ((i : Int), (j : Int)) ∧ i < n ∧ j < n ∧ atT t i j = true := by
  simp only [pairsT, pairsAt, rowPairs, List.mem_flatMap, List.mem_map, List.mem_filter, List.mem_range]
  constructor
  · rintro ⟨i, hi, j, ⟨hj, h⟩, rfl⟩; exact ⟨i, j, rfl, hi, hj, h⟩
  · rintro ⟨i, j, rfl, hi, hj, h⟩; exact ⟨i, hi, j, ⟨hj, h⟩, rfl⟩
theorem pairs_app (l : List (Int × Int)) (a b : Int) : l.map pairV ++ [[.int .i64 a, .int .i64 b]] = (l ++ [(a, b)]).map pairV := by simp [pairV]
/-- A table half copied. -/
def fillT (t : List (List Bool)) (n i : Nat) : List (List Bool) := t.take i ++ List.replicate (n - i) (List.replicate n false)
theorem fillT_zero (t : List (List Bool)) (n : Nat) : fillT t n 0 = zeroT n := by simp [fillT, zeroT]
theorem fillT_all {n : Nat} {t : List (List Bool)} (h : Sq n t) : fillT t n n = t := by
  unfold fillT; rw [List.take_of_length_le (by rw [h.len]; exact Nat.le_refl _)]; simp
theorem fillT_succ {n : Nat} {t : List (List Bool)} (h : Sq n t) {i : Nat} (hi : i < n) : (fillT t n i).set i (rowT t i) = fillT t n (i + 1) := by
  unfold fillT
  have hl : (t.take i).length = i := by have := h.len; simp; omega
  rw [List.set_append_right _ _ (by omega), hl, Nat.sub_self, show n - i = (n - (i + 1)) + 1 by omega, List.replicate_succ, List.set_cons_zero, List.take_succ_eq_append_getElem (i := i) (by rw [h.len]; exact hi)]
  have : rowT t i = t[i]'(by rw [h.len]; exact hi) := rowT_of (List.getElem?_eq_getElem _)
  rw [this, List.append_assoc]; rfl
theorem fillT_sq {n : Nat} {t : List (List Bool)} (h : Sq n t) {i : Nat} (hi : i ≤ n) : Sq n (fillT t n i) := by
  refine ⟨by have := h.len; simp [fillT]; omega, fun b hb => ?_⟩
  unfold fillT at hb
  rcases List.mem_append.1 hb with hb | hb
  · exact h.row b (List.mem_of_mem_take hb)
  · rw [List.eq_of_mem_replicate hb]; simp
theorem fillT_row {n : Nat} {t : List (List Bool)} (h : Sq n t) {i : Nat} (hi : i < n) : rowT (fillT t n i) i = List.replicate n false := by
  unfold rowT fillT
  have hl : (t.take i).length = i := by have := h.len; simp; omega
  rw [List.getD_eq_getElem?_getD, List.getElem?_append_right (by omega), hl, Nat.sub_self, List.getElem?_replicate, if_pos (by omega)]; rfl
theorem range_all_succ {p : Nat → Bool} (j : Nat) : (List.range (j + 1)).all p = ((List.range j).all p && p j) := by
  rw [List.range_succ, List.all_append]; simp
theorem range_all_false {p : Nat → Bool} {j m : Nat} (h : j < m) (hp : p j = false) : (List.range m).all p = false := by
  rw [List.all_eq_false]; exact ⟨j, List.mem_range.2 h, by simp [hp]⟩
def acyc (n : Nat) (t : List (List Bool)) : Bool := (List.range n).all fun i => !atT (warsh n t) i i
def putT (u : List (List Bool)) (i j : Nat) : List (List Bool) := u.set i ((rowT u i).set j true)
theorem Sq.putT {n : Nat} {u : List (List Bool)} (h : Sq n u) {i : Nat} (hi : i < n) (j : Nat) : Sq n (putT u i j) := h.set i (by have := h.rowLen hi; simp; exact this)
theorem atT_putT {n : Nat} {u : List (List Bool)} (h : Sq n u) {i j : Nat} (hi : i < n) (hj : j < n) (a b : Nat) : atT (putT u i j) a b = (decide (i = a ∧ j = b) || atT u a b) := by
  unfold atT AM.putT
  rw [rowT_set]
  have hl := h.len
  by_cases e : i = a
  · subst e
    rw [if_pos ⟨rfl, by omega⟩, getD_setB]
    have hr := h.rowLen hi
    by_cases e2 : j = b
    · subst e2; rw [if_pos ⟨rfl, by omega⟩]; simp
    · rw [if_neg (by rintro ⟨x, _⟩; exact e2 x)]; simp [e2]
  · rw [if_neg (by rintro ⟨x, _⟩; exact e x)]; simp [e]
def putL (u : List (List Bool)) (L : List (Int × Int)) : List (List Bool) := L.foldl (fun u p => putT u p.1.toNat p.2.toNat) u
def inP (n : Nat) (p : Int × Int) : Prop := 0 ≤ p.1 ∧ p.1 < n ∧ 0 ≤ p.2 ∧ p.2 < n
theorem Sq.putL {n : Nat} : ∀ (L : List (Int × Int)) {u : List (List Bool)}, Sq n u → (∀ p ∈ L, inP n p) → Sq n (putL u L)
  | [], _, h, _ => h
  | p :: L, u, h, hp => by
    have h1 := hp p (by simp)
    exact Sq.putL L (h.putT (i := p.1.toNat) (by unfold inP at h1; omega) _) fun q hq => hp q (by simp [hq])
theorem putL_snoc (u : List (List Bool)) (L : List (Int × Int)) (p : Int × Int) : putL u (L ++ [p]) = putT (putL u L) p.1.toNat p.2.toNat := by simp [putL]
theorem putL_take {u : List (List Bool)} {L : List (Int × Int)} {j : Nat} {p : Int × Int} (h : L[j]? = some p) : putL u (L.take (j + 1)) = putT (putL u (L.take j)) p.1.toNat p.2.toNat := by
  obtain ⟨hj, rfl⟩ := List.getElem?_eq_some_iff.1 h
  rw [List.take_succ_eq_append_getElem hj, putL_snoc]
theorem atT_putL {n : Nat} (a b : Nat) : ∀ (L : List (Int × Int)) {u : List (List Bool)}, Sq n u → (∀ p ∈ L, inP n p) → atT (putL u L) a b = (atT u a b || decide (((a : Int), (b : Int)) ∈ L))
  | [], _, _, _ => by simp [putL]
  | p :: L, u, h, hp => by
    have h1 := hp p (by simp)
    unfold inP at h1
    have := atT_putL a b L (h.putT (i := p.1.toNat) (by omega) p.2.toNat) fun q hq => hp q (by simp [hq])
    show atT (putL (putT u p.1.toNat p.2.toNat) L) a b = _
    rw [this, atT_putT h (by omega) (by omega)]
    obtain ⟨x, y⟩ := p
    simp only at h1 ⊢
    by_cases e : x.toNat = a ∧ y.toNat = b
    · have e2 : ((a : Int), (b : Int)) = (x, y) := by simp; omega
      simp [e, e2]
    · have e2 : ¬ ((a : Int), (b : Int)) = (x, y) := by simp; omega
      simp [e, e2]
theorem pairsT_in {t : List (List Bool)} {n : Nat} : ∀ p ∈ pairsT t n, inP n p := fun p hp => by
  obtain ⟨i, j, rfl, h1, h2, _⟩ := pairsT_mem.1 hp
  unfold inP; simp only; omega
/-- Words that are made one after the other. -/
def mixW (f : Int → Int → Int) (A B Z : List Int) (k : Nat) : List Int := List.zipWith f (A.take k) (B.take k) ++ Z.drop k
theorem mixW_zero (f : Int → Int → Int) (A B Z : List Int) : mixW f A B Z 0 = Z := by simp [mixW]
theorem mixW_len {f : Int → Int → Int} {A B Z : List Int} (h : A.length = B.length) (h2 : Z.length = A.length) (k : Nat) : (mixW f A B Z k).length = A.length := by simp [mixW]; omega
theorem mixW_all {f : Int → Int → Int} {A B Z : List Int} (h : A.length = B.length) (h2 : Z.length = A.length) {k : Nat} (hk : A.length ≤ k) : mixW f A B Z k = List.zipWith f A B := by
  unfold mixW; rw [List.take_of_length_le hk, List.take_of_length_le (by omega), List.drop_of_length_le (by omega)]; simp
theorem mixW_succ {f : Int → Int → Int} {A B Z : List Int} (h : A.length = B.length) (h2 : Z.length = A.length) {j : Nat} (hj : j < A.length) : mixW f A B Z (j + 1) = (mixW f A B Z j).set j (f (A.getD j 0) (B.getD j 0)) := by
  unfold mixW
  have hl : (List.zipWith f (A.take j) (B.take j)).length = j := by simp; omega
  rw [List.set_append_right _ _ (Nat.le_of_eq hl), hl, Nat.sub_self, List.drop_eq_getElem_cons (show j < Z.length by omega), List.set_cons_zero, List.take_succ_eq_append_getElem hj, List.take_succ_eq_append_getElem (show j < B.length by omega), List.zipWith_append (by simp; omega)]
  simp [List.getD_eq_getElem?_getD, hj, show j < B.length by omega]
def andNotB (a b : List Bool) : List Bool := List.zipWith (fun x y => x && !y) a b
def redT (n : Nat) (t l : List (List Bool)) : List (List Bool) := (List.range n).map fun i => andNotB (rowT t i) (rowT l i)
theorem Sq.red {n : Nat} {t l : List (List Bool)} (ht : Sq n t) (hl : Sq n l) : Sq n (redT n t l) := by
  refine ⟨by simp [redT], fun b hb => ?_⟩
  simp only [redT, List.mem_map, List.mem_range] at hb
  obtain ⟨i, hi, rfl⟩ := hb
  have h1 := ht.rowLen hi
  have h2 := hl.rowLen hi
  simp [andNotB]; omega
theorem redT_row {n : Nat} {t l : List (List Bool)} {i : Nat} (hi : i < n) : rowT (redT n t l) i = andNotB (rowT t i) (rowT l i) := rowT_of (by simp [redT, hi])
theorem atT_red {n : Nat} {t l : List (List Bool)} (ht : Sq n t) (hl : Sq n l) {i j : Nat} (hi : i < n) (hj : j < n) : atT (redT n t l) i j = (atT t i j && !atT l i j) := by
  unfold atT
  rw [redT_row hi, andNotB, zipB_get _ (by rw [ht.rowLen hi, hl.rowLen hi]) (by rw [ht.rowLen hi]; exact hj)]
end Go.AM

namespace Go.Proofs.R
open Go.AM Go
set_option maxRecDepth 100000
set_option maxHeartbeats 1000000
theorem all_r (n : Nat) (t : List (List Bool)) (hs : Sq n t) (hn : n ≤ 512) : Reads Try.prog 52 true [relB t] (.rsl 2 ((pairsT t n).map pairV)) := by
  have hlen := hs.len
  have htl := tabR_len t
  have hh := fun i j hi hj => rhas_r n t hs hn i j hi hj
  unfold relB at *
  refine Reads.bodyF (rs := [.tmp 2]) Try.func52 rfl Try.ntmps52 rfl (by simp) ?_
  generalize hQr : retQ _ _ _ = Qr
  -- block 1
  -- region 0
  refine AW.sg [1] [1] (e2 @htl @hlen) ?_
  -- region 1
  refine AW.sg [1,3] [1] (e2 @htl @hlen) ?_
  refine AW.seq fun K1 hK1 => ?_
  -- region 2
  refine AW.sg [1,3,8,9] [1] (e2 @htl @hlen) ?_
  refine AW.block ?_
  refine AW.nilOwn 3 200 2 (by simp only [go_sem, reduceIte, Nat.reduceEqDiff]) ?_
  refine AW.keep [1, 3, 8, 9] [1, 200] ?_
  simp only [go_sem, reduceIte, Nat.reduceEqDiff]
  -- loop 1
  refine AW.loopE (fun mm ee ss kk => ∃ (i g1 v1 g v : Nat), n - i = mm ∧ ee = [(1, .ptr ⟨1, g1, none⟩ 0 0), (3, .sl ⟨200, g, none⟩ 0 (pairsAt t n i).length none), (8, .int .i64 n), (9, .int .i64 (i : Nat))] ∧ ss = [(1, some ⟨g1, v1, 1, [[.rsl 2 (tabR t)]]⟩), (200, some ⟨g, v, 2, (pairsAt t n i).map pairV⟩)] ∧ (i ≤ n)) ?_ ?_
  -- init 1
  · exact ⟨_, 0, _, _, _, _, rfl, eD, eD, eT⟩
  rintro mm ee ss kk ⟨i, g1, v1, g, v, rfl, rfl, rfl, hI⟩
  generalize hQl1 : thenQ _ _ = Ql1
  -- region 3
  refine AW.sg [1,3,8,9,10] [1,200] (e2 @htl @hlen) ?_
  refine AW.seq fun K2 hK2 => ?_
  -- cond 1
  refine AW.cn ?_ ?_
  · intro hb
    refine AW.skip ?_
    refine hK2 _ _ _ ?_; clear hK2
    refine AW.seq fun K3 hK3 => ?_
    refine AW.block ?_
    -- region 4
    refine AW.sg [1,3,4,8,9] [1,200] (e2 @htl @hlen) ?_
    -- region 5
    refine AW.sg [1,3,4,8,9,14,15] [1,200] (e2 @htl @hlen) ?_
    refine AW.block ?_
    -- loop 2
    refine AW.loopE (fun mm ee ss kk => ∃ (j g1 v1 g v : Nat), n - j = mm ∧ ee = [(1, .ptr ⟨1, g1, none⟩ 0 0), (3, .sl ⟨200, g, none⟩ 0 (pairsAt t n i ++ rowPairs t i j).length none), (4, .int .i64 (i : Nat)), (8, .int .i64 n), (9, .int .i64 (i : Nat)), (14, .int .i64 n), (15, .int .i64 (j : Nat))] ∧ ss = [(1, some ⟨g1, v1, 1, [[.rsl 2 (tabR t)]]⟩), (200, some ⟨g, v, 2, (pairsAt t n i ++ rowPairs t i j).map pairV⟩)] ∧ (j ≤ n)) ?_ ?_
    -- init 2
    · refine ⟨_, 0, ?_, ?_, ?_, ?_, rfl, ?henv, ?hstore, ?hst⟩
      case henv =>
        repeat' (first | rfl | refine env_cons ?_ ?_ | refine st_cons ?_ ?_ ?_ ?_ | refine int_eq ?_ | refine bool_eq ?_ | refine rsl_eq ?_ | refine osl_eq ?_ | refine sl_eq ?_ ?_ ?_ | refine ptr_eq ?_ ?_ ?_ | refine agg_eq ?_ | refine es_cons ?_ ?_ | refine row_cons ?_ ?_)
        all_goals (simp [rowPairs])
      case hstore =>
        repeat' (first | rfl | refine env_cons ?_ ?_ | refine st_cons ?_ ?_ ?_ ?_ | refine int_eq ?_ | refine bool_eq ?_ | refine rsl_eq ?_ | refine osl_eq ?_ | refine sl_eq ?_ ?_ ?_ | refine ptr_eq ?_ ?_ ?_ | refine agg_eq ?_ | refine es_cons ?_ ?_ | refine row_cons ?_ ?_)
        all_goals (simp [rowPairs])
      case hst =>
        first | trivial | omega | (simp; done) | (simp; omega)
    rintro mm ee ss kk ⟨j, g1, v1, g, v, rfl, rfl, rfl, hI⟩
    generalize hQl2 : thenQ _ _ = Ql2
    -- region 6
    refine AW.sg [1,3,4,8,9,14,15,16] [1,200] (e2 @htl @hlen) ?_
    refine AW.seq fun K4 hK4 => ?_
    -- cond 2
    refine AW.cn ?_ ?_
    · intro hb
      have hhr := Reads.flat (hh i j (by omega) (by omega)) rfl
      have hps := rowPairs_succ t i j
      have hpl := pairsAt_le t n i
      have hrl := rowPairs_le t i j
      have hmul : n * i ≤ 262144 := Nat.le_trans (Nat.mul_le_mul hn (by omega : i ≤ 512)) (by decide)
      have hll : (pairsAt t n i ++ rowPairs t i j).length ≤ 300000 := by rw [List.length_append]; omega
      have hml : ((pairsAt t n i ++ rowPairs t i j).map pairV).length = (pairsAt t n i ++ rowPairs t i j).length := by simp
      have htk : ((pairsAt t n i ++ rowPairs t i j).map pairV).take (pairsAt t n i ++ rowPairs t i j).length = (pairsAt t n i ++ rowPairs t i j).map pairV := List.take_of_length_le (by simp)
      generalize hL : pairsAt t n i ++ rowPairs t i j = L at *
      refine AW.skip ?_
      refine hK4 _ _ _ ?_; clear hK4
      refine AW.seq fun K5 hK5 => ?_
      refine AW.block ?_
      -- region 7
      refine AW.sg [1,3,4,5,8,9,14,15] [1,200] (e2 @htl @hlen) ?_
      -- region 8
      refine AW.so 0 (fun ii => if ii = 3 then some (.reads true (.bool (atT t i j))) else none) [1,3,4,5,8,9,14,15,21] [1,200] (e2 @htl @hlen) ?_
      repeat with_reducible refine cj ?_ ?_
      all_goals try first | (exact hhr) | omega | exact ent (by kernel_rfl)
      -- cond 3
      refine AW.cn ?_ ?_
      · intro hb
        rw [if_pos hb] at hps
        have hLs : pairsAt t n i ++ rowPairs t i (j + 1) = L ++ [((i : Int), (j : Int))] := by rw [hps, ← List.append_assoc, hL]
        -- region 9
        refine AW.regionK 0 (fun _ => none) [1, 3, 4, 8, 9, 14, 15] [1, 200] ?_
        simp only [go_sem, reduceIte, reduceCtorEq, Nat.reduceAdd, Nat.reduceMul, Nat.reduceEqDiff, Nat.reduceLT, Nat.reduceLeDiff, Nat.reduceSub, Nat.reducePow, Nat.reduceBEq, Int.reduceToNat, List.reduceReplicate, htl, hlen, htk, hml, pairs_app]
        repeat with_reducible refine cj ?_ ?_
        all_goals try first | omega | (simp [scP, scalar]; done) | exact scP_words _ | exact scP_ints _ | exact scP_bools _
        refine hK5 _ _ _ ?_; clear hK5
        -- region 10
        refine AW.rg [1,3,4,8,9,14,15] [1,200] (e2 @htl @hlen) ?_
        -- again 2
        rw [← hQl2]; change Exists _
        refine ⟨_, ?hm, j + 1, ?_, ?_, ?_, ?_, rfl, ?henv, ?hstore, ?hst⟩
        case henv =>
          repeat' (first | rfl | refine env_cons ?_ ?_ | refine st_cons ?_ ?_ ?_ ?_ | refine int_eq ?_ | refine bool_eq ?_ | refine rsl_eq ?_ | refine osl_eq ?_ | refine sl_eq ?_ ?_ ?_ | refine ptr_eq ?_ ?_ ?_ | refine agg_eq ?_ | refine es_cons ?_ ?_ | refine row_cons ?_ ?_)
          all_goals (rw [hLs]; try simp)
        case hstore =>
          repeat' (first | rfl | refine env_cons ?_ ?_ | refine st_cons ?_ ?_ ?_ ?_ | refine int_eq ?_ | refine bool_eq ?_ | refine rsl_eq ?_ | refine osl_eq ?_ | refine sl_eq ?_ ?_ ?_ | refine ptr_eq ?_ ?_ ?_ | refine agg_eq ?_ | refine es_cons ?_ ?_ | refine row_cons ?_ ?_)
          all_goals (rw [hLs])
        case hst =>
          first | trivial | omega | (simp; done) | (simp; omega)
        case hm => omega
      · intro hb
        rw [if_neg (by rw [hb]; simp)] at hps
        have hLs : pairsAt t n i ++ rowPairs t i (j + 1) = L := by rw [hps, hL]
        refine AW.skip ?_
        refine hK5 _ _ _ ?_; clear hK5
        -- region 10
        refine AW.rg [1,3,4,8,9,14,15] [1,200] (e2 @htl @hlen) ?_
        -- again 2
        rw [← hQl2]; change Exists _
        refine ⟨_, ?hm, j + 1, ?_, ?_, ?_, ?_, rfl, ?henv, ?hstore, ?hst⟩
        case henv =>
          repeat' (first | rfl | refine env_cons ?_ ?_ | refine st_cons ?_ ?_ ?_ ?_ | refine int_eq ?_ | refine bool_eq ?_ | refine rsl_eq ?_ | refine osl_eq ?_ | refine sl_eq ?_ ?_ ?_ | refine ptr_eq ?_ ?_ ?_ | refine agg_eq ?_ | refine es_cons ?_ ?_ | refine row_cons ?_ ?_)
          all_goals (rw [hLs]; try simp)
        case hstore =>
          repeat' (first | rfl | refine env_cons ?_ ?_ | refine st_cons ?_ ?_ ?_ ?_ | refine int_eq ?_ | refine bool_eq ?_ | refine rsl_eq ?_ | refine osl_eq ?_ | refine sl_eq ?_ ?_ ?_ | refine ptr_eq ?_ ?_ ?_ | refine agg_eq ?_ | refine es_cons ?_ ?_ | refine row_cons ?_ ?_)
          all_goals (rw [hLs])
        case hst =>
          first | trivial | omega | (simp; done) | (simp; omega)
        case hm => omega
    · intro hb
      have hj : j = n := by omega
      subst hj
      have hps := pairsAt_succ t j i
      -- exit 2
      refine AW.exit ?_
      rw [← hQl2]
      refine hK3 _ _ _ ?_; clear hK3
      -- region 11
      refine AW.rg [1,3,8,9] [1,200] (e2 @htl @hlen) ?_
      -- again 1
      rw [← hQl1]; change Exists _
      refine ⟨_, ?hm, i + 1, ?_, ?_, ?_, ?_, rfl, ?henv, ?hstore, ?hst⟩
      case henv =>
        repeat' (first | rfl | refine env_cons ?_ ?_ | refine st_cons ?_ ?_ ?_ ?_ | refine int_eq ?_ | refine bool_eq ?_ | refine rsl_eq ?_ | refine osl_eq ?_ | refine sl_eq ?_ ?_ ?_ | refine ptr_eq ?_ ?_ ?_ | refine agg_eq ?_ | refine es_cons ?_ ?_ | refine row_cons ?_ ?_)
        all_goals (rw [hps])
      case hstore =>
        repeat' (first | rfl | refine env_cons ?_ ?_ | refine st_cons ?_ ?_ ?_ ?_ | refine int_eq ?_ | refine bool_eq ?_ | refine rsl_eq ?_ | refine osl_eq ?_ | refine sl_eq ?_ ?_ ?_ | refine ptr_eq ?_ ?_ ?_ | refine agg_eq ?_ | refine es_cons ?_ ?_ | refine row_cons ?_ ?_)
        all_goals (rw [hps])
      case hst =>
        first | trivial | omega | (simp; done) | (simp; omega)
      case hm => omega
  · intro hb
    -- exit 0
    refine AW.exit ?_
    rw [← hQl1]
    refine hK1 _ _ _ ?_; clear hK1
    -- region 12
    refine AW.sg [2] [200] (e2 @htl @hlen) ?_
    -- ret 1
    rw [← hQr]
    refine AW.rt (e2 @htl @hlen) ?_
    have hi : i = n := by omega
    subst hi
    rw [List.take_of_length_le (by simp), vwcF_pairs]
    exact Wk.refl _
theorem closure_r (n : Nat) (t : List (List Bool)) (hs : Sq n t) (hn : n ≤ 512) : Reads Try.prog 54 true [relB t] (relB (warsh n t)) := by
  have hlen := hs.len
  have htl := tabR_len t
  have hemp := empty_u n hn
  have hwn := wordsN_rng (n := (n : Int)) (by omega)
  unfold relB at *
  refine Reads.bodyF (rs := [.cell 2 24]) Try.func54 rfl Try.ntmps54 rfl (by simp) ?_
  generalize hQr : retQ _ _ _ = Qr
  -- block 2
  -- region 0
  refine AW.sg [1,2] [1,2] (e3 @htl @hlen @renC_tabO) ?_
  -- region 1
  refine AW.so 0 (fun ii => if ii = 3 then some (.upd [] (fun k => [(0, some ⟨k, k, 2, tabO (List.replicate n (List.replicate n false))⟩)]) (fun k => .agg [.sl ⟨0, k, none⟩ 0 n none])) else none) [1,2,3] [1,2,3,11] (e3 @htl @hlen @renC_tabO) ?_
  repeat with_reducible refine cj ?_ ?_
  all_goals try first | (exact hemp) | omega | exact ent (by kernel_rfl)
  refine AW.seq fun K1 hK1 => ?_
  -- region 2
  refine AW.sg [2,3,13,14,15] [2,3,11] (e3 @htl @hlen @renC_tabO) ?_
  refine AW.block ?_
  -- loop 1
  refine AW.loopE (fun mm ee ss kk => ∃ (i g2 v2 g3 v3 g v : Nat), n - i = mm ∧ ee = [(2, .ptr ⟨2, g2, none⟩ 0 0), (3, .ptr ⟨3, g3, none⟩ 0 0), (13, .rsl 2 (tabR t)), (14, .int .i64 n), (15, .int .i64 (i : Nat))] ∧ ss = [(2, some ⟨g2, v2, 1, [[.nilsl]]⟩), (3, some ⟨g3, v3, 1, [[.sl ⟨11, g, none⟩ 0 n none]]⟩), (11, some ⟨g, v, 2, tabO (fillT t n i)⟩)] ∧ (i ≤ n)) ?_ ?_
  -- init 1
  · refine ⟨_, 0, ?_, ?_, ?_, ?_, ?_, ?_, rfl, ?henv, ?hstore, ?hst⟩
    case henv =>
      repeat' (first | rfl | refine env_cons ?_ ?_ | refine st_cons ?_ ?_ ?_ ?_ | refine int_eq ?_ | refine bool_eq ?_ | refine rsl_eq ?_ | refine osl_eq ?_ | refine sl_eq ?_ ?_ ?_ | refine ptr_eq ?_ ?_ ?_ | refine agg_eq ?_ | refine es_cons ?_ ?_ | refine row_cons ?_ ?_)
      all_goals (first | (simp; done) | omega | (simp; omega))
    case hstore =>
      repeat' (first | rfl | refine env_cons ?_ ?_ | refine st_cons ?_ ?_ ?_ ?_ | refine int_eq ?_ | refine bool_eq ?_ | refine rsl_eq ?_ | refine osl_eq ?_ | refine sl_eq ?_ ?_ ?_ | refine ptr_eq ?_ ?_ ?_ | refine agg_eq ?_ | refine es_cons ?_ ?_ | refine row_cons ?_ ?_)
      all_goals (rw [fillT_zero]; rfl)
    case hst =>
      first | trivial | omega | (simp; done) | (simp; omega)
  rintro mm ee ss kk ⟨i, g2, v2, g3, v3, g, v, rfl, rfl, rfl, hI⟩
  generalize hQl1 : thenQ _ _ = Ql1
  -- region 3
  refine AW.sg [2,3,13,14,15,16] [2,3,11] (e3 @htl @hlen @renC_tabO) ?_
  refine AW.seq fun K2 hK2 => ?_
  -- cond 1
  refine AW.cn ?_ ?_
  · intro hb
    have hsf := fillT_sq hs (i := i) (by omega)
    have hgr := tabR_get (t := t) (i := i) (by omega)
    have hgo := tabO_get (t := fillT t n i) (i := i) (by rw [hsf.len]; omega)
    rw [fillT_row hs (by omega)] at hgo
    have hto := tabO_len (fillT t n i)
    have hsl := hsf.len
    have hrl := hs.rowLen (i := i) (by omega)
    have hfs := fillT_succ hs (i := i) (by omega)
    have hts := tabO_set (fillT t n i) i (rowT t i)
    have hwl := setW_len' (rowT t i)
    have hwz := setW_len' (List.replicate n false)
    rw [hrl] at hwl
    rw [List.length_replicate] at hwz
    have hmin : min (setW (rowT t i) n).length (setW (List.replicate n false) n).length = (setW (rowT t i) n).length := by omega
    have hdr : (words (setW (List.replicate n false) n)).drop (setW (rowT t i) n).length = [] := List.drop_of_length_le (by rw [words_len]; omega)
    have hro : [AV.int .i64 n, .osl 1 (words (setW (rowT t i) n))] = rowO (rowT t i) := by rw [rowO, hrl]
    refine AW.skip ?_
    refine hK2 _ _ _ ?_; clear hK2
    refine AW.seq fun K3 hK3 => ?_
    refine AW.block ?_
    -- region 4
    refine AW.sg [2,3,4,5,13,14,15] [2,3,5,11] (e2 @htl (e5 @hlen @renC_tabO @hgr @rowB.eq_1 @hrl)) ?_
    -- region 5
    refine AW.rd mixed 0 (fun _ => none) [2,3,13,14,15] [2,3,11] (e5 @htl @hlen @renC_tabO @hgo (e5 @rowO.eq_1 @List.length_replicate.{0} @hmin @hdr @List.append_nil.{0})) ?_
    refine hK3 _ _ _ ?_; clear hK3
    -- region 6
    refine AW.rg [2,3,13,14,15] [2,3,11] (e3 @htl @hlen @renC_tabO) ?_
    -- again 1
    rw [← hQl1]; change Exists _
    refine ⟨_, ?hm, i + 1, ?_, ?_, ?_, ?_, ?_, ?_, rfl, ?henv, ?hstore, ?hst⟩
    case henv =>
      repeat' (first | rfl | refine env_cons ?_ ?_ | refine st_cons ?_ ?_ ?_ ?_ | refine int_eq ?_ | refine bool_eq ?_ | refine rsl_eq ?_ | refine osl_eq ?_ | refine sl_eq ?_ ?_ ?_ | refine ptr_eq ?_ ?_ ?_ | refine agg_eq ?_ | refine es_cons ?_ ?_ | refine row_cons ?_ ?_)
      all_goals (first | (simp; done) | omega | (simp; omega))
    case hstore =>
      repeat' (first | rfl | refine env_cons ?_ ?_ | refine st_cons ?_ ?_ ?_ ?_ | refine int_eq ?_ | refine bool_eq ?_ | refine rsl_eq ?_ | refine osl_eq ?_ | refine sl_eq ?_ ?_ ?_ | refine ptr_eq ?_ ?_ ?_ | refine agg_eq ?_ | refine es_cons ?_ ?_ | refine row_cons ?_ ?_)
      all_goals (rw [← hfs, ← hts, ← hro])
    case hst =>
      first | trivial | omega | (simp; done) | (simp; omega)
    case hm => omega
  · intro hb
    have hi : i = n := by omega
    subst hi
    rw [fillT_all hs]
    -- exit 0
    refine AW.kx [2,3] [2,3,11] ?_
    rw [← hQl1]
    refine hK1 _ _ _ ?_; clear hK1
    refine AW.seq fun K4 hK4 => ?_
    -- region 7
    refine AW.sg [2,3,32,33] [2,3,11] (e3 @htl @hlen @renC_tabO) ?_
    refine AW.block ?_
    -- loop 2
    refine AW.loopE (fun mm ee ss kk => ∃ (k g2 v2 g3 v3 g v : Nat), i - k = mm ∧ ee = [(2, .ptr ⟨2, g2, none⟩ 0 0), (3, .ptr ⟨3, g3, none⟩ 0 0), (32, .int .i64 i), (33, .int .i64 (k : Nat))] ∧ ss = [(2, some ⟨g2, v2, 1, [[.nilsl]]⟩), (3, some ⟨g3, v3, 1, [[.sl ⟨11, g, none⟩ 0 i none]]⟩), (11, some ⟨g, v, 2, tabO (iter (warshK i) k t)⟩)] ∧ (k ≤ i)) ?_ ?_
    -- init 2
    · exact ⟨_, 0, _, _, _, _, _, _, rfl, eD, eD, eT⟩
    rintro mm ee ss kk ⟨k, g2, v2, g3, v3, g, v, rfl, rfl, rfl, hI⟩
    generalize hQl2 : thenQ _ _ = Ql2
    -- region 8
    refine AW.sg [2,3,32,33,34] [2,3,11] (e3 @htl @hlen @renC_tabO) ?_
    refine AW.seq fun K5 hK5 => ?_
    -- cond 2
    refine AW.cn ?_ ?_
    · intro hb
      refine AW.skip ?_
      refine hK5 _ _ _ ?_; clear hK5
      refine AW.seq fun K6 hK6 => ?_
      refine AW.block ?_
      -- region 9
      refine AW.sg [2,3,6,32,33] [2,3,11] (e3 @htl @hlen @renC_tabO) ?_
      -- region 10
      refine AW.sg [2,3,6,32,33,38,39] [2,3,11] (e3 @htl @hlen @renC_tabO) ?_
      refine AW.block ?_
      -- loop 3
      refine AW.loopE (fun mm ee ss kk => ∃ (q g2 v2 g3 v3 g v : Nat), i - q = mm ∧ ee = [(2, .ptr ⟨2, g2, none⟩ 0 0), (3, .ptr ⟨3, g3, none⟩ 0 0), (6, .int .i64 (k : Nat)), (32, .int .i64 i), (33, .int .i64 (k : Nat)), (38, .int .i64 i), (39, .int .i64 (q : Nat))] ∧ ss = [(2, some ⟨g2, v2, 1, [[.nilsl]]⟩), (3, some ⟨g3, v3, 1, [[.sl ⟨11, g, none⟩ 0 i none]]⟩), (11, some ⟨g, v, 2, tabO (iter (warshI k) q (iter (warshK i) k t))⟩)] ∧ (q ≤ i)) ?_ ?_
      -- init 3
      · exact ⟨_, 0, _, _, _, _, _, _, rfl, eD, eD, eT⟩
      rintro mm ee ss kk ⟨q, g2, v2, g3, v3, g, v, rfl, rfl, rfl, hI⟩
      generalize hQl3 : thenQ _ _ = Ql3
      -- region 11
      refine AW.sg [2,3,6,32,33,38,39,40] [2,3,11] (e3 @htl @hlen @renC_tabO) ?_
      refine AW.seq fun K7 hK7 => ?_
      -- cond 3
      refine AW.cn ?_ ?_
      · intro hb
        have hsu : Sq i (iter (warshI k) q (iter (warshK i) k t)) := (hs.warsh' (by omega)).warshK' (by omega) (by omega)
        have hus : iter (warshI k) (q + 1) (iter (warshK i) k t) = warshI k q (iter (warshI k) q (iter (warshK i) k t)) := rfl
        rw [warshI_eq] at hus
        generalize hU : iter (warshI k) q (iter (warshK i) k t) = U at *
        have hhr := Reads.flat (rhas_r i U hsu hn q k (by omega) (by omega)) rfl
        have hto := tabO_len U
        have hsl := hsu.len
        have htk : (tabO U).take i = tabO U := List.take_of_length_le (by omega)
        have hgq := tabO_get (t := U) (i := q) (by omega)
        have hgk := tabO_get (t := U) (i := k) (by omega)
        have hrq := hsu.rowLen (i := q) (by omega)
        have hrk := hsu.rowLen (i := k) (by omega)
        have hwq := setW_len' (rowT U q)
        have hwk := setW_len' (rowT U k)
        rw [hrq] at hwq
        rw [hrk] at hwk
        have hm := fun g v => merge_s i U hsu hn q k (by omega) (by omega) g v none none
        refine AW.skip ?_
        refine hK7 _ _ _ ?_; clear hK7
        refine AW.seq fun K8 hK8 => ?_
        refine AW.block ?_
        -- region 12
        refine AW.sg [2,3,6,7,32,33,38,39] [2,3,11] (e3 @htl @hlen @renC_tabO) ?_
        -- region 13
        refine AW.so 0 (fun ii => if ii = 3 then some (.reads true (.bool (atT U q k))) else none) [2,3,6,7,32,33,38,39,45] [2,3,11] (e5 @htl @hlen @renC_tabO @htk @vwc_tabO) ?_
        repeat with_reducible refine cj ?_ ?_
        all_goals try first | (exact hhr) | omega | exact ent (by kernel_rfl)
        -- cond 4
        refine AW.cn ?_ ?_
        · intro hb
          rw [if_pos hb] at hus
          unfold orRow at hus
          -- region 14
          refine AW.rd mixed 0 (fun ii => if ii = 10 then some (.upd [11] (fun kk => [(0, some ⟨g, kk, 2, tabO (U.set q (List.zipWith (· || ·) (rowT U q) (rowT U k)))⟩)]) (fun _ => .tup [])) else none) [2,3,6,32,33,38,39] [2,3,11] (e3 @htl @hlen (e5 @renC_tabO @hgq @hgk @rowO.eq_1 (e5 @hrq @hrk @hwq @hwk @renC_tabO))) ?_
          repeat with_reducible refine cj ?_ ?_
          all_goals try first | (exact hm _ _) | omega | exact chk (by kernel_rfl) | exact ent (by kernel_rfl)
          refine hK8 _ _ _ ?_; clear hK8
          -- region 15
          refine AW.rg [2,3,6,32,33,38,39] [2,3,11] (e3 @htl @hlen @renC_tabO) ?_
          -- again 3
          rw [← hQl3]; change Exists _
          refine ⟨_, ?hm, q + 1, ?_, ?_, ?_, ?_, ?_, ?_, rfl, ?henv, ?hstore, ?hst⟩
          case henv =>
            repeat' (first | rfl | refine env_cons ?_ ?_ | refine st_cons ?_ ?_ ?_ ?_ | refine int_eq ?_ | refine bool_eq ?_ | refine rsl_eq ?_ | refine osl_eq ?_ | refine sl_eq ?_ ?_ ?_ | refine ptr_eq ?_ ?_ ?_ | refine agg_eq ?_ | refine es_cons ?_ ?_ | refine row_cons ?_ ?_)
            all_goals (first | (simp; done) | omega | (simp; omega))
          case hstore =>
            repeat' (first | rfl | refine env_cons ?_ ?_ | refine st_cons ?_ ?_ ?_ ?_ | refine int_eq ?_ | refine bool_eq ?_ | refine rsl_eq ?_ | refine osl_eq ?_ | refine sl_eq ?_ ?_ ?_ | refine ptr_eq ?_ ?_ ?_ | refine agg_eq ?_ | refine es_cons ?_ ?_ | refine row_cons ?_ ?_)
            all_goals (rw [hus])
          case hst =>
            first | trivial | omega | (simp; done) | (simp; omega)
          case hm => omega
        · intro hb
          rw [if_neg (by rw [hb]; simp)] at hus
          refine AW.skip ?_
          refine hK8 _ _ _ ?_; clear hK8
          -- region 15
          refine AW.rg [2,3,6,32,33,38,39] [2,3,11] (e3 @htl @hlen @renC_tabO) ?_
          -- again 3
          rw [← hQl3]; change Exists _
          refine ⟨_, ?hm, q + 1, ?_, ?_, ?_, ?_, ?_, ?_, rfl, ?henv, ?hstore, ?hst⟩
          case henv =>
            repeat' (first | rfl | refine env_cons ?_ ?_ | refine st_cons ?_ ?_ ?_ ?_ | refine int_eq ?_ | refine bool_eq ?_ | refine rsl_eq ?_ | refine osl_eq ?_ | refine sl_eq ?_ ?_ ?_ | refine ptr_eq ?_ ?_ ?_ | refine agg_eq ?_ | refine es_cons ?_ ?_ | refine row_cons ?_ ?_)
            all_goals (first | (simp; done) | omega | (simp; omega))
          case hstore =>
            repeat' (first | rfl | refine env_cons ?_ ?_ | refine st_cons ?_ ?_ ?_ ?_ | refine int_eq ?_ | refine bool_eq ?_ | refine rsl_eq ?_ | refine osl_eq ?_ | refine sl_eq ?_ ?_ ?_ | refine ptr_eq ?_ ?_ ?_ | refine agg_eq ?_ | refine es_cons ?_ ?_ | refine row_cons ?_ ?_)
            all_goals (rw [hus])
          case hst =>
            first | trivial | omega | (simp; done) | (simp; omega)
          case hm => omega
      · intro hb
        have hq : q = i := by omega
        subst hq
        -- exit 4
        refine AW.kx [2,3,32,33] [2,3,11] ?_
        rw [← hQl3]
        refine hK6 _ _ _ ?_; clear hK6
        -- region 16
        refine AW.rg [2,3,32,33] [2,3,11] (e3 @htl @hlen @renC_tabO) ?_
        -- again 2
        rw [← hQl2]; change Exists _
        refine ⟨_, ?hm, k + 1, ?_, ?_, ?_, ?_, ?_, ?_, rfl, ?henv, ?hstore, ?hst⟩
        case henv =>
          repeat' (first | rfl | refine env_cons ?_ ?_ | refine st_cons ?_ ?_ ?_ ?_ | refine int_eq ?_ | refine bool_eq ?_ | refine rsl_eq ?_ | refine osl_eq ?_ | refine sl_eq ?_ ?_ ?_ | refine ptr_eq ?_ ?_ ?_ | refine agg_eq ?_ | refine es_cons ?_ ?_ | refine row_cons ?_ ?_)
          all_goals (first | (simp; done) | omega | (simp; omega))
        case hstore =>
          repeat' (first | rfl | refine env_cons ?_ ?_ | refine st_cons ?_ ?_ ?_ ?_ | refine int_eq ?_ | refine bool_eq ?_ | refine rsl_eq ?_ | refine osl_eq ?_ | refine sl_eq ?_ ?_ ?_ | refine ptr_eq ?_ ?_ ?_ | refine agg_eq ?_ | refine es_cons ?_ ?_ | refine row_cons ?_ ?_)
          all_goals rfl
        case hst =>
          first | trivial | omega | (simp; done) | (simp; omega)
        case hm => omega
    · intro hb
      -- exit 2
      refine AW.kx [2,3] [2,3,11] ?_
      rw [← hQl2]
      refine hK4 _ _ _ ?_; clear hK4
      -- region 17
      refine AW.sg [2] [2,11] (e3 @htl @hlen @renC_tabO) ?_
      -- ret 1
      rw [← hQr]
      refine AW.rt (e3 @htl @hlen @renC_tabO) ?_
      have hk : k = i := by omega
      subst hk
      refine Wk.of_eq ?_
      rw [List.take_of_length_le (by rw [tabO_len, (hs.warsh' (Nat.le_refl _)).len]; exact Nat.le_refl _), vwcF_tabO]
      rfl
theorem compose_r (n : Nat) (a b : List (List Bool)) (ha : Sq n a) (hb0 : Sq n b) (hn : n ≤ 512) : Reads Try.prog 53 true [relB a, relB b] (relB (compT n a b)) := by
  have hla := ha.len
  have hlb := hb0.len
  have htla := tabR_len a
  have htlb := tabR_len b
  have hemp := empty_u n hn
  have hwn := wordsN_rng (n := (n : Int)) (by omega)
  have hh := fun i j hi hj => rhas_r n a ha hn i j hi hj
  unfold relB at *
  refine Reads.bodyF (rs := [.cell 4 24]) Try.func53 rfl Try.ntmps53 rfl (by simp) ?_
  generalize hQr : retQ _ _ _ = Qr
  -- block 3
  -- region 0
  refine AW.sg [2,3,4] [2,3,4] (e5 @htla @hla @htlb @hlb @renC_tabO) ?_
  -- region 1
  refine AW.so 0 (fun ii => if ii = 3 then some (.upd [] (fun k => [(0, some ⟨k, k, 2, tabO (List.replicate n (List.replicate n false))⟩)]) (fun k => .agg [.sl ⟨0, k, none⟩ 0 n none])) else none) [2,3,4,5] [2,3,4,5,11] (e5 @htla @hla @htlb @hlb @renC_tabO) ?_
  repeat with_reducible refine cj ?_ ?_
  all_goals try first | (exact hemp) | omega | exact ent (by kernel_rfl)
  refine AW.seq fun K1 hK1 => ?_
  -- region 2
  refine AW.sg [2,3,4,5,14,15] [2,3,4,5,11] (e5 @htla @hla @htlb @hlb @renC_tabO) ?_
  refine AW.block ?_
  -- loop 1
  refine AW.loopE (fun mm ee ss kk => ∃ (i g2 v2 g3 v3 g4 v4 g5 v5 g v : Nat), n - i = mm ∧ ee = [(2, .ptr ⟨2, g2, none⟩ 0 0), (3, .ptr ⟨3, g3, none⟩ 0 0), (4, .ptr ⟨4, g4, none⟩ 0 0), (5, .ptr ⟨5, g5, none⟩ 0 0), (14, .int .i64 n), (15, .int .i64 (i : Nat))] ∧ ss = [(2, some ⟨g2, v2, 1, [[.rsl 2 (tabR a)]]⟩), (3, some ⟨g3, v3, 1, [[.rsl 2 (tabR b)]]⟩), (4, some ⟨g4, v4, 1, [[.nilsl]]⟩), (5, some ⟨g5, v5, 1, [[.sl ⟨11, g, none⟩ 0 n none]]⟩), (11, some ⟨g, v, 2, tabO (iter (fun i t => iter (compI a b i) n t) i (zeroT n))⟩)] ∧ (i ≤ n)) ?_ ?_
  -- init 1
  · exact ⟨_, 0, _, _, _, _, _, _, _, _, _, _, rfl, eD, eD, eT⟩
  rintro mm ee ss kk ⟨i, g2, v2, g3, v3, g4, v4, g5, v5, g, v, rfl, rfl, rfl, hI⟩
  generalize hQl1 : thenQ _ _ = Ql1
  -- region 3
  refine AW.sg [2,3,4,5,14,15,16] [2,3,4,5,11] (e5 @htla @hla @htlb @hlb @renC_tabO) ?_
  refine AW.seq fun K2 hK2 => ?_
  -- cond 1
  refine AW.cn ?_ ?_
  · intro hb
    refine AW.skip ?_
    refine hK2 _ _ _ ?_; clear hK2
    refine AW.seq fun K3 hK3 => ?_
    refine AW.block ?_
    -- region 4
    refine AW.sg [2,3,4,5,6,14,15] [2,3,4,5,11] (e5 @htla @hla @htlb @hlb @renC_tabO) ?_
    -- region 5
    refine AW.sg [2,3,4,5,6,14,15,20,21] [2,3,4,5,11] (e5 @htla @hla @htlb @hlb @renC_tabO) ?_
    refine AW.block ?_
    -- loop 2
    refine AW.loopE (fun mm ee ss kk => ∃ (q g2 v2 g3 v3 g4 v4 g5 v5 g v : Nat), n - q = mm ∧ ee = [(2, .ptr ⟨2, g2, none⟩ 0 0), (3, .ptr ⟨3, g3, none⟩ 0 0), (4, .ptr ⟨4, g4, none⟩ 0 0), (5, .ptr ⟨5, g5, none⟩ 0 0), (6, .int .i64 (i : Nat)), (14, .int .i64 n), (15, .int .i64 (i : Nat)), (20, .int .i64 n), (21, .int .i64 (q : Nat))] ∧ ss = [(2, some ⟨g2, v2, 1, [[.rsl 2 (tabR a)]]⟩), (3, some ⟨g3, v3, 1, [[.rsl 2 (tabR b)]]⟩), (4, some ⟨g4, v4, 1, [[.nilsl]]⟩), (5, some ⟨g5, v5, 1, [[.sl ⟨11, g, none⟩ 0 n none]]⟩), (11, some ⟨g, v, 2, tabO (iter (compI a b i) q (iter (fun i t => iter (compI a b i) n t) i (zeroT n)))⟩)] ∧ (q ≤ n)) ?_ ?_
    -- init 2
    · exact ⟨_, 0, _, _, _, _, _, _, _, _, _, _, rfl, eD, eD, eT⟩
    rintro mm ee ss kk ⟨q, g2, v2, g3, v3, g4, v4, g5, v5, g, v, rfl, rfl, rfl, hI⟩
    generalize hQl2 : thenQ _ _ = Ql2
    -- region 6
    refine AW.sg [2,3,4,5,6,14,15,20,21,22] [2,3,4,5,11] (e5 @htla @hla @htlb @hlb @renC_tabO) ?_
    refine AW.seq fun K4 hK4 => ?_
    -- cond 2
    refine AW.cn ?_ ?_
    · intro hb
      have hsu : Sq n (iter (compI a b i) q (iter (fun i t => iter (compI a b i) n t) i (zeroT n))) := Sq.compK hb0 (Sq.comp' hb0 (by omega)) (by omega) (by omega)
      have hus : iter (compI a b i) (q + 1) (iter (fun i t => iter (compI a b i) n t) i (zeroT n)) = compI a b i q (iter (compI a b i) q (iter (fun i t => iter (compI a b i) n t) i (zeroT n))) := rfl
      rw [compI_eq] at hus
      generalize hU : iter (compI a b i) q (iter (fun i t => iter (compI a b i) n t) i (zeroT n)) = U at *
      have hhr := hh i q (by omega) (by omega)
      have hto := tabO_len U
      have hsl := hsu.len
      have hgq := tabO_get (t := U) (i := i) (by omega)
      have hgk := tabR_get (t := b) (i := q) (by omega)
      have hrq := hsu.rowLen (i := i) (by omega)
      have hrk := hb0.rowLen (i := q) (by omega)
      have hwq := setW_len' (rowT U i)
      rw [hrq] at hwq
      have hm := fun g v => merge_p n U hsu hn i (by omega) (rowT b q) hrk g v none
      unfold rowB at hm
      rw [hrk] at hm
      refine AW.skip ?_
      refine hK4 _ _ _ ?_; clear hK4
      refine AW.seq fun K5 hK5 => ?_
      refine AW.block ?_
      -- region 7
      refine AW.sg [2,3,4,5,6,7,14,15,20,21] [2,3,4,5,11] (e5 @htla @hla @htlb @hlb @renC_tabO) ?_
      -- region 8
      refine AW.so 0 (fun ii => if ii = 3 then some (.reads false (.bool (atT a i q))) else none) [2,3,4,5,6,7,14,15,20,21,27] [2,3,4,5,11] (e5 @htla @hla @htlb @hlb @renC_tabO) ?_
      repeat with_reducible refine cj ?_ ?_
      all_goals try first | (exact hhr) | omega | exact ent (by kernel_rfl)
      -- cond 3
      refine AW.cn ?_ ?_
      · intro hb
        rw [if_pos hb] at hus
        unfold orRow at hus
        -- region 9
        refine AW.rd mixed 0 (fun ii => if ii = 10 then some (.upd [11] (fun kk => [(0, some ⟨g, kk, 2, tabO (U.set i (List.zipWith (· || ·) (rowT U i) (rowT b q)))⟩)]) (fun _ => .tup [])) else none) [2,3,4,5,6,14,15,20,21] [2,3,4,5,11] (e5 @htla @hla @htlb @hlb (e5 @renC_tabO @hgq @hgk @rowO.eq_1 (e5 @rowB.eq_1 @hrq @hrk @hwq @renC_tabO))) ?_
        repeat with_reducible refine cj ?_ ?_
        all_goals try first | (exact hm _ _) | omega | exact chk (by kernel_rfl) | exact ent (by kernel_rfl)
        refine hK5 _ _ _ ?_; clear hK5
        -- region 10
        refine AW.rg [2,3,4,5,6,14,15,20,21] [2,3,4,5,11] (e5 @htla @hla @htlb @hlb @renC_tabO) ?_
        -- again 2
        rw [← hQl2]; change Exists _
        refine ⟨_, ?hm, q + 1, ?_, ?_, ?_, ?_, ?_, ?_, ?_, ?_, ?_, ?_, rfl, ?henv, ?hstore, ?hst⟩
        case henv =>
          repeat' (first | rfl | refine env_cons ?_ ?_ | refine st_cons ?_ ?_ ?_ ?_ | refine int_eq ?_ | refine bool_eq ?_ | refine rsl_eq ?_ | refine osl_eq ?_ | refine sl_eq ?_ ?_ ?_ | refine ptr_eq ?_ ?_ ?_ | refine agg_eq ?_ | refine es_cons ?_ ?_ | refine row_cons ?_ ?_)
          all_goals (first | (simp; done) | omega | (simp; omega))
        case hstore =>
          repeat' (first | rfl | refine env_cons ?_ ?_ | refine st_cons ?_ ?_ ?_ ?_ | refine int_eq ?_ | refine bool_eq ?_ | refine rsl_eq ?_ | refine osl_eq ?_ | refine sl_eq ?_ ?_ ?_ | refine ptr_eq ?_ ?_ ?_ | refine agg_eq ?_ | refine es_cons ?_ ?_ | refine row_cons ?_ ?_)
          all_goals (rw [hus])
        case hst =>
          first | trivial | omega | (simp; done) | (simp; omega)
        case hm => omega
      · intro hb
        rw [if_neg (by rw [hb]; simp)] at hus
        refine AW.skip ?_
        refine hK5 _ _ _ ?_; clear hK5
        -- region 10
        refine AW.rg [2,3,4,5,6,14,15,20,21] [2,3,4,5,11] (e5 @htla @hla @htlb @hlb @renC_tabO) ?_
        -- again 2
        rw [← hQl2]; change Exists _
        refine ⟨_, ?hm, q + 1, ?_, ?_, ?_, ?_, ?_, ?_, ?_, ?_, ?_, ?_, rfl, ?henv, ?hstore, ?hst⟩
        case henv =>
          repeat' (first | rfl | refine env_cons ?_ ?_ | refine st_cons ?_ ?_ ?_ ?_ | refine int_eq ?_ | refine bool_eq ?_ | refine rsl_eq ?_ | refine osl_eq ?_ | refine sl_eq ?_ ?_ ?_ | refine ptr_eq ?_ ?_ ?_ | refine agg_eq ?_ | refine es_cons ?_ ?_ | refine row_cons ?_ ?_)
          all_goals (first | (simp; done) | omega | (simp; omega))
        case hstore =>
          repeat' (first | rfl | refine env_cons ?_ ?_ | refine st_cons ?_ ?_ ?_ ?_ | refine int_eq ?_ | refine bool_eq ?_ | refine rsl_eq ?_ | refine osl_eq ?_ | refine sl_eq ?_ ?_ ?_ | refine ptr_eq ?_ ?_ ?_ | refine agg_eq ?_ | refine es_cons ?_ ?_ | refine row_cons ?_ ?_)
          all_goals (rw [hus])
        case hst =>
          first | trivial | omega | (simp; done) | (simp; omega)
        case hm => omega
    · intro hb
      have hq : q = n := by omega
      subst hq
      -- exit 2
      refine AW.kx [2,3,4,5,14,15] [2,3,4,5,11] ?_
      rw [← hQl2]
      refine hK3 _ _ _ ?_; clear hK3
      -- region 11
      refine AW.rg [2,3,4,5,14,15] [2,3,4,5,11] (e5 @htla @hla @htlb @hlb @renC_tabO) ?_
      -- again 1
      rw [← hQl1]; change Exists _
      refine ⟨_, ?hm, i + 1, ?_, ?_, ?_, ?_, ?_, ?_, ?_, ?_, ?_, ?_, rfl, ?henv, ?hstore, ?hst⟩
      case henv =>
        repeat' (first | rfl | refine env_cons ?_ ?_ | refine st_cons ?_ ?_ ?_ ?_ | refine int_eq ?_ | refine bool_eq ?_ | refine rsl_eq ?_ | refine osl_eq ?_ | refine sl_eq ?_ ?_ ?_ | refine ptr_eq ?_ ?_ ?_ | refine agg_eq ?_ | refine es_cons ?_ ?_ | refine row_cons ?_ ?_)
        all_goals (first | (simp; done) | omega | (simp; omega))
      case hstore =>
        repeat' (first | rfl | refine env_cons ?_ ?_ | refine st_cons ?_ ?_ ?_ ?_ | refine int_eq ?_ | refine bool_eq ?_ | refine rsl_eq ?_ | refine osl_eq ?_ | refine sl_eq ?_ ?_ ?_ | refine ptr_eq ?_ ?_ ?_ | refine agg_eq ?_ | refine es_cons ?_ ?_ | refine row_cons ?_ ?_)
        all_goals rfl
      case hst =>
        first | trivial | omega | (simp; done) | (simp; omega)
      case hm => omega
  · intro hb
    -- exit 0
    refine AW.kx [4,5] [4,5,11] ?_
    rw [← hQl1]
    refine hK1 _ _ _ ?_; clear hK1
    -- region 12
    refine AW.sg [4] [4,11] (e5 @htla @hla @htlb @hlb @renC_tabO) ?_
    -- ret 1
    rw [← hQr]
    refine AW.rt (e5 @htla @hla @htlb @hlb @renC_tabO) ?_
    have hk : i = n := by omega
    subst hk
    refine Wk.of_eq ?_
    rw [List.take_of_length_le (by rw [tabO_len, (Sq.comp' hb0 (Nat.le_refl _)).len]; exact Nat.le_refl _), vwcF_tabO]
    rfl
end Go.Proofs.R

namespace Go.Proofs.R
open Go.AM Go
set_option maxRecDepth 100000
set_option maxHeartbeats 1000000
def longR (rs : List USet) : Prop := rs.length ≤ 9223372036854775807 ∧ ∀ x ∈ rs, x.W.length ≤ 9223372036854775807
theorem valid_g (n : Nat) (t : List (List Bool)) (hs : Sq n t) (hn : n ≤ 512) : Reads Try.prog 14 false [relB t] (.bool true) := by
  have h := rvalid_r (t.map SB) (by simp [hs.len]; omega) (fun x hx => by
    obtain ⟨b, hb, rfl⟩ := List.mem_map.1 hx
    have := hs.row b hb
    have hwn := wordsN_rng (n := (b.length : Int)) (by omega)
    show (setW b b.length).length ≤ _
    rw [setW_len']; omega)
  rw [valid_tab hs hn, ← relB_SB] at h
  exact h
theorem pairs_g (n : Nat) (t : List (List Bool)) (hs : Sq n t) (hn : n ≤ 512) : Reads Try.prog 16 false [relB t] (.tup [.rsl 2 ((pairsT t n).map pairV), .int .i64 ((0 : Nat) : Int)]) := by
  have h := (valid_g n t hs hn)
  have ha := (all_r n t hs hn)
  unfold relB at *
  refine Reads.body (rs := [.tmp 2, .tmp 3]) Try.func16 rfl Try.ntmps16 rfl (by simp) ?_
  generalize hQr : retQ _ _ _ = Qr
  -- block 7
  -- region 0
  refine AW.sg [1] [1] trivial ?_
  refine AW.seq fun K1 hK1 => ?_
  -- region 1
  refine AW.so 0 (fun ii => if ii = 1 then some (.reads false (.bool true)) else none) [1,6] [1] trivial ?_
  repeat with_reducible refine cj ?_ ?_
  all_goals try first | (exact h) | omega | exact ent (by kernel_rfl)
  -- cond 1
  refine AW.cn ?_ ?_
  · intro hb
    simp at hb
  · intro hb
    refine AW.skip ?_
    refine hK1 _ _ _ ?_; clear hK1
    -- region 3
    refine AW.so 0 (fun ii => if ii = 1 then some (.reads true (.rsl 2 ((pairsT t n).map pairV))) else none) [2,3] [] trivial ?_
    repeat with_reducible refine cj ?_ ?_
    all_goals try first | (exact ha) | omega | exact ent (by kernel_rfl)
    -- ret 2
    rw [← hQr]
    refine AW.rt trivial ?_
    exact Wk.refl _
end Go.Proofs.R

namespace Go.Proofs.R
open Go.AM Go
set_option maxRecDepth 100000
set_option maxHeartbeats 1000000
theorem closure_g (n : Nat) (t : List (List Bool)) (hs : Sq n t) (hn : n ≤ 512) : Reads Try.prog 21 false [relB t] (.tup [relB (warsh n t), .int .i64 ((0 : Nat) : Int)]) := by
  have h := valid_g n t hs hn
  have ha := closure_r n t hs hn
  unfold relB at *
  refine Reads.body (rs := [.cell 2 24, .tmp 3]) Try.func21 rfl Try.ntmps21 rfl (by simp) ?_
  generalize hQr : retQ _ _ _ = Qr
  -- block 1
  -- region 0
  refine AW.sg [1,2] [1,2] trivial ?_
  refine AW.seq fun K1 hK1 => ?_
  -- region 1
  refine AW.so 0 (fun ii => if ii = 1 then some (.reads false (.bool true)) else none) [1,2,6] [1,2] trivial ?_
  repeat with_reducible refine cj ?_ ?_
  all_goals try first | (exact h) | omega | exact ent (by kernel_rfl)
  -- cond 1
  refine AW.cn ?_ ?_
  · intro hb
    simp at hb
  · intro hb
    refine AW.skip ?_
    refine hK1 _ _ _ ?_; clear hK1
    -- region 3
    refine AW.so 0 (fun ii => if ii = 1 then some (.reads true (.agg [.rsl 2 (tabR (warsh n t))])) else none) [2,3] [2] trivial ?_
    repeat with_reducible refine cj ?_ ?_
    all_goals try first | (exact ha) | omega | exact ent (by kernel_rfl)
    -- ret 2
    rw [← hQr]
    refine AW.rt trivial ?_
    exact Wk.refl _
theorem compose_g (n : Nat) (a b : List (List Bool)) (ha : Sq n a) (hb0 : Sq n b) (hn : n ≤ 512) : Reads Try.prog 19 false [relB a, relB b] (.tup [relB (compT n a b), .int .i64 ((0 : Nat) : Int)]) := by
  have h := valid_g n a ha hn
  have h2 := valid_g n b hb0 hn
  have hc := compose_r n a b ha hb0 hn
  have hla : (tabR a).length = n := by rw [tabR_len, ha.len]
  have hlb : (tabR b).length = n := by rw [tabR_len, hb0.len]
  unfold relB at *
  refine Reads.body (rs := [.cell 4 24, .tmp 5]) Try.func19 rfl Try.ntmps19 rfl (by simp) ?_
  generalize hQr : retQ _ _ _ = Qr
  -- block 2
  -- region 0
  refine AW.sg [2,3,4] [2,3,4] (e2 @hla @hlb) ?_
  refine AW.seq fun K1 hK1 => ?_
  -- region 1
  refine AW.so 0 (fun ii => if ii = 1 then some (.reads false (.bool true)) else if ii = 5 then some (.reads false (.bool true)) else none) [2,3,4,22] [2,3,4] (e2 @hla @hlb) ?_
  repeat with_reducible refine cj ?_ ?_
  all_goals try first | (first | exact h | (intro hh; exact ⟨hh, h2⟩)) | (intros; (repeat' apply And.intro) <;> first | assumption | (first | exact h | (intro hh; exact ⟨hh, h2⟩))) | omega | exact ent (by kernel_rfl) | (intro hgd; exact absurd hgd (by decide)) | rfl | (simp only [go_sem, reduceIte, reduceCtorEq, Nat.reduceAdd, Nat.reduceMul, Nat.reduceEqDiff, Nat.reduceLT, Nat.reduceLeDiff, Nat.reduceSub, Nat.reducePow, Nat.reduceBEq, Int.reduceToNat, List.reduceReplicate, hla, hlb]; done) | (intro _hgd; simp_all [go_sem]; done)
  -- cond 1
  refine AW.cn ?_ ?_
  · intro hb
    exfalso; simp at hb
  · intro hb
    refine AW.skip ?_
    refine hK1 _ _ _ ?_; clear hK1
    -- region 3
    refine AW.so 0 (fun ii => if ii = 2 then some (.reads true (.agg [.rsl 2 (tabR (compT n a b))])) else none) [4,5] [4] (e2 @hla @hlb) ?_
    repeat with_reducible refine cj ?_ ?_
    all_goals try first | (exact hc) | omega | exact ent (by kernel_rfl)
    -- ret 2
    rw [← hQr]
    refine AW.rt (e2 @hla @hlb) ?_
    exact Wk.refl _
theorem acyclic_g (n : Nat) (t : List (List Bool)) (hs : Sq n t) (hn : n ≤ 512) : Reads Try.prog 32 false [relB t] (.bool (acyc n t)) := by
  have h := valid_g n t hs hn
  have ha := closure_r n t hs hn
  have hsw := hs.warsh
  have hlw : (tabR (warsh n t)).length = n := by rw [tabR_len, hsw.len]
  have hh := fun j hj => rhas_r n (warsh n t) hsw hn j j hj hj
  have hac : acyc n t = (List.range n).all fun i => !atT (warsh n t) i i := rfl
  generalize warsh n t = c at *
  unfold relB at *
  refine Reads.body (rs := [.tmp 2]) Try.func32 rfl Try.ntmps32 rfl (by simp) ?_
  generalize hQr : retQ _ _ _ = Qr
  -- block 3
  -- region 0
  refine AW.sg [1] [1] (@hlw) ?_
  refine AW.seq fun K1 hK1 => ?_
  -- region 1
  refine AW.so 0 (fun ii => if ii = 1 then some (.reads false (.bool true)) else none) [1,7] [1] (@hlw) ?_
  repeat with_reducible refine cj ?_ ?_
  all_goals try first | (exact h) | omega | exact ent (by kernel_rfl)
  -- cond 1
  refine AW.cn ?_ ?_
  · intro hb
    simp at hb
  · intro hb
    refine AW.skip ?_
    refine hK1 _ _ _ ?_; clear hK1
    -- region 3
    refine AW.so 0 (fun ii => if ii = 1 then some (.reads true (.agg [.rsl 2 (tabR c)])) else none) [3] [3] (@hlw) ?_
    repeat with_reducible refine cj ?_ ?_
    all_goals try first | (exact ha) | omega | exact ent (by kernel_rfl)
    refine AW.seq fun K2 hK2 => ?_
    -- region 4
    refine AW.sg [3,12,13] [3] (@hlw) ?_
    refine AW.block ?_
    -- loop 1
    refine AW.loopE (fun mm ee ss kk => ∃ (j g3 v3 : Nat), n - j = mm ∧ ee = [(3, .ptr ⟨3, g3, none⟩ 0 0), (12, .int .i64 n), (13, .int .i64 (j : Nat))] ∧ ss = [(3, some ⟨g3, v3, 1, [[.rsl 2 (tabR c)]]⟩)] ∧ (j ≤ n ∧ ((List.range j).all fun i => !atT c i i) = true)) ?_ ?_
    -- init 1
    · exact ⟨_, 0, _, _, rfl, eD, eD, (⟨Nat.zero_le _, rfl⟩)⟩
    rintro mm ee ss kk ⟨j, g3, v3, rfl, rfl, rfl, hI⟩
    generalize hQl1 : thenQ _ _ = Ql1
    obtain ⟨hj, hall⟩ := hI
    -- region 5
    refine AW.sg [3,12,13,14] [3] (@hlw) ?_
    refine AW.seq fun K3 hK3 => ?_
    -- cond 2
    refine AW.cn ?_ ?_
    · intro hb
      have hhj := hh j (by omega)
      have hrs := range_all_succ (p := fun i => !atT c i i) j
      rw [hall] at hrs
      refine AW.skip ?_
      refine hK3 _ _ _ ?_; clear hK3
      refine AW.seq fun K4 hK4 => ?_
      refine AW.block ?_
      -- region 6
      refine AW.sg [3,4,12,13] [3] (@hlw) ?_
      -- region 7
      refine AW.so 0 (fun ii => if ii = 3 then some (.reads false (.bool (atT c j j))) else none) [3,12,13,19] [3] (@hlw) ?_
      repeat with_reducible refine cj ?_ ?_
      all_goals try first | (exact hhj) | omega | exact ent (by kernel_rfl)
      -- cond 3
      refine AW.cn ?_ ?_
      · intro hb
        -- region 8
        refine AW.sg [2] [] (@hlw) ?_
        -- ret 2
        rw [← hQl1, ← hQr]
        refine AW.rt (@hlw) ?_
        exact Wk.of_eq (by rw [hac, range_all_false (j := j) (by omega) (by rw [hb]; rfl)])
      · intro hb
        refine AW.skip ?_
        refine hK4 _ _ _ ?_; clear hK4
        -- region 9
        refine AW.rg [3,12,13] [3] (@hlw) ?_
        -- again 1
        rw [← hQl1]; change Exists _
        exact ⟨_, eO, j + 1, _, _, rfl, eD, eD, (⟨by omega, by rw [hrs, hb]; rfl⟩)⟩
    · intro hb
      -- exit 0
      refine AW.kx [] [] ?_
      rw [← hQl1]
      refine hK2 _ _ _ ?_; clear hK2
      -- region 10
      refine AW.sg [2] [] (@hlw) ?_
      -- ret 3
      rw [← hQr]
      refine AW.rt (@hlw) ?_
      have hj2 : j = n := by omega
      subst hj2
      exact Wk.of_eq (by rw [hac, hall])
theorem fillO_get (t : List (List Bool)) (x : List AV) (i : Nat) (h : i < t.length) : ((tabO t).set i x).getD i [] = x := Go.AM.getD_set_eq (by rw [tabO_len]; exact h) _ _
theorem reduction_c (n : Nat) (t : List (List Bool)) (hs : Sq n t) (hn : n ≤ 512) (hac : acyc n t = false) : Reads Try.prog 22 false [relB t] (.tup [.agg [.rsl 2 []], .int .i64 ((10 : Nat) : Int)]) := by
  have h := valid_g n t hs hn
  have h2 := acyclic_g n t hs hn
  rw [hac] at h2
  unfold relB at *
  refine Reads.body (rs := [.cell 2 24, .tmp 3]) Try.func22 rfl Try.ntmps22 rfl (by simp) ?_
  generalize hQr : retQ _ _ _ = Qr
  -- block 5
  -- region 0
  refine AW.sg [1,2] [1,2] trivial ?_
  refine AW.seq fun K1 hK1 => ?_
  refine AW.block ?_
  -- region 1
  refine AW.so 0 (fun ii => if ii = 1 then some (.reads false (.bool true)) else none) [1,2,10] [1,2] trivial ?_
  repeat with_reducible refine cj ?_ ?_
  all_goals try first | (exact h) | omega | exact ent (by kernel_rfl)
  -- cond 1
  refine AW.cn ?_ ?_
  · intro hb
    simp at hb
  · intro hb
    -- region 3
    refine AW.so 0 (fun ii => if ii = 1 then some (.reads false (.bool false)) else none) [1,2,15] [1,2] trivial ?_
    repeat with_reducible refine cj ?_ ?_
    all_goals try first | (exact h2) | omega | exact ent (by kernel_rfl)
    -- cond 2
    refine AW.cn ?_ ?_
    · intro hb
      -- region 4
      refine AW.sg [2,3] [2] trivial ?_
      -- ret 2
      rw [← hQr]
      refine AW.rt trivial ?_
      exact Wk.tup2 (Wk.agg1 (Wk.nil 2)) (Wk.refl _)
    · intro hb
      simp at hb
theorem reduction_g (n : Nat) (t : List (List Bool)) (hs : Sq n t) (hn : n ≤ 512) (hac : acyc n t = true) : Reads Try.prog 22 false [relB t] (.tup [relB (redT n t (compT n t (warsh n t))), .int .i64 ((0 : Nat) : Int)]) := by
  have h := valid_g n t hs hn
  have h2 := acyclic_g n t hs hn
  rw [hac] at h2
  have hcl := (closure_r n t hs hn).old
  have hco := (compose_r n t (warsh n t) hs hs.warsh hn).old
  have hsl : Sq n (compT n t (warsh n t)) := Sq.comp hs.warsh
  have hemp := empty_u n hn
  have hlt : (tabR t).length = n := by rw [tabR_len, hs.len]
  have hwn := wordsN_rng (n := (n : Int)) (by omega)
  generalize hl : compT n t (warsh n t) = l at *
  have hsr := Sq.red hs hsl
  have hll : (tabR l).length = n := by rw [tabR_len, hsl.len]
  unfold relB at *
  refine Reads.body (rs := [.cell 2 24, .tmp 3]) Try.func22 rfl Try.ntmps22 rfl (by simp) ?_
  generalize hQr : retQ _ _ _ = Qr
  -- block 6
  -- region 0
  refine AW.sg [1,2] [1,2] (e2 @hlt @renC_tabO) ?_
  refine AW.seq fun K1 hK1 => ?_
  refine AW.block ?_
  -- region 1
  refine AW.so 0 (fun ii => if ii = 1 then some (.reads false (.bool true)) else none) [1,2,10] [1,2] (e2 @hlt @renC_tabO) ?_
  repeat with_reducible refine cj ?_ ?_
  all_goals try first | (exact h) | omega | exact ent (by kernel_rfl)
  -- cond 1
  refine AW.cn ?_ ?_
  · intro hb
    simp at hb
  · intro hb
    -- region 3
    refine AW.so 0 (fun ii => if ii = 1 then some (.reads false (.bool true)) else none) [1,2,15] [1,2] (e2 @hlt @renC_tabO) ?_
    repeat with_reducible refine cj ?_ ?_
    all_goals try first | (exact h2) | omega | exact ent (by kernel_rfl)
    -- cond 2
    refine AW.cn ?_ ?_
    · intro hb
      simp at hb
    · intro hb
      refine AW.skip ?_
      refine hK1 _ _ _ ?_; clear hK1
      -- region 5
      refine AW.sd mixed 0 (fun ii => if ii = 2 then some (.reads false (.agg [.rsl 2 (tabR (warsh n t))])) else if ii = 3 then some (.reads false (.agg [.rsl 2 (tabR l)])) else none) [1,2,4] [1,2,4] (e2 @hlt @renC_tabO) ?_
      repeat with_reducible refine cj ?_ ?_
      all_goals try first | (first | exact hcl | exact hco) | omega | exact chk (by kernel_rfl) | exact ent (by kernel_rfl)
      -- region 6
      refine AW.so 0 (fun ii => if ii = 3 then some (.upd [] (fun k => [(0, some ⟨k, k, 2, tabO (List.replicate n (List.replicate n false))⟩)]) (fun k => .agg [.sl ⟨0, k, none⟩ 0 n none])) else none) [1,2,4,5] [1,2,4,5,27] (e2 @hlt @renC_tabO) ?_
      repeat with_reducible refine cj ?_ ?_
      all_goals try first | (exact hemp) | omega | exact ent (by kernel_rfl)
      refine AW.seq fun K2 hK2 => ?_
      -- region 7
      refine AW.sg [2,4,5,29,30,31] [2,4,5,27] (e2 @hlt @renC_tabO) ?_
      refine AW.block ?_
      -- loop 1
      refine AW.loopE (fun mm ee ss kk => ∃ (i g2 v2 g4 v4 g5 v5 g v : Nat), n - i = mm ∧ ee = [(2, .ptr ⟨2, g2, none⟩ 0 0), (4, .ptr ⟨4, g4, none⟩ 0 0), (5, .ptr ⟨5, g5, none⟩ 0 0), (29, .rsl 2 (tabR t)), (30, .int .i64 n), (31, .int .i64 (i : Nat))] ∧ ss = [(2, some ⟨g2, v2, 1, [[.nilsl]]⟩), (4, some ⟨g4, v4, 1, [[.rsl 2 (tabR l)]]⟩), (5, some ⟨g5, v5, 1, [[.sl ⟨27, g, none⟩ 0 n none]]⟩), (27, some ⟨g, v, 2, tabO (fillT (redT n t l) n i)⟩)] ∧ (i ≤ n)) ?_ ?_
      -- init 1
      · refine ⟨_, 0, ?_, ?_, ?_, ?_, ?_, ?_, ?_, ?_, rfl, ?henv, ?hstore, ?hst⟩
        case henv =>
          repeat' (first | rfl | refine env_cons ?_ ?_ | refine st_cons ?_ ?_ ?_ ?_ | refine int_eq ?_ | refine bool_eq ?_ | refine rsl_eq ?_ | refine osl_eq ?_ | refine sl_eq ?_ ?_ ?_ | refine ptr_eq ?_ ?_ ?_ | refine agg_eq ?_ | refine es_cons ?_ ?_ | refine row_cons ?_ ?_)
          all_goals (first | (simp; done) | omega | (simp; omega))
        case hstore =>
          repeat' (first | rfl | refine env_cons ?_ ?_ | refine st_cons ?_ ?_ ?_ ?_ | refine int_eq ?_ | refine bool_eq ?_ | refine rsl_eq ?_ | refine osl_eq ?_ | refine sl_eq ?_ ?_ ?_ | refine ptr_eq ?_ ?_ ?_ | refine agg_eq ?_ | refine es_cons ?_ ?_ | refine row_cons ?_ ?_)
          all_goals (rw [fillT_zero]; rfl)
        case hst =>
          first | trivial | omega | (simp; done) | (simp; omega)
      rintro mm ee ss kk ⟨i, g2, v2, g4, v4, g5, v5, g, v, rfl, rfl, rfl, hI⟩
      generalize hQl1 : thenQ _ _ = Ql1
      -- region 8
      refine AW.sg [2,4,5,29,30,31,32] [2,4,5,27] (e2 @hlt @renC_tabO) ?_
      refine AW.seq fun K3 hK3 => ?_
      -- cond 3
      refine AW.cn ?_ ?_
      · intro hb
        have hsf := fillT_sq hsr (i := i) (by omega)
        have hgr := tabR_get (t := t) (i := i) (by rw [hs.len]; omega)
        have hgl := tabR_get (t := l) (i := i) (by rw [hsl.len]; omega)
        have hgo := tabO_get (t := fillT (redT n t l) n i) (i := i) (by rw [hsf.len]; omega)
        rw [fillT_row hsr (by omega), rowO, List.length_replicate] at hgo
        have hto := tabO_len (fillT (redT n t l) n i)
        have hfl := hsf.len
        have hrl := hs.rowLen (i := i) (by omega)
        have hrl2 := hsl.rowLen (i := i) (by omega)
        have hfs := fillT_succ hsr (i := i) (by omega)
        have hrr := hsr.rowLen (i := i) (by omega)
        have hts := tabO_set (fillT (redT n t l) n i) i (rowT (redT n t l) i)
        have hwl := setW_len' (rowT t i)
        have hwl2 := setW_len' (rowT l i)
        have hwz := setW_len' (List.replicate n false)
        have hzz := zipW_setW bitOp_andNot (a := rowT t i) (b := rowT l i) (by rw [hrl, hrl2])
        rw [hrl] at hwl
        rw [hrl2] at hwl2
        rw [List.length_replicate] at hwz
        rw [hrl, hrl2] at hzz
        have hro : rowO (rowT (redT n t l) i) = [.int .i64 n, .osl 1 (words (List.zipWith (bAndNot .u64) (setW (rowT t i) n) (setW (rowT l i) n)))] := by rw [rowO, hrr, redT_row (by omega), hzz]; rfl
        have hfg := fillO_get (fillT (redT n t l) n i)
        generalize hF : fillT (redT n t l) n i = F at *
        have hfix : (tabO F).set i [.int .i64 n, .osl 1 (words (setW (List.replicate n false) n))] = tabO F := by rw [← hgo]; exact set_getD_self _ _ _
        generalize hA : setW (rowT t i) n = A at *
        generalize hB : setW (rowT l i) n = B at *
        generalize hZ : setW (List.replicate n false) n = Z at *
        have hAB : A.length = B.length := by omega
        have hZA : Z.length = A.length := by omega
        refine AW.skip ?_
        refine hK3 _ _ _ ?_; clear hK3
        refine AW.seq fun K4 hK4 => ?_
        refine AW.block ?_
        -- region 9
        refine AW.sg [2,4,5,6,7,29,30,31] [2,4,5,7,27] (e2 @hlt (e5 @renC_tabO @hgr @rowB.eq_1 @hrl @hA)) ?_
        -- region 10
        refine AW.sg [2,4,5,6,29,30,31,37,38,39] [2,4,5,27] (e2 @hlt @renC_tabO) ?_
        refine AW.block ?_
        -- loop 2
        refine AW.loopE (fun mm ee ss kk => ∃ (k g2 v2 g4 v4 g5 v5 : Nat), A.length - k = mm ∧ ee = [(2, .ptr ⟨2, g2, none⟩ 0 0), (4, .ptr ⟨4, g4, none⟩ 0 0), (5, .ptr ⟨5, g5, none⟩ 0 0), (6, .int .i64 (i : Nat)), (29, .rsl 2 (tabR t)), (30, .int .i64 n), (31, .int .i64 (i : Nat)), (37, .rsl 1 (words A)), (38, .int .i64 A.length), (39, .int .i64 (k : Nat))] ∧ ss = [(2, some ⟨g2, v2, 1, [[.nilsl]]⟩), (4, some ⟨g4, v4, 1, [[.rsl 2 (tabR l)]]⟩), (5, some ⟨g5, v5, 1, [[.sl ⟨27, g, none⟩ 0 n none]]⟩), (27, some ⟨g, v, 2, (tabO F).set i [.int .i64 n, .osl 1 (words (mixW (bAndNot .u64) A B Z k))]⟩)] ∧ (k ≤ A.length)) ?_ ?_
        -- init 2
        · refine ⟨_, 0, ?_, ?_, ?_, ?_, ?_, ?_, rfl, ?henv, ?hstore, ?hst⟩
          case henv =>
            repeat' (first | rfl | refine env_cons ?_ ?_ | refine st_cons ?_ ?_ ?_ ?_ | refine int_eq ?_ | refine bool_eq ?_ | refine rsl_eq ?_ | refine osl_eq ?_ | refine sl_eq ?_ ?_ ?_ | refine ptr_eq ?_ ?_ ?_ | refine agg_eq ?_ | refine es_cons ?_ ?_ | refine row_cons ?_ ?_)
            all_goals (first | (simp; done) | omega | (simp; omega))
          case hstore =>
            repeat' (first | rfl | refine env_cons ?_ ?_ | refine st_cons ?_ ?_ ?_ ?_ | refine int_eq ?_ | refine bool_eq ?_ | refine rsl_eq ?_ | refine osl_eq ?_ | refine sl_eq ?_ ?_ ?_ | refine ptr_eq ?_ ?_ ?_ | refine agg_eq ?_ | refine es_cons ?_ ?_ | refine row_cons ?_ ?_)
            all_goals (first | (rw [mixW_zero, hfix]; done) | rfl)
          case hst =>
            first | trivial | omega | (simp; done) | (simp; omega)
        rintro mm ee ss kk ⟨k, g2, v2, g4, v4, g5, v5, rfl, rfl, rfl, hI⟩
        generalize hQl2 : thenQ _ _ = Ql2
        -- region 11
        refine AW.sg [2,4,5,6,29,30,31,37,38,39,40] [2,4,5,27] (e2 @hlt @renC_tabO) ?_
        refine AW.seq fun K5 hK5 => ?_
        -- cond 4
        refine AW.cn ?_ ?_
        · intro hb
          have hga := words_getD (l := A) (i := k) (by omega)
          have hgb := words_getD (l := B) (i := k) (by omega)
          have hml := mixW_len (f := bAndNot .u64) hAB hZA k
          have hms := mixW_succ (f := bAndNot .u64) hAB hZA (j := k) (by omega)
          have hgm := words_getD (l := mixW (bAndNot .u64) A B Z k) (i := k) (by omega)
          have hfg2 := fun x => hfg x i (by omega)
          refine AW.skip ?_
          refine hK5 _ _ _ ?_; clear hK5
          refine AW.seq fun K6 hK6 => ?_
          refine AW.block ?_
          -- region 12
          refine AW.sg [2,4,5,6,8,9,29,30,31,37,38,39] [2,4,5,27] (e3 @hlt @renC_tabO @hga) ?_
          -- region 13
          refine AW.rd mixed 0 (fun _ => none) [2,4,5,6,29,30,31,37,38,39] [2,4,5,27] (e2 @hlt (e5 @renC_tabO @hfg2 @hgl @rowB.eq_1 (e5 @hrl2 @hB @hgb @hgm @List.set_set.{0}))) ?_
          refine hK6 _ _ _ ?_; clear hK6
          -- region 14
          refine AW.rg [2,4,5,6,29,30,31,37,38,39] [2,4,5,27] (e2 @hlt @renC_tabO) ?_
          -- again 2
          rw [← hQl2]; change Exists _
          refine ⟨_, ?hm, k + 1, ?_, ?_, ?_, ?_, ?_, ?_, rfl, ?henv, ?hstore, ?hst⟩
          case henv =>
            repeat' (first | rfl | refine env_cons ?_ ?_ | refine st_cons ?_ ?_ ?_ ?_ | refine int_eq ?_ | refine bool_eq ?_ | refine rsl_eq ?_ | refine osl_eq ?_ | refine sl_eq ?_ ?_ ?_ | refine ptr_eq ?_ ?_ ?_ | refine agg_eq ?_ | refine es_cons ?_ ?_ | refine row_cons ?_ ?_)
            all_goals (first | (simp; done) | omega | (simp; omega))
          case hstore =>
            repeat' (first | rfl | refine env_cons ?_ ?_ | refine st_cons ?_ ?_ ?_ ?_ | refine int_eq ?_ | refine bool_eq ?_ | refine rsl_eq ?_ | refine osl_eq ?_ | refine sl_eq ?_ ?_ ?_ | refine ptr_eq ?_ ?_ ?_ | refine agg_eq ?_ | refine es_cons ?_ ?_ | refine row_cons ?_ ?_)
            all_goals (rw [hms])
          case hst =>
            first | trivial | omega | (simp; done) | (simp; omega)
          case hm => omega
        · intro hb
          have hk : k = A.length := by omega
          subst hk
          rw [mixW_all hAB hZA (Nat.le_refl _)]
          -- exit 3
          refine AW.kx [2,4,5,29,30,31] [2,4,5,27] ?_
          rw [← hQl2]
          refine hK4 _ _ _ ?_; clear hK4
          -- region 15
          refine AW.rg [2,4,5,29,30,31] [2,4,5,27] (e2 @hlt @renC_tabO) ?_
          -- again 1
          rw [← hQl1]; change Exists _
          refine ⟨_, ?hm, i + 1, ?_, ?_, ?_, ?_, ?_, ?_, ?_, ?_, rfl, ?henv, ?hstore, ?hst⟩
          case henv =>
            repeat' (first | rfl | refine env_cons ?_ ?_ | refine st_cons ?_ ?_ ?_ ?_ | refine int_eq ?_ | refine bool_eq ?_ | refine rsl_eq ?_ | refine osl_eq ?_ | refine sl_eq ?_ ?_ ?_ | refine ptr_eq ?_ ?_ ?_ | refine agg_eq ?_ | refine es_cons ?_ ?_ | refine row_cons ?_ ?_)
            all_goals (first | (simp; done) | omega | (simp; omega))
          case hstore =>
            repeat' (first | rfl | refine env_cons ?_ ?_ | refine st_cons ?_ ?_ ?_ ?_ | refine int_eq ?_ | refine bool_eq ?_ | refine rsl_eq ?_ | refine osl_eq ?_ | refine sl_eq ?_ ?_ ?_ | refine ptr_eq ?_ ?_ ?_ | refine agg_eq ?_ | refine es_cons ?_ ?_ | refine row_cons ?_ ?_)
            all_goals (first | (rw [← hro, hts, hfs]; done) | rfl)
          case hst =>
            first | trivial | omega | (simp; done) | (simp; omega)
          case hm => omega
      · intro hb
        -- exit 1
        refine AW.kx [2,5] [2,5,27] ?_
        rw [← hQl1]
        refine hK2 _ _ _ ?_; clear hK2
        -- region 16
        refine AW.sg [2,3] [2,27] (e2 @hlt @renC_tabO) ?_
        -- ret 3
        rw [← hQr]
        refine AW.rt (e2 @hlt @renC_tabO) ?_
        have hi : i = n := by omega
        subst hi
        rw [fillT_all hsr]
        refine Wk.of_eq ?_
        rw [List.take_of_length_le (by rw [tabO_len, hsr.len]; exact Nat.le_refl _), vwc_tabO]
        rfl
end Go.Proofs.R

namespace Go.Proofs.R
open Go.AM Go
set_option maxRecDepth 100000
set_option maxHeartbeats 1000000
def badPr (n : Int) (p : Int × Int) : Bool := !(decide (0 ≤ p.1) && decide (p.1 < n)) || !(decide (0 ≤ p.2) && decide (p.2 < n))
theorem in_r (n i : Int) : Reads Try.prog 43 false [.int .i64 i, .rptr [.int .i64 n]] (.bool (decide (0 ≤ i) && decide (i < n))) := by
  refine Reads.body (rs := [.tmp 3]) Try.func43 rfl Try.ntmps43 rfl (by simp) ?_
  generalize hQr : retQ _ _ _ = Qr
  -- block 1
  -- region 0
  refine AW.sg [0,1] [] trivial ?_
  -- region 1
  refine AW.sg [3] [] trivial ?_
  repeat with_reducible refine cj ?_ ?_
  all_goals try first | omega | (intros; (repeat' apply And.intro) <;> first | assumption | omega | decide) | (intro hgd; exact absurd hgd (by decide)) | rfl | exact gD | (intro _hgd; simp_all [go_sem]; done)
  -- ret 1
  rw [← hQr]
  refine AW.rt trivial ?_
  exact Wk.of_eq (by simp)
theorem badpr_r (n : Int) (p : Int × Int) : Reads Try.prog 45 false [.agg (pairV p), .rptr [.fn 43 [.rptr [.int .i64 n]]]] (.bool (badPr n p)) := by
  have h := in_r n
  unfold pairV
  refine Reads.body (rs := [.tmp 3]) Try.func45 rfl Try.ntmps45 rfl (by simp) ?_
  generalize hQr : retQ _ _ _ = Qr
  -- block 2
  -- region 0
  refine AW.sg [1,2] [2] trivial ?_
  -- region 1
  refine AW.so 0 (fun ii => if ii = 3 then some (.reads false (.bool (decide (0 ≤ p.1) && decide (p.1 < n)))) else if ii = 9 then some (.reads false (.bool (decide (0 ≤ p.2) && decide (p.2 < n)))) else none) [3] [] trivial ?_
  repeat with_reducible refine cj ?_ ?_
  all_goals try first | (first | exact h p.1 | (intro hh; exact ⟨hh, h p.2⟩)) | (intros; (repeat' apply And.intro) <;> first | assumption | (first | exact h p.1 | (intro hh; exact ⟨hh, h p.2⟩))) | omega | exact ent (by kernel_rfl) | (intro hgd; exact absurd hgd (by decide)) | rfl | exact gD | (intro _hgd; simp_all [go_sem]; done)
  -- ret 1
  rw [← hQr]
  refine AW.rt trivial ?_
  exact Wk.of_eq (by unfold badPr; simp)
theorem ixpr_r (n : Int) (ns : List (Int × Int)) (hl2 : ns.length ≤ 9223372036854775807) : Reads Try.prog 60 false [.rsl 2 (ns.map pairV), .fn 45 [.rptr [.fn 43 [.rptr [.int .i64 n]]]]] (.int .i64 (ixf (badPr n) ns)) := by
  have hbp := fun p => badpr_r n p
  refine Reads.body (rs := [.tmp 4]) Try.func60 rfl Try.ntmps60 rfl (by simp) ?_
  generalize hQr : retQ _ _ _ = Qr
  -- block 3
  -- region 0
  refine AW.sg [0,1] [] trivial ?_
  refine AW.seq fun K1 hK1 => ?_
  -- region 1
  refine AW.sg [0,1,7,8] [] trivial ?_
  refine AW.block ?_
  -- loop 1
  refine AW.loopE (fun mm ee ss kk => ∃ (j : Nat), ns.length - j = mm ∧ ee = [(0, .rsl 2 (ns.map pairV)), (1, .fn 45 [.rptr [.fn 43 [.rptr [.int .i64 n]]]]), (7, .int .i64 ns.length), (8, .int .i64 (j : Nat))] ∧ ss = [] ∧ (j ≤ ns.length ∧ (ns.take j).any (badPr n) = false)) ?_ ?_
  -- init 1
  · exact ⟨_, 0, rfl, eD, eD, eT⟩
  rintro mm ee ss kk ⟨j, rfl, rfl, rfl, hI⟩
  generalize hQl1 : thenQ _ _ = Ql1
  obtain ⟨hj, hall⟩ := hI
  -- region 2
  refine AW.sg [0,1,7,8,9] [] trivial ?_
  refine AW.seq fun K2 hK2 => ?_
  -- cond 1
  refine AW.cn ?_ ?_
  · intro hb
    obtain ⟨x, hx⟩ := getI (l := ns) (j := j) (by omega)
    have hgx := getV (f := pairV) hx
    have hats := any_take_succ (p := badPr n) hx
    have hbx := hbp x
    unfold pairV at hbx
    refine AW.skip ?_
    refine hK2 _ _ _ ?_; clear hK2
    refine AW.seq fun K3 hK3 => ?_
    refine AW.block ?_
    -- region 3
    refine AW.sg [0,1,5,7,8] [] trivial ?_
    -- region 4
    refine AW.so 0 (fun ii => if ii = 5 then some (.reads false (.bool (badPr n x))) else none) [0,1,5,7,8,16] [] (e2 @hgx @pairV.eq_1) ?_
    repeat with_reducible refine cj ?_ ?_
    all_goals try first | (exact hbx) | omega | exact ent (by kernel_rfl)
    -- cond 2
    refine AW.cn ?_ ?_
    · intro hb
      -- region 5
      refine AW.sg [4] [] trivial ?_
      -- ret 1
      rw [← hQl1, ← hQr]
      refine AW.rt trivial ?_
      exact Wk.of_eq (by rw [ixf_at hx hb hall])
    · intro hb
      refine AW.skip ?_
      refine hK3 _ _ _ ?_; clear hK3
      -- region 6
      refine AW.rg [0,1,7,8] [] trivial ?_
      -- again 1
      rw [← hQl1]; change Exists _
      exact ⟨_, eO, j + 1, rfl, eD, eD, (⟨by omega, by rw [hats, hall, hb]; rfl⟩)⟩
  · intro hb
    -- exit 0
    refine AW.kx [] [] ?_
    rw [← hQl1]
    refine hK1 _ _ _ ?_; clear hK1
    -- region 7
    refine AW.sg [4] [] trivial ?_
    -- ret 2
    rw [← hQr]
    refine AW.rt trivial ?_
    exact Wk.of_eq (by rw [List.take_of_length_le (by omega)] at hall; rw [ixf_none hall])
theorem ctpr_r (n : Int) (ns : List (Int × Int)) (hl2 : ns.length ≤ 9223372036854775807) : Reads Try.prog 44 false [.rsl 2 (ns.map pairV), .fn 45 [.rptr [.fn 43 [.rptr [.int .i64 n]]]]] (.bool (ns.any (badPr n))) := by
  have h := ixpr_r n ns hl2
  have hge := ixf_ge (badPr n) ns
  refine Reads.body (rs := [.tmp 4]) Try.func44 rfl Try.ntmps44 rfl (by simp) ?_
  generalize hQr : retQ _ _ _ = Qr
  -- block 4
  -- region 0
  refine AW.sg [0,1] [] trivial ?_
  -- region 1
  refine AW.so 0 (fun ii => if ii = 2 then some (.reads false (.int .i64 (ixf (badPr n) ns))) else none) [4] [] trivial ?_
  repeat with_reducible refine cj ?_ ?_
  all_goals try first | (exact h) | omega | exact ent (by kernel_rfl)
  -- ret 1
  rw [← hQr]
  refine AW.rt trivial ?_
  exact Wk.of_eq (by rw [hge])
theorem make_g (n : Nat) (ns : List (Int × Int)) (hl2 : ns.length ≤ 9223372036854775807) (hn : n ≤ 512) (hin : ∀ p ∈ ns, inP n p) : Reads Try.prog 11 false [.int .i64 n, .rsl 2 (ns.map pairV)] (.tup [relB (putL (zeroT n) ns), .int .i64 ((0 : Nat) : Int)]) := by
  have h := Reads.flat (ctpr_r n ns hl2) rfl
  have hnb : ns.any (badPr n) = false := by
    rw [List.any_eq_false]; intro p hp
    have := hin p hp
    unfold inP at this
    simp [badPr]; omega
  rw [hnb] at h
  have hemp := empty_u n hn
  have hsq := fun j => Sq.putL (n := n) (ns.take j) (Sq.rep n) (fun p hp => hin p (List.mem_of_mem_take hp))
  unfold relB
  refine Reads.body (rs := [.cell 4 24, .tmp 5]) Try.func11 rfl Try.ntmps11 rfl (by simp) ?_
  generalize hQr : retQ _ _ _ = Qr
  -- block 6
  -- region 0
  refine AW.sg [1,2,4] [2,4] (@renC_tabO) ?_
  -- region 1
  refine AW.sg [1,2,4,6] [2,4,6] (@renC_tabO) ?_
  refine AW.seq fun K1 hK1 => ?_
  -- region 2
  refine AW.so 0 (fun ii => if ii = 9 then some (.reads true (.bool false)) else none) [1,2,4,21] [2,4] (@renC_tabO) ?_
  repeat with_reducible refine cj ?_ ?_
  all_goals try first | ((intro hh; exact ⟨hh, h⟩)) | (intros; (repeat' apply And.intro) <;> first | assumption | ((intro hh; exact ⟨hh, h⟩))) | omega | exact ent (by kernel_rfl) | (intro hgd; exact absurd hgd (by decide)) | rfl | (simp only [go_sem, reduceIte, reduceCtorEq, Nat.reduceAdd, Nat.reduceMul, Nat.reduceEqDiff, Nat.reduceLT, Nat.reduceLeDiff, Nat.reduceSub, Nat.reducePow, Nat.reduceBEq, Int.reduceToNat, List.reduceReplicate, renC_tabO]; done) | (intro _hgd; simp_all [go_sem]; done)
  -- cond 1
  refine AW.cn ?_ ?_
  · intro hb
    exfalso; first | omega | (simp at hb; omega)
  · intro hb
    refine AW.skip ?_
    refine hK1 _ _ _ ?_; clear hK1
    -- region 4
    refine AW.so 0 (fun ii => if ii = 1 then some (.upd [] (fun k => [(0, some ⟨k, k, 2, tabO (List.replicate n (List.replicate n false))⟩)]) (fun k => .agg [.sl ⟨0, k, none⟩ 0 n none])) else none) [1,4,7] [4,7,24] (@renC_tabO) ?_
    repeat with_reducible refine cj ?_ ?_
    all_goals try first | (exact hemp) | omega | exact ent (by kernel_rfl)
    refine AW.seq fun K2 hK2 => ?_
    -- region 5
    refine AW.sg [4,7,25,26,27] [4,7,24] (@renC_tabO) ?_
    refine AW.block ?_
    -- loop 1
    refine AW.loopE (fun mm ee ss kk => ∃ (j g4 v4 g7 v7 g v : Nat), ns.length - j = mm ∧ ee = [(4, .ptr ⟨4, g4, none⟩ 0 0), (7, .ptr ⟨7, g7, none⟩ 0 0), (25, .rsl 2 (ns.map pairV)), (26, .int .i64 ns.length), (27, .int .i64 (j : Nat))] ∧ ss = [(4, some ⟨g4, v4, 1, [[.nilsl]]⟩), (7, some ⟨g7, v7, 1, [[.sl ⟨24, g, none⟩ 0 n none]]⟩), (24, some ⟨g, v, 2, tabO (putL (zeroT n) (ns.take j))⟩)] ∧ (j ≤ ns.length)) ?_ ?_
    -- init 1
    · exact ⟨_, 0, _, _, _, _, _, _, rfl, eD, eD, eT⟩
    rintro mm ee ss kk ⟨j, g4, v4, g7, v7, g, v, rfl, rfl, rfl, hI⟩
    generalize hQl1 : thenQ _ _ = Ql1
    -- region 6
    refine AW.sg [4,7,25,26,27,28] [4,7,24] (@renC_tabO) ?_
    refine AW.seq fun K3 hK3 => ?_
    -- cond 2
    refine AW.cn ?_ ?_
    · intro hb
      obtain ⟨p, hp⟩ := getI (l := ns) (j := j) (by omega)
      have hgp := getV (f := pairV) hp
      have hip := hin p (List.mem_of_getElem? hp)
      have hpt := putL_take (u := zeroT n) hp
      have hsu := hsq j
      change Sq n (putL (zeroT n) _) at hsu
      unfold inP at hip
      generalize putL (zeroT n) (ns.take j) = U at *
      have hpu := fun g v => put_u n U hsu hn p.1.toNat p.2.toNat (by omega) (by omega) g v none
      rw [Int.toNat_of_nonneg hip.1, Int.toNat_of_nonneg hip.2.2.1] at hpu
      unfold putT at hpt
      refine AW.skip ?_
      refine hK3 _ _ _ ?_; clear hK3
      refine AW.seq fun K4 hK4 => ?_
      refine AW.block ?_
      -- region 7
      refine AW.sg [4,7,9,25,26,27] [4,7,9,24] (e3 @renC_tabO @hgp @pairV.eq_1) ?_
      -- region 8
      refine AW.ro 0 (fun ii => if ii = 5 then some (.upd [24] (fun kk => [(0, some ⟨g, kk, 2, tabO (U.set p.1.toNat ((rowT U p.1.toNat).set p.2.toNat true))⟩)]) (fun _ => .tup [])) else none) [4,7,25,26,27] [4,7,24] (@renC_tabO) ?_
      repeat with_reducible refine cj ?_ ?_
      all_goals try first | (exact hpu _ _) | omega | exact ent (by kernel_rfl)
      refine hK4 _ _ _ ?_; clear hK4
      -- region 9
      refine AW.rg [4,7,25,26,27] [4,7,24] (@renC_tabO) ?_
      -- again 1
      rw [← hQl1]; change Exists _
      refine ⟨_, ?hm, j + 1, ?_, ?_, ?_, ?_, ?_, ?_, rfl, ?henv, ?hstore, ?hst⟩
      case henv =>
        repeat' (first | rfl | refine env_cons ?_ ?_ | refine st_cons ?_ ?_ ?_ ?_ | refine int_eq ?_ | refine bool_eq ?_ | refine rsl_eq ?_ | refine osl_eq ?_ | refine sl_eq ?_ ?_ ?_ | refine ptr_eq ?_ ?_ ?_ | refine agg_eq ?_ | refine es_cons ?_ ?_ | refine row_cons ?_ ?_)
        all_goals (first | (simp; done) | omega | (simp; omega))
      case hstore =>
        repeat' (first | rfl | refine env_cons ?_ ?_ | refine st_cons ?_ ?_ ?_ ?_ | refine int_eq ?_ | refine bool_eq ?_ | refine rsl_eq ?_ | refine osl_eq ?_ | refine sl_eq ?_ ?_ ?_ | refine ptr_eq ?_ ?_ ?_ | refine agg_eq ?_ | refine es_cons ?_ ?_ | refine row_cons ?_ ?_)
        all_goals (rw [hpt])
      case hst =>
        first | trivial | omega | (simp; done) | (simp; omega)
      case hm => omega
    · intro hb
      -- exit 0
      refine AW.kx [4,7] [4,7,24] ?_
      rw [← hQl1]
      refine hK2 _ _ _ ?_; clear hK2
      -- region 10
      refine AW.sg [4,5] [4,24] (@renC_tabO) ?_
      -- ret 2
      rw [← hQr]
      refine AW.rt (@renC_tabO) ?_
      have hj2 : j = ns.length := by omega
      subst hj2
      have hfl : ns.take ns.length = ns := List.take_of_length_le (Nat.le_refl _)
      have hsz := hsq ns.length
      rw [hfl] at *
      refine Wk.of_eq ?_
      rw [List.take_of_length_le (by rw [tabO_len]; exact Nat.le_of_eq hsz.len), vwc_tabO]
      rfl
end Go.Proofs.R

/- More on tables: what the reference computes. -/
namespace Go.AM
theorem setW_inj {a b : List Bool} (hl : a.length = b.length) (h : setW a a.length = setW b b.length) : a = b := by
  refine getD_extB hl fun k hk => ?_
  rw [← hasW_row hk, h, hasW_row (by omega)]
theorem eqB_ne {α : Type} [DecidableEq α] {a b : List α} {j : Nat} {x y : α} (ha : a[j]? = some x) (hb : b[j]? = some y) (h : x ≠ y) : a ≠ b := by
  intro e; subst e; rw [ha] at hb; exact h (Option.some.inj hb)
theorem take_succ_eqA {α : Type} {a b : List α} {j : Nat} {x : α} (ha : a[j]? = some x) (hb : b[j]? = some x) (h : a.take j = b.take j) : a.take (j + 1) = b.take (j + 1) := by
  obtain ⟨h1, h2⟩ := List.getElem?_eq_some_iff.1 ha
  obtain ⟨h3, h4⟩ := List.getElem?_eq_some_iff.1 hb
  rw [List.take_succ_eq_append_getElem h1, List.take_succ_eq_append_getElem h3, h, h2, h4]
/-- The composition, row by row. -/
def compRow (a b : List (List Bool)) (n i m : Nat) : List Bool := iter (fun k r => if atT a i k then List.zipWith (· || ·) r (rowT b k) else r) m (List.replicate n false)
theorem compRow_succ (a b : List (List Bool)) (n i m : Nat) : compRow a b n i (m + 1) = if atT a i m then List.zipWith (· || ·) (compRow a b n i m) (rowT b m) else compRow a b n i m := rfl
theorem compRow_len {n : Nat} {a b : List (List Bool)} (hb : Sq n b) (i : Nat) : ∀ m, m ≤ n → (compRow a b n i m).length = n
  | 0, _ => by simp [compRow, iter]
  | m + 1, h => by
    have ih := compRow_len hb (a := a) i m (by omega)
    have := hb.rowLen (i := m) (by omega)
    rw [compRow_succ]; split
    · simp; omega
    · exact ih
theorem compI_row {n : Nat} {a b t : List (List Bool)} (ht : Sq n t) {i : Nat} (hi : i < n) (hz : rowT t i = List.replicate n false) : ∀ m, m ≤ n → (∀ q, q ≠ i → rowT (iter (compI a b i) m t) q = rowT t q) ∧ rowT (iter (compI a b i) m t) i = compRow a b n i m ∧ (iter (compI a b i) m t).length = n
  | 0, _ => ⟨fun _ _ => rfl, hz, ht.len⟩
  | m + 1, h => by
    obtain ⟨h1, h2, h3⟩ := compI_row ht hi hz (a := a) (b := b) m (by omega)
    rw [iter_succ, compI_eq, compRow_succ]
    split
    · unfold orRow
      refine ⟨fun q hq => ?_, ?_, by simp [h3]⟩
      · rw [rowT_set, if_neg (by rintro ⟨e, _⟩; exact hq e.symm), h1 q hq]
      · rw [rowT_set, if_pos ⟨rfl, by omega⟩, h2]
    · exact ⟨h1, h2, h3⟩
theorem comp_rows {n : Nat} {a b : List (List Bool)} (hb : Sq n b) : ∀ m, m ≤ n → ∀ q, q < n → rowT (iter (fun i t => iter (compI a b i) n t) m (zeroT n)) q = if q < m then compRow a b n q n else List.replicate n false
  | 0, _, q, hq => by
    rw [if_neg (by omega)]
    show rowT (zeroT n) q = _
    exact rowT_of (by simp [zeroT, hq])
  | m + 1, h, q, hq => by
    have ih := comp_rows hb (a := a) m (by omega)
    have hsq := Sq.comp' hb (a := a) (m := m) (by omega)
    have hz := ih m (by omega)
    rw [if_neg (by omega)] at hz
    obtain ⟨h1, h2, _⟩ := compI_row hsq (show m < n by omega) hz (a := a) (b := b) n (Nat.le_refl _)
    rw [iter_succ]
    by_cases e : q = m
    · subst e; rw [h2, if_pos (by omega)]
    · rw [h1 q e, ih q hq]
      by_cases e2 : q < m
      · rw [if_pos e2, if_pos (by omega)]
      · rw [if_neg e2, if_neg (by omega)]
theorem atT_compRow {n : Nat} {a b : List (List Bool)} (hb : Sq n b) (i j : Nat) (hj : j < n) : ∀ m, m ≤ n → ((compRow a b n i m).getD j false = true ↔ ∃ k, k < m ∧ atT a i k = true ∧ atT b k j = true)
  | 0, _ => by
    have : (compRow a b n i 0).getD j false = false := by
      show (List.replicate n false).getD j false = false
      rw [List.getD_eq_getElem?_getD, List.getElem?_replicate]; split <;> rfl
    rw [this]; simp
  | m + 1, h => by
    have ih := atT_compRow hb (a := a) i j hj m (by omega)
    have hl := compRow_len hb (a := a) i m (by omega)
    have hr := hb.rowLen (i := m) (by omega)
    rw [compRow_succ]
    by_cases hc : atT a i m = true
    · rw [if_pos hc, zipB_get _ (by omega) (by omega), Bool.or_eq_true, ih]
      constructor
      · rintro (⟨k, h1, h2, h3⟩ | h1)
        · exact ⟨k, by omega, h2, h3⟩
        · exact ⟨m, by omega, hc, h1⟩
      · rintro ⟨k, h1, h2, h3⟩
        by_cases e : k = m
        · subst e; exact .inr h3
        · exact .inl ⟨k, by omega, h2, h3⟩
    · rw [if_neg hc, ih]
      constructor
      · rintro ⟨k, h1, h2, h3⟩; exact ⟨k, by omega, h2, h3⟩
      · rintro ⟨k, h1, h2, h3⟩
        by_cases e : k = m
        · subst e; exact absurd h2 hc
        · exact ⟨k, by omega, h2, h3⟩
/-- The composition's pairs. -/
theorem atT_comp {n : Nat} {a b : List (List Bool)} (hb : Sq n b) {i j : Nat} (hi : i < n) (hj : j < n) : atT (compT n a b) i j = true ↔ ∃ k, k < n ∧ atT a i k = true ∧ atT b k j = true := by
  have : rowT (compT n a b) i = compRow a b n i n := by
    have := comp_rows hb (a := a) n (Nat.le_refl _) i hi
    rw [if_pos hi] at this; exact this
  unfold atT
  rw [this]
  exact atT_compRow hb i j hj n (Nat.le_refl _)
section
variable (s : Store) (d : Nat)
end
end Go.AM

namespace Go.Proofs.R
open Go.AM Go
set_option maxRecDepth 100000
set_option maxHeartbeats 1000000
end Go.Proofs.R

namespace Go.Proofs.R
open Go.AM Go
set_option maxRecDepth 100000
set_option maxHeartbeats 1000000
theorem same_r (n m : Nat) (a b : List (List Bool)) (ha : Sq n a) (hb0 : Sq m b) (hn : n ≤ 512) (hm : m ≤ 512) : Reads Try.prog 13 false [relB a, relB b] (.bool (decide (a = b))) := by
  have hla : (tabR a).length = n := by rw [tabR_len, ha.len]
  have hlb : (tabR b).length = m := by rw [tabR_len, hb0.len]
  have hal := ha.len
  have hbl := hb0.len
  have hwn := wordsN_rng (n := (n : Int)) (by omega)
  unfold relB
  refine Reads.body (rs := [.tmp 4]) Try.func13 rfl Try.ntmps13 rfl (by simp) ?_
  generalize hQr : retQ _ _ _ = Qr
  -- block 2
  -- region 0
  refine AW.sg [2,3] [2,3] (e2 @hla @hlb) ?_
  refine AW.seq fun K1 hK1 => ?_
  -- region 1
  refine AW.sg [2,3,15] [2,3] (e2 @hla @hlb) ?_
  -- cond 1
  refine AW.cn ?_ ?_
  · intro hb
    -- region 2
    refine AW.sg [4] [] (e2 @hla @hlb) ?_
    -- ret 1
    rw [← hQr]
    refine AW.rt (e2 @hla @hlb) ?_
    exact Wk.of_eq (by rw [decide_eq_false]; rintro rfl; omega)
  · intro hb
    have hnm : n = m := by omega
    subst hnm
    refine AW.skip ?_
    refine hK1 _ _ _ ?_; clear hK1
    refine AW.seq fun K2 hK2 => ?_
    -- region 3
    refine AW.sg [2,3,5] [2,3] (e2 @hla @hlb) ?_
    refine AW.block ?_
    -- loop 1
    refine AW.loopE (fun mm ee ss kk => ∃ (i g2 v2 g3 v3 : Nat), n - i = mm ∧ ee = [(2, .ptr ⟨2, g2, none⟩ 0 0), (3, .ptr ⟨3, g3, none⟩ 0 0), (5, .int .i64 (i : Nat))] ∧ ss = [(2, some ⟨g2, v2, 1, [[.rsl 2 (tabR a)]]⟩), (3, some ⟨g3, v3, 1, [[.rsl 2 (tabR b)]]⟩)] ∧ (i ≤ n ∧ a.take i = b.take i)) ?_ ?_
    -- init 1
    · exact ⟨_, 0, _, _, _, _, rfl, eD, eD, eT⟩
    rintro mm ee ss kk ⟨i, g2, v2, g3, v3, rfl, rfl, rfl, hI⟩
    generalize hQl1 : thenQ _ _ = Ql1
    obtain ⟨hi, hall⟩ := hI
    refine AW.seq fun K3 hK3 => ?_
    -- region 4
    refine AW.sg [2,3,5,20] [2,3] (e2 @hla @hlb) ?_
    -- cond 2
    refine AW.cn ?_ ?_
    · intro hb
      have hga := tabR_get (t := a) (i := i) (by omega)
      have hgb := tabR_get (t := b) (i := i) (by omega)
      have hra := ha.rowLen (i := i) (by omega)
      have hrb := hb0.rowLen (i := i) (by omega)
      have hxa := rowT_get (t := a) (i := i) (by omega)
      have hxb := rowT_get (t := b) (i := i) (by omega)
      generalize hx : rowT a i = x at *
      generalize hy : rowT b i = y at *
      have hwx := setW_len' x
      have hwy := setW_len' y
      have hij := fun h => setW_inj (a := x) (b := y) (by omega) h
      rw [hra] at hwx hij
      rw [hrb] at hwy hij
      generalize hX : setW x n = X at *
      generalize hY : setW y n = Y at *
      refine AW.skip ?_
      refine hK3 _ _ _ ?_; clear hK3
      refine AW.seq fun K4 hK4 => ?_
      refine AW.block ?_
      -- region 6
      refine AW.sg [2,3,5,6] [2,3,6] (e2 @hla (e5 @hlb @hga @rowB.eq_1 @hra @hX)) ?_
      -- region 7
      refine AW.sg [2,3,5,6,7] [2,3,6,7] (e2 @hla (e5 @hlb @hgb @rowB.eq_1 @hrb @hY)) ?_
      refine AW.seq fun K5 hK5 => ?_
      -- region 8
      refine AW.sg [2,3,5,6,7,46] [2,3,6,7] (e2 @hla @hlb) ?_
      repeat with_reducible refine cj ?_ ?_
      all_goals try first | omega | (intros; (repeat' apply And.intro) <;> first | assumption | omega | decide) | (intro hgd; exact absurd hgd (by decide)) | rfl | (simp only [go_sem, reduceIte, reduceCtorEq, Nat.reduceAdd, Nat.reduceMul, Nat.reduceEqDiff, Nat.reduceLT, Nat.reduceLeDiff, Nat.reduceSub, Nat.reducePow, Nat.reduceBEq, Int.reduceToNat, List.reduceReplicate, hla, hlb]; done) | (intro _hgd; simp_all [go_sem]; done)
      -- cond 3
      refine AW.cn ?_ ?_
      · intro hb
        exfalso; omega
      · intro hb
        refine AW.skip ?_
        refine hK5 _ _ _ ?_; clear hK5
        -- region 10
        refine AW.sg [2,3,5,6,7,8] [2,3,6,7] (e2 @hla @hlb) ?_
        refine AW.block ?_
        -- loop 2
        refine AW.loopE (fun mm ee ss kk => ∃ (k g2 v2 g3 v3 g6 v6 g7 v7 : Nat), X.length - k = mm ∧ ee = [(2, .ptr ⟨2, g2, none⟩ 0 0), (3, .ptr ⟨3, g3, none⟩ 0 0), (5, .int .i64 (i : Nat)), (6, .ptr ⟨6, g6, none⟩ 0 0), (7, .ptr ⟨7, g7, none⟩ 0 0), (8, .int .i64 (k : Nat))] ∧ ss = [(2, some ⟨g2, v2, 1, [[.rsl 2 (tabR a)]]⟩), (3, some ⟨g3, v3, 1, [[.rsl 2 (tabR b)]]⟩), (6, some ⟨g6, v6, 2, [[.int .i64 n, .rsl 1 (words X)]]⟩), (7, some ⟨g7, v7, 2, [[.int .i64 n, .rsl 1 (words Y)]]⟩)] ∧ (k ≤ X.length ∧ X.take k = Y.take k)) ?_ ?_
        -- init 2
        · exact ⟨_, 0, _, _, _, _, _, _, _, _, rfl, eD, eD, (⟨Nat.zero_le _, rfl⟩)⟩
        rintro mm ee ss kk ⟨k, g2, v2, g3, v3, g6, v6, g7, v7, rfl, rfl, rfl, hI⟩
        generalize hQl2 : thenQ _ _ = Ql2
        obtain ⟨hk, hall2⟩ := hI
        refine AW.seq fun K6 hK6 => ?_
        -- region 11
        refine AW.sg [2,3,5,6,7,8,51] [2,3,6,7] (e2 @hla @hlb) ?_
        -- cond 4
        refine AW.cn ?_ ?_
        · intro hb
          obtain ⟨u, hu⟩ := getI (l := X) (j := k) (by omega)
          obtain ⟨w, hw⟩ := getI (l := Y) (j := k) (by omega)
          have hgu := words_get hu
          have hgw := words_get hw
          refine AW.skip ?_
          refine hK6 _ _ _ ?_; clear hK6
          refine AW.seq fun K7 hK7 => ?_
          refine AW.block ?_
          -- region 13
          refine AW.sd mixed 0 (fun _ => none) [2,3,5,6,7,8,64] [2,3,6,7] (e4 @hla @hlb @hgu @hgw) ?_
          -- cond 5
          refine AW.cn ?_ ?_
          · intro hb
            -- region 14
            refine AW.sg [4] [] (e2 @hla @hlb) ?_
            -- ret 3
            rw [← hQl2, ← hQl1, ← hQr]
            refine AW.rt (e2 @hla @hlb) ?_
            have huw : u ≠ w := hb
            have hne : x ≠ y := by
              rintro rfl
              have hXY : X = Y := by rw [← hX, ← hY]
              subst hXY
              rw [hu] at hw
              exact huw (Option.some.inj hw)
            exact Wk.of_eq (by rw [decide_eq_false (eqB_ne hxa hxb hne)])
          · intro hb
            have huw : u = w := by omega
            subst huw
            refine AW.skip ?_
            refine hK7 _ _ _ ?_; clear hK7
            -- region 12
            refine AW.rg [2,3,5,6,7,8] [2,3,6,7] (e2 @hla @hlb) ?_
            -- again 2
            rw [← hQl2]; change Exists _
            exact ⟨_, eO, k + 1, _, _, _, _, _, _, _, _, rfl, eD, eD, (⟨by omega, take_succ_eq hu hw hall2⟩)⟩
        · intro hb
          have hXY : X = Y := by rw [List.take_of_length_le (by omega), List.take_of_length_le (by omega)] at hall2; exact hall2
          have hxy : x = y := hij hXY
          subst hxy
          -- exit 2
          refine AW.kx [2,3,5] [2,3] ?_
          rw [← hQl2]
          refine hK4 _ _ _ ?_; clear hK4
          -- region 5
          refine AW.rg [2,3,5] [2,3] (e2 @hla @hlb) ?_
          -- again 1
          rw [← hQl1]; change Exists _
          exact ⟨_, eO, i + 1, _, _, _, _, rfl, eD, eD, (⟨by omega, take_succ_eqA hxa hxb hall⟩)⟩
    · intro hb
      -- exit 0
      refine AW.kx [] [] ?_
      rw [← hQl1]
      refine hK2 _ _ _ ?_; clear hK2
      -- region 15
      refine AW.sg [4] [] (e2 @hla @hlb) ?_
      -- ret 4
      rw [← hQr]
      refine AW.rt (e2 @hla @hlb) ?_
      exact Wk.of_eq (by rw [List.take_of_length_le (by omega), List.take_of_length_le (by omega)] at hall; rw [decide_eq_true hall])
end Go.Proofs.R

namespace Go.Proofs.R
open Go.AM Go
set_option maxRecDepth 100000
set_option maxHeartbeats 1000000
theorem eqpairs_r (a b : List (Int × Int)) (hla : a.length ≤ 9223372036854775807) : Reads Try.prog 17 false [.rsl 2 (a.map pairV), .rsl 2 (b.map pairV)] (.bool (decide (a = b))) := by
  refine Reads.body (rs := [.tmp 4]) Try.func17 rfl Try.ntmps17 rfl (by simp) ?_
  generalize hQr : retQ _ _ _ = Qr
  -- block 1
  -- region 0
  refine AW.sg [0,1] [] trivial ?_
  refine AW.seq fun K1 hK1 => ?_
  -- region 1
  refine AW.sg [0,1,10] [] trivial ?_
  -- cond 1
  refine AW.cn ?_ ?_
  · intro hb
    rw [← Ne, Ne, Int.natCast_inj] at hb
    -- region 2
    refine AW.sg [4] [] trivial ?_
    -- ret 1
    rw [← hQr]
    refine AW.rt trivial ?_
    exact Wk.of_eq (by rw [decide_eq_false]; rintro rfl; exact hb rfl)
  · intro hb
    have hlen : a.length = b.length := by omega
    refine AW.skip ?_
    refine hK1 _ _ _ ?_; clear hK1
    refine AW.seq fun K2 hK2 => ?_
    -- region 3
    refine AW.sg [0,1,12,13] [] trivial ?_
    refine AW.block ?_
    -- loop 1
    refine AW.loopE (fun mm ee ss kk => ∃ (j : Nat), a.length - j = mm ∧ ee = [(0, .rsl 2 (a.map pairV)), (1, .rsl 2 (b.map pairV)), (12, .int .i64 a.length), (13, .int .i64 (j : Nat))] ∧ ss = [] ∧ (j ≤ a.length ∧ a.take j = b.take j)) ?_ ?_
    -- init 1
    · exact ⟨_, 0, rfl, eD, eD, eT⟩
    rintro mm ee ss kk ⟨j, rfl, rfl, rfl, hI⟩
    generalize hQl1 : thenQ _ _ = Ql1
    obtain ⟨hj, hall⟩ := hI
    -- region 4
    refine AW.sg [0,1,12,13,14] [] trivial ?_
    refine AW.seq fun K3 hK3 => ?_
    -- cond 2
    refine AW.cn ?_ ?_
    · intro hb
      obtain ⟨x, hx⟩ := getI (l := a) (j := j) (by omega)
      obtain ⟨y, hy⟩ := getI (l := b) (j := j) (by omega)
      have hgx := getV (f := pairV) hx
      have hgy := getV (f := pairV) hy
      refine AW.skip ?_
      refine hK3 _ _ _ ?_; clear hK3
      refine AW.seq fun K4 hK4 => ?_
      refine AW.block ?_
      -- region 5
      refine AW.sg [0,1,5,12,13] [] trivial ?_
      -- region 6
      refine AW.sd mixed 0 (fun _ => none) [0,1,12,13,24] [] (e3 @hgx @hgy @pairV.eq_1) ?_
      -- cond 3
      refine AW.cn ?_ ?_
      · intro hb
        -- region 7
        refine AW.sg [4] [] trivial ?_
        -- ret 2
        rw [← hQl1, ← hQr]
        refine AW.rt trivial ?_
        have hne : x ≠ y := by rintro rfl; simp at hb
        exact Wk.of_eq (by rw [decide_eq_false (eqB_ne hx hy hne)])
      · intro hb
        have hxy : x = y := by obtain ⟨x1, x2⟩ := x; obtain ⟨y1, y2⟩ := y; simp at hb ⊢; omega
        subst hxy
        refine AW.skip ?_
        refine hK4 _ _ _ ?_; clear hK4
        -- region 8
        refine AW.rg [0,1,12,13] [] trivial ?_
        -- again 1
        rw [← hQl1]; change Exists _
        exact ⟨_, eO, j + 1, rfl, eD, eD, (⟨by omega, take_succ_eqA hx hy hall⟩)⟩
    · intro hb
      -- exit 0
      refine AW.kx [] [] ?_
      rw [← hQl1]
      refine hK2 _ _ _ ?_; clear hK2
      -- region 9
      refine AW.sg [4] [] trivial ?_
      -- ret 3
      rw [← hQr]
      refine AW.rt trivial ?_
      exact Wk.of_eq (by rw [List.take_of_length_le (by omega), List.take_of_length_le (by omega)] at hall; rw [decide_eq_true hall])
theorem eqi_r (a b : List Int) (hla : a.length ≤ 9223372036854775807) : Reads Try.prog 33 false [.rsl 1 (ints a), .rsl 1 (ints b)] (.bool (a == b)) := by
  refine Reads.body (rs := [.tmp 4]) Try.func33 rfl Try.ntmps33 rfl (by simp) ?_
  generalize hQr : retQ _ _ _ = Qr
  -- block 2
  -- region 0
  refine AW.sg [0,1] [] trivial ?_
  refine AW.seq fun K1 hK1 => ?_
  -- region 1
  refine AW.sg [0,1,10] [] trivial ?_
  -- cond 1
  refine AW.cn ?_ ?_
  · intro hb
    rw [← Ne, Ne, Int.natCast_inj] at hb
    -- region 2
    refine AW.sg [4] [] trivial ?_
    -- ret 1
    rw [← hQr]
    refine AW.rt trivial ?_
    exact Wk.of_eq (by rw [eqL_len hb])
  · intro hb
    have hlen : a.length = b.length := by omega
    refine AW.skip ?_
    refine hK1 _ _ _ ?_; clear hK1
    refine AW.seq fun K2 hK2 => ?_
    -- region 3
    refine AW.sg [0,1,12,13] [] trivial ?_
    refine AW.block ?_
    -- loop 1
    refine AW.loopE (fun mm ee ss kk => ∃ (j : Nat), a.length - j = mm ∧ ee = [(0, .rsl 1 (ints a)), (1, .rsl 1 (ints b)), (12, .int .i64 a.length), (13, .int .i64 (j : Nat))] ∧ ss = [] ∧ (j ≤ a.length ∧ a.take j = b.take j)) ?_ ?_
    -- init 1
    · exact ⟨_, 0, rfl, eD, eD, eT⟩
    rintro mm ee ss kk ⟨j, rfl, rfl, rfl, hI⟩
    generalize hQl1 : thenQ _ _ = Ql1
    obtain ⟨hj, hall⟩ := hI
    -- region 4
    refine AW.sg [0,1,12,13,14] [] trivial ?_
    refine AW.seq fun K3 hK3 => ?_
    -- cond 2
    refine AW.cn ?_ ?_
    · intro hb
      obtain ⟨x, hx⟩ := getI (l := a) (j := j) (by omega)
      obtain ⟨y, hy⟩ := getI (l := b) (j := j) (by omega)
      have hgx := ints_get hx
      have hgy := ints_get hy
      refine AW.skip ?_
      refine hK3 _ _ _ ?_; clear hK3
      refine AW.seq fun K4 hK4 => ?_
      refine AW.block ?_
      -- region 5
      refine AW.sg [0,1,5,12,13] [] trivial ?_
      -- region 6
      refine AW.sd mixed 0 (fun _ => none) [0,1,12,13,24] [] (e2 @hgx @hgy) ?_
      -- cond 3
      refine AW.cn ?_ ?_
      · intro hb
        -- region 7
        refine AW.sg [4] [] trivial ?_
        -- ret 2
        rw [← hQl1, ← hQr]
        refine AW.rt trivial ?_
        exact Wk.of_eq (by rw [eqL_ne hx hy hb])
      · intro hb
        have hxy : x = y := by omega
        subst hxy
        refine AW.skip ?_
        refine hK4 _ _ _ ?_; clear hK4
        -- region 8
        refine AW.rg [0,1,12,13] [] trivial ?_
        -- again 1
        rw [← hQl1]; change Exists _
        exact ⟨_, eO, j + 1, rfl, eD, eD, (⟨by omega, take_succ_eq hx hy hall⟩)⟩
    · intro hb
      -- exit 0
      refine AW.kx [] [] ?_
      rw [← hQl1]
      refine hK2 _ _ _ ?_; clear hK2
      -- region 9
      refine AW.sg [4] [] trivial ?_
      -- ret 3
      rw [← hQr]
      refine AW.rt trivial ?_
      exact Wk.of_eq (by rw [List.take_of_length_le (by omega), List.take_of_length_le (by omega)] at hall; rw [hall]; simp)
theorem wrap_small {z : Int} (h0 : 0 ≤ z) (h1 : z < 18446744073709551616) : IntKind.u64.wrap z = z := by simp [IntKind.wrap, IntKind.signed, IntKind.bits]; omega
theorem mask32 {n : Nat} (h : n < 4294967296) : bAnd .u64 (n : Int) 4294967295 = n := by
  rw [show (4294967295 : Int) = ((4294967295 : Nat) : Int) from rfl, bAnd_nat (by omega) (by decide)]
  have := Nat.and_two_pow_sub_one_eq_mod n 32
  simp only [Nat.reducePow, Nat.reduceSub] at this
  rw [this, Nat.mod_eq_of_lt h]
theorem shr32 {n : Nat} (h : n < 4294967296) : bShr .u64 (n : Int) 32 = 0 := by
  rw [show (32 : Int) = ((32 : Nat) : Int) from rfl, bShr_nat (by decide), Nat.shiftRight_eq_div_pow, Nat.div_eq_of_lt (by simpa using h)]; rfl
theorem mul64_r (n : Nat) (hn : n < 4294967296) : Reads Try.prog 66 false [.int .u64 1, .int .u64 n] (.tup [.int .u64 0, .int .u64 n]) := by
  have h1 : bAnd .u64 1 4294967295 = 1 := mask32 (n := 1) (by decide)
  have h2 : bShr .u64 1 32 = 0 := shr32 (n := 1) (by decide)
  have h3 := mask32 hn
  have h4 := shr32 hn
  have h5 : bAnd .u64 0 4294967295 = 0 := mask32 (n := 0) (by decide)
  have h6 : bShr .u64 0 32 = 0 := shr32 (n := 0) (by decide)
  have h7 : IntKind.u64.wrap (n : Int) = n := wrap_small (by omega) (by omega)
  have h8 : IntKind.u64.wrap 0 = 0 := rfl
  refine Reads.body (rs := [.tmp 4, .tmp 5]) Try.func66 rfl Try.ntmps66 rfl (by simp) ?_
  generalize hQr : retQ _ _ _ = Qr
  -- block 3
  -- region 0
  refine AW.sg [0,1] [] (e4 @h1 @h2 @h3 (e5 @h4 @h5 @h6 @h7 (e5 @h8 @Int.one_mul @Int.zero_mul @Int.mul_zero @Int.add_zero))) ?_
  -- region 1
  refine AW.sg [0,1,6] [] (e4 @h1 @h2 @h3 (e5 @h4 @h5 @h6 @h7 (e5 @h8 @Int.one_mul @Int.zero_mul @Int.mul_zero @Int.add_zero))) ?_
  -- region 2
  refine AW.sg [0,1,6,7] [] (e4 @h1 @h2 @h3 (e5 @h4 @h5 @h6 @h7 (e5 @h8 @Int.one_mul @Int.zero_mul @Int.mul_zero @Int.add_zero))) ?_
  -- region 3
  refine AW.sg [0,1,6,7,8] [] (e4 @h1 @h2 @h3 (e5 @h4 @h5 @h6 @h7 (e5 @h8 @Int.one_mul @Int.zero_mul @Int.mul_zero @Int.add_zero))) ?_
  -- region 4
  refine AW.sg [0,1,6,7,8,9] [] (e4 @h1 @h2 @h3 (e5 @h4 @h5 @h6 @h7 (e5 @h8 @Int.one_mul @Int.zero_mul @Int.mul_zero @Int.add_zero))) ?_
  -- region 5
  refine AW.sg [0,1,6,7,8,9,10] [] (e4 @h1 @h2 @h3 (e5 @h4 @h5 @h6 @h7 (e5 @h8 @Int.one_mul @Int.zero_mul @Int.mul_zero @Int.add_zero))) ?_
  -- region 6
  refine AW.sg [0,1,6,7,9,11] [] (e4 @h1 @h2 @h3 (e5 @h4 @h5 @h6 @h7 (e5 @h8 @Int.one_mul @Int.zero_mul @Int.mul_zero @Int.add_zero))) ?_
  -- region 7
  refine AW.sg [0,1,6,7,9,11,12] [] (e4 @h1 @h2 @h3 (e5 @h4 @h5 @h6 @h7 (e5 @h8 @Int.one_mul @Int.zero_mul @Int.mul_zero @Int.add_zero))) ?_
  -- region 8
  refine AW.sg [0,1,6,7,9,12,13] [] (e4 @h1 @h2 @h3 (e5 @h4 @h5 @h6 @h7 (e5 @h8 @Int.one_mul @Int.zero_mul @Int.mul_zero @Int.add_zero))) ?_
  -- region 9
  refine AW.sg [0,1,7,9,12,13] [] (e4 @h1 @h2 @h3 (e5 @h4 @h5 @h6 @h7 (e5 @h8 @Int.one_mul @Int.zero_mul @Int.mul_zero @Int.add_zero))) ?_
  -- region 10
  refine AW.sg [0,1,4] [] (e4 @h1 @h2 @h3 (e5 @h4 @h5 @h6 @h7 (e5 @h8 @Int.one_mul @Int.zero_mul @Int.mul_zero @Int.add_zero))) ?_
  -- region 11
  refine AW.sg [4,5] [] (e4 @h1 @h2 @h3 (e5 @h4 @h5 @h6 @h7 (e5 @h8 @Int.one_mul @Int.zero_mul @Int.mul_zero @Int.add_zero))) ?_
  -- ret 1
  rw [← hQr]
  refine AW.rt (e4 @h1 @h2 @h3 (e5 @h4 @h5 @h6 @h7 (e5 @h8 @Int.one_mul @Int.zero_mul @Int.mul_zero @Int.add_zero))) ?_
  exact Wk.refl _
theorem mul_r (n : Nat) (hn : n < 4294967296) : Reads Try.prog 64 false [.int .u64 1, .int .u64 n] (.tup [.int .u64 0, .int .u64 n]) := by
  have h := mul64_r n hn
  refine Reads.body (rs := [.tmp 4, .tmp 5]) Try.func64 rfl Try.ntmps64 rfl (by simp) ?_
  generalize hQr : retQ _ _ _ = Qr
  -- block 4
  -- region 0
  refine AW.sg [0,1] [] trivial ?_
  refine AW.seq fun K1 hK1 => ?_
  -- cond 1
  refine AW.cn ?_ ?_
  · intro hb
    simp at hb
  · intro hb
    refine AW.skip ?_
    refine hK1 _ _ _ ?_; clear hK1
    -- region 3
    refine AW.so 0 (fun ii => if ii = 2 then some (.reads false (.tup [.int .u64 0, .int .u64 n])) else none) [8,9] [] trivial ?_
    repeat with_reducible refine cj ?_ ?_
    all_goals try first | (exact h) | omega | exact ent (by kernel_rfl)
    -- region 4
    refine AW.sg [4,5] [] trivial ?_
    -- ret 2
    rw [← hQr]
    refine AW.rt trivial ?_
    exact Wk.refl _
def repC (a : Int) (n c : Nat) : List Int := List.replicate c a ++ List.replicate (n - c) 0
theorem repC_take (a : Int) {n c : Nat} (h : c ≤ n) : (repC a n c).take c = List.replicate c a := by
  unfold repC; rw [List.take_append_of_le_length (by simp)]; simp
theorem repC_step (a : Int) {n c : Nat} (h : c ≤ n) : ints ((repC a n c).take c) ++ ints (((repC a n c).take c).take (min ((repC a n c).take c).length (n - c))) ++ (ints (repC a n c)).drop (c + min ((repC a n c).take c).length (n - c)) = ints (repC a n (c + min (n - c) c)) := by
  rw [repC_take a h, List.length_replicate, List.take_replicate, ints_drop]
  have e : min (min c (n - c)) c = min (n - c) c := by omega
  have e2 : min c (n - c) = min (n - c) c := by omega
  rw [e, e2]
  generalize hm : min (n - c) c = m
  have hd : (repC a n c).drop (c + m) = List.replicate (n - (c + m)) 0 := by
    unfold repC
    rw [List.drop_append, List.length_replicate, List.drop_of_length_le (by simp), List.drop_replicate, show c + m - c = m by omega, show n - c - m = n - (c + m) by omega]; simp
  rw [hd]
  unfold repC
  simp only [ints, List.map_append, ← List.replicate_append_replicate, List.append_assoc]
theorem repeat_u (a : Int) (n : Nat) (hn : n ≤ 100000) : Upd Try.prog 57 [] [.rsl 1 (ints [a]), .int .i64 n] (fun k => .sl ⟨0, k, none⟩ 0 n none) (fun k => [(0, some ⟨k, k, 1, ints (List.replicate n a)⟩)]) := by
  have hm := mul_r n (by omega)
  have hw := wrap_small (z := (n : Int)) (by omega) (by omega)
  have hw1 : IntKind.u64.wrap 1 = 1 := rfl
  have hw2 : IntKind.i64.wrap (n : Int) = n := by simp [IntKind.wrap, IntKind.signed, IntKind.bits]; omega
  have hl1 : (ints [a]).length = 1 := rfl
  have hz : List.replicate n [AV.int .i64 0] = ints (List.replicate n 0) := by simp [ints]
  refine Upd.of_body (rs := [.tmp 4]) Try.func57 rfl Try.ntmps57 rfl (by simp) ?_
  intro k0 k hk0 hk1
  generalize hQr : retQ _ _ _ = Qr
  -- block 6
  -- region 0
  refine AW.so 100 (fun _ => none) [0,1] [] (e4 @hw @hw1 @hw2 @hl1) ?_
  refine AW.seq fun K1 hK1 => ?_
  -- region 1
  refine AW.so 100 (fun _ => none) [0,1,10] [] (e4 @hw @hw1 @hw2 @hl1) ?_
  -- cond 1
  refine AW.cn ?_ ?_
  · intro hb
    exfalso; omega
  · intro hb
    refine AW.skip ?_
    refine hK1 _ _ _ ?_; clear hK1
    -- region 3
    refine AW.so 100 (fun ii => if ii = 5 then some (.reads false (.tup [.int .u64 0, .int .u64 n])) else none) [0,5,6] [] (e4 @hw @hw1 @hw2 @hl1) ?_
    repeat with_reducible refine cj ?_ ?_
    all_goals try first | (exact hm) | omega | exact ent (by kernel_rfl)
    refine AW.seq fun K2 hK2 => ?_
    -- region 4
    refine AW.so 100 (fun _ => none) [0,6,26] [] (e4 @hw @hw1 @hw2 @hl1) ?_
    repeat with_reducible refine cj ?_ ?_
    all_goals try first | omega | (intros; (repeat' apply And.intro) <;> first | assumption | omega | decide) | (intro hgd; exact absurd hgd (by decide)) | rfl | (simp only [go_sem, reduceIte, reduceCtorEq, Nat.reduceAdd, Nat.reduceMul, Nat.reduceEqDiff, Nat.reduceLT, Nat.reduceLeDiff, Nat.reduceSub, Nat.reducePow, Nat.reduceBEq, Int.reduceToNat, List.reduceReplicate, hw, hw1, hw2, hl1]; done) | (intro _hgd; simp_all [go_sem]; done)
    -- cond 2
    refine AW.cn ?_ ?_
    · intro hb
      exfalso; rcases hb with hb | hb <;> omega
    · intro hb
      refine AW.skip ?_
      refine hK2 _ _ _ ?_; clear hK2
      -- region 6
      refine AW.so 100 (fun _ => none) [0,7] [130] (e4 @hw @hw1 @hw2 @hl1) ?_
      -- region 7
      refine AW.so 100 (fun _ => none) [7,8] [130] (e4 @hw @hw1 @hw2 @hl1) ?_
      refine AW.seq fun K3 hK3 => ?_
      refine AW.block ?_
      -- loop 1
      refine AW.loopE (fun mm ee ss kk => ∃ (c g v : Nat), n - c = mm ∧ ee = [(7, .sl ⟨130, g, none⟩ 0 n none), (8, .int .i64 (c : Nat))] ∧ ss = [(130, some ⟨g, v, 1, ints (repC a n c)⟩)] ∧ (c ≤ n ∧ (c = 0 → n = 0))) ?_ ?_
      -- init 1
      · refine ⟨_, min 1 n, ?_, ?_, rfl, ?henv, ?hstore, ?hst⟩
        case henv =>
          repeat' (first | rfl | refine env_cons ?_ ?_ | refine st_cons ?_ ?_ ?_ ?_ | refine int_eq ?_ | refine bool_eq ?_ | refine rsl_eq ?_ | refine osl_eq ?_ | refine sl_eq ?_ ?_ ?_ | refine ptr_eq ?_ ?_ ?_ | refine agg_eq ?_ | refine es_cons ?_ ?_ | refine row_cons ?_ ?_)
          all_goals (first | (simp; done) | omega | (simp; omega))
        case hstore =>
          repeat' (first | rfl | refine env_cons ?_ ?_ | refine st_cons ?_ ?_ ?_ ?_ | refine int_eq ?_ | refine bool_eq ?_ | refine rsl_eq ?_ | refine osl_eq ?_ | refine sl_eq ?_ ?_ ?_ | refine ptr_eq ?_ ?_ ?_ | refine agg_eq ?_ | refine es_cons ?_ ?_ | refine row_cons ?_ ?_)
          all_goals (rw [hz]; unfold repC; by_cases h0 : n = 0; (subst h0; rfl); (rw [show min 1 n = 1 by omega]; simp [ints]))
        case hst =>
          first | trivial | omega | (simp; done) | (simp; omega)
      rintro mm ee ss kk ⟨c, g, v, rfl, rfl, rfl, hI⟩
      generalize hQl1 : thenQ _ _ = Ql1
      have hrl : (repC a n c).length = n := by simp [repC]; omega
      refine AW.seq fun K4 hK4 => ?_
      -- region 8
      refine AW.so 100 (fun _ => none) [7,8,37] [130] (e4 @hw @hw1 @hw2 @hl1) ?_
      -- cond 3
      refine AW.cn ?_ ?_
      · intro hb
        refine AW.skip ?_
        refine hK4 _ _ _ ?_; clear hK4
        refine AW.block ?_
        -- region 9
        refine AW.rd mixed 100 (fun _ => none) [7,8] [130] (e4 @hw @hw1 @hw2 @hl1) ?_
        -- again 1
        rw [← hQl1]; change Exists _
        refine ⟨_, ?hm, c + min (n - c) c, ?_, ?_, rfl, ?henv, ?hstore, ?hst⟩
        case henv =>
          repeat' (first | rfl | refine env_cons ?_ ?_ | refine st_cons ?_ ?_ ?_ ?_ | refine int_eq ?_ | refine bool_eq ?_ | refine rsl_eq ?_ | refine osl_eq ?_ | refine sl_eq ?_ ?_ ?_ | refine ptr_eq ?_ ?_ ?_ | refine agg_eq ?_ | refine es_cons ?_ ?_ | refine row_cons ?_ ?_)
          all_goals (first | (simp; done) | omega | (simp; omega))
        case hstore =>
          repeat' (first | rfl | refine env_cons ?_ ?_ | refine st_cons ?_ ?_ ?_ ?_ | refine int_eq ?_ | refine bool_eq ?_ | refine rsl_eq ?_ | refine osl_eq ?_ | refine sl_eq ?_ ?_ ?_ | refine ptr_eq ?_ ?_ ?_ | refine agg_eq ?_ | refine es_cons ?_ ?_ | refine row_cons ?_ ?_)
          all_goals (rw [repC_step a hI.1])
        case hst =>
          first | trivial | omega | (simp; done) | (simp; omega)
        case hm => omega
      · intro hb
        -- exit 0
        refine AW.kx [7] [130] ?_
        rw [← hQl1]
        refine hK3 _ _ _ ?_; clear hK3
        -- region 10
        refine AW.so 100 (fun _ => none) [4] [130] (e4 @hw @hw1 @hw2 @hl1) ?_
        -- ret 1
        rw [← hQr]
        refine AW.rt (e4 @hw @hw1 @hw2 @hl1) ?_
        have hc : c = n := by omega
        subst hc
        have hrc : repC a c c = List.replicate c a := by simp [repC]
        rw [hrc]
        refine ⟨[(130, 0, true)], ?_⟩
        simp only [go_sem, reduceIte, Nat.reduceEqDiff, renC_ints]
end Go.Proofs.R

