/- Lemmas and contracts, part 3: an abstract machine over the model, and the functions that the statement reaches. -/
import Derived.Test.YtppocnbagombeaaGreatDoorBirkhoffLatticesP2
import Derived.KernelRfl
import Derived.Test.YtppocnbagombeaaGreatDoorProg
set_option linter.unusedVariables false
set_option linter.unusedSimpArgs false
open Nat renaming reduceAdd → zA, reduceMul → zM, reduceEqDiff → zE, reduceLT → zL, reduceLeDiff → zD, reduceSub → zS, reducePow → zP, reduceBEq → zB
open Int renaming reduceToNat → zI
open List renaming reduceReplicate → zR
/- Some roots are frozen: nobody writes them any more. -/
namespace Go.AM

def dropS (ids : List Nat) (s : Store) : Store := ids.map (fun i => (i, none)) ++ s

theorem sget_only (ids : List Nat) (s : Store) (i : Nat) : sget (keepS ids s) i = if i ∈ ids then sget s i else none := by
  induction ids with
  | nil => rfl
  | cons a l ih =>
    simp only [keepS, List.map_cons, sget_cons] at ih ⊢
    by_cases h : a = i
    · subst h; simp
    · rw [if_neg h, ih]
      simp [Ne.symm h]
theorem sget_drop (ids : List Nat) (s : Store) (i : Nat) : sget (dropS ids s) i = if i ∈ ids then none else sget s i := by
  induction ids with
  | nil => simp [dropS]
  | cons a l ih =>
    simp only [dropS, List.map_cons, List.cons_append, sget_cons] at ih ⊢
    by_cases h : a = i
    · subst h; simp
    · rw [if_neg h, ih]
      simp [Ne.symm h]
theorem pcontent_sub {s s' : Store} (h : ∀ id R, sget s' id = some R → sget s id = some R) {π : Pl} {y : Nat × List (List AV)} (hp : pcontent s' π = some y) : pcontent s π = some y := by
  unfold pcontent at hp ⊢
  cases e : sget s' π.1 with
  | none => rw [e] at hp; cases hp
  | some R => rw [e] at hp; rw [h _ _ e]; exact hp
theorem content_sub {s s' : Store} (h : ∀ id R, sget s' id = some R → sget s id = some R) {r : Ref} {y : Nat × List (List AV)} (hp : rcontent s' r = some y) : rcontent s r = some y := by
  unfold rcontent at hp ⊢
  cases e : sget s' r.id with
  | none => rw [e] at hp; cases hp
  | some R => rw [e] at hp; rw [h _ _ e]; exact hp
theorem pcontent_some {s : Store} {π : Pl} {y : Nat × List (List AV)} (hp : pcontent s π = some y) : ∃ R, sget s π.1 = some R := by
  unfold pcontent at hp
  cases e : sget s π.1 with
  | none => rw [e] at hp; cases hp
  | some R => exact ⟨R, rfl⟩

theorem freeze_view {ρ : Pl → Option (Nat × Nat)} {s : Store} {c : Nat → Prop} {w : World} {F : Nat → Prop} (h : StOk ⟨ρ, s, c, w, F⟩) (ids : List Nat) (d : Nat) {v : AV} {u : Value} (hr : Rel ⟨ρ, s, c, w, F⟩ v u) :
    RelP (Cx.imm ⟨ρ, dropS ids s, c, w, F⟩) w (vw (keepS ids s) d v) u := by
  have h1 : ∀ id R, sget (keepS ids s) id = some R → sget s id = some R := fun id R e => by
    rw [sget_only] at e; split at e
    · exact e
    · cases e
  have h2 : ∀ id R, sget (dropS ids s) id = some R → sget s id = some R := fun id R e => by
    rw [sget_drop] at e; split at e
    · cases e
    · exact e
  let y : Cx := ⟨ρ, dropS ids s, c, w, F⟩
  let x : Cx := ⟨ρ, s, c, w, F⟩
  let x1 : Cx := ⟨ρ, keepS ids s, c, w, fun b => F b ∨ y.owned b⟩
  have o1 : ∀ b, x1.owned b → x.owned b := fun b ⟨π, q, base, e1, e2⟩ => ⟨π, q, base, pcontent_sub h1 e1, e2⟩
  have o2 : ∀ b, y.owned b → x.owned b := fun b ⟨π, q, base, e1, e2⟩ => ⟨π, q, base, pcontent_sub h2 e1, e2⟩
  have hle : x.le x1 := by
    refine ⟨fun g hg => hg, fun b hb => ⟨⟨hb.1, fun ho => hb.2.1 (o1 b ho), fun hF => hF.elim hb.2.2 fun ho => hb.2.1 (o2 b ho)⟩, rfl⟩, fun r hr sz es' he => ?_⟩
    exact ⟨es', content_sub h1 he, Nat.le_refl _, rfl, fun _ _ _ => rfl⟩
  have hok : StOk x1 := by
    refine ⟨fun π sz es b base hp hρ => ?_, fun π sz es hp hρ => h.nils π sz es (pcontent_sub h1 hp) hρ, fun π π' q q' b b1 b2 hp hp' => h.inj π π' q q' b b1 b2 (pcontent_sub h1 hp) (pcontent_sub h1 hp'),
      fun id R e => h.gens id R (h1 _ _ e), fun π sz es hp => h.lens π sz es (pcontent_sub h1 hp), fun b hb => ?_, h.gl.mono hle.imm⟩
    · have hrow := h.rows π sz es b base (pcontent_sub h1 hp) hρ
      refine ⟨fun hsz => ?_, fun hsz => (hrow.map hsz).mono hle rfl, hrow.lt⟩
      obtain ⟨cs, T, k1, k2, k3⟩ := hrow.cells hsz
      refine ⟨cs, T, k1, k2, fun i j hi hj => ?_⟩
      obtain ⟨u, m1, m2⟩ := k3 i j hi hj
      refine ⟨u, m1, ?_⟩
      generalize (es.getD i []).getD j .any = a at m2
      cases a with
      | osl s' q' => exact m2
      | _ => exact CellOk.of_rel (fun _ _ h => by cases h) ((CellOk.rel (fun _ _ h => by cases h) m2).mono hle)
    · rcases hb with hb | hb
      · exact ⟨(h.apart b hb).1, fun ho => (h.apart b hb).2 (o1 b ho)⟩
      · have hb' := hb
        obtain ⟨π, q, base, e1, e2⟩ := hb'
        refine ⟨h.live_lt (pcontent_sub h2 e1) e2, fun ⟨π', q', base', e3, e4⟩ => ?_⟩
        have := h.inj π π' q q' b base base' (pcontent_sub h2 e1) (pcontent_sub h1 e3) e2 e4
        subst this
        obtain ⟨R, k1⟩ := pcontent_some e1
        obtain ⟨R', k2⟩ := pcontent_some e3
        rw [sget_drop] at k1
        rw [sget_only] at k2
        split at k1
        · cases k1
        · rename_i hn
          rw [if_neg hn] at k2; cases k2
  exact vw_sound (x := x1) hok (imm0 := y.imm) (fun b hb hF => ⟨hb, fun ho => hF (.inr ho), fun hf => hF (.inl hf)⟩) d v u (hr.mono hle)

theorem AW.freezeL {P : Program} {n : Nat} {c : Code} {Q : AX → Post} {e e' : Env} {s : Store} {k : Nat} (ids : List Nat) (d : Nat) (he : ∀ t, eget e' t = .any ∨ eget e' t = eget e t ∨ eget e' t = vw (keepS ids s) d (eget e t)) (h : AW P n c Q e' (dropS ids s) k) : AW P n c Q e s k := by
  intro x0 ρ a w hg hst
  have hgo := hst.ok.goes_grow (s' := dropS ids s) (c' := clk k) (w' := w) (fun id R hR => by
    rw [sget_drop] at hR; split at hR
    · cases hR
    · exact hR) (fun _ h => h) (.refl _ _)
  refine h x0 ρ a w (hg.trans hgo) ⟨hgo.ok, hst.size, hst.defers, fun t => ?_⟩
  rcases he t with h1 | h1 | h1
  · rw [h1]; exact .any _
  · rw [h1]; exact (hst.env t).mono hgo.le
  · rw [h1]; exact .pure _ _ (freeze_view hst.ok ids d (hst.env t))

/-- The named slots are seen through the frozen roots; the other slots in ks are kept. -/
def frzE (ks fs : List Nat) (s1 : Store) (d : Nat) (e : Env) : Env := fs.map (fun t => (t, vw s1 d (eget e t))) ++ keepE ks e
theorem eget_frz (ks : List Nat) (s1 : Store) (d : Nat) (e : Env) (t : Nat) : ∀ fs : List Nat, eget (frzE ks fs s1 d e) t = .any ∨ eget (frzE ks fs s1 d e) t = eget e t ∨ eget (frzE ks fs s1 d e) t = vw s1 d (eget e t)
  | [] => by
    rcases eget_keep e t ks with h1 | h1
    · exact .inl h1
    · exact .inr (.inl h1)
  | a :: l => by
    have ih := eget_frz ks s1 d e t l
    unfold frzE at ih ⊢
    simp only [List.map_cons, List.cons_append, eget_cons]
    by_cases ha : a = t
    · subst ha; rw [if_pos rfl]; exact .inr (.inr rfl)
    · rw [if_neg ha]; exact ih
theorem AW.freezeK {P : Program} {n : Nat} {c : Code} {Q : AX → Post} {e : Env} {s : Store} {k : Nat} (ids fs ks is : List Nat) (h : AW P n c Q (frzE ks fs (keepS ids s) 5 e) (keepS is (dropS ids s)) k) : AW P n c Q e s k :=
  AW.freezeL ids 5 (e' := frzE ks fs (keepS ids s) 5 e) (fun t => eget_frz ks _ _ _ t fs) (AW.forget h (fun t => .inr rfl) (fun id R => sget_keep _ id R is) (Nat.le_refl _))

end Go.AM

/- A cell's description is replaced by another one that the same value meets; a nil slice in a cell becomes the reference to an empty root. -/
namespace Go.AM

/-- The value at the cell (i, j) of the root pid. -/
def cellAt (x : Cx) (pid sz i j : Nat) (u : Value) : Prop := ∃ b base cs T, x.ρ (pid, none) = some (b, base) ∧ x.w.heap[b]? = some (.cells cs T (0, 0)) ∧ cs[base + i * sz + j]? = some u
theorem StOk.recellG {x : Cx} (h : StOk x) {pid : Nat} {R : Root} {es' : List (List AV)} (hR : sget x.s pid = some R) (hRz : R.sz ≠ mapSz) (hl : es'.length = R.es.length)
    (hes : ∀ i, i < R.es.length → (es'.getD i []).length = (R.es.getD i []).length ∧ ∀ j, (es'.getD i []).getD j .any = (R.es.getD i []).getD j .any ∨
      (notOsl ((R.es.getD i []).getD j .any) ∧ notOsl ((es'.getD i []).getD j .any) ∧ ∀ u, cellAt x pid R.sz i j u → Rel x ((es'.getD i []).getD j .any) u)) :
    Goes x ⟨x.ρ, (pid, some ⟨R.gen, R.ver, R.sz, es'⟩) :: x.s, x.c, x.w, x.F⟩ := by
  have hes2 : ∀ i j, (es'.getD i []).getD j .any = (R.es.getD i []).getD j .any ∨ (notOsl ((R.es.getD i []).getD j .any) ∧ notOsl ((es'.getD i []).getD j .any) ∧ ∀ u, cellAt x pid R.sz i j u → Rel x ((es'.getD i []).getD j .any) u) := fun i j => by
    by_cases hi : i < R.es.length
    · exact (hes i hi).2 j
    · have h1 : es'.getD i [] = [] := getD_out (by omega) _
      have h2 : R.es.getD i [] = [] := getD_out (by omega) _
      rw [h1, h2]; exact .inl rfl
  have hinner : ∀ i o, inner (es'.getD i []) o = inner (R.es.getD i []) o := fun i o => by
    unfold inner
    rcases hes2 i o with e | ⟨n1, n2, _⟩
    · rw [e]
    · generalize (es'.getD i []).getD o .any = a at n2
      generalize (R.es.getD i []).getD o .any = b at n1
      cases a <;> cases b <;> first | rfl | exact n1.elim | exact n2.elim
  have hpc : ∀ π y, pcontent ((pid, some ⟨R.gen, R.ver, R.sz, es'⟩) :: x.s) π = some y → (π = (pid, none) ∧ y = (R.sz, es')) ∨ (π ≠ (pid, none) ∧ pcontent x.s π = some y) := by
    intro π y hy
    obtain ⟨id, sub⟩ := π
    by_cases hid : pid = id
    · subst hid
      rw [pcontent_at] at hy
      cases sub with
      | none => exact .inl ⟨rfl, by simpa using hy.symm⟩
      | some io =>
        obtain ⟨i, o⟩ := io
        refine .inr ⟨by simp, ?_⟩
        rw [pcontent_of_root hR]
        simp only at hy ⊢
        rw [← hinner]; exact hy
    · rw [pcontent_ne hid] at hy
      exact .inr ⟨fun h => hid (by simpa using (congrArg Prod.fst h).symm), hy⟩
  have hpnone : pcontent x.s (pid, none) = some (R.sz, R.es) := by rw [pcontent_of_root hR]
  have hcon : ∀ (r : Ref) sz q, rcontent ((pid, some ⟨R.gen, R.ver, R.sz, es'⟩) :: x.s) r = some (sz, q) → ∃ q0, rcontent x.s r = some (sz, q0) ∧ q0.length = q.length := by
    intro r sz q hc
    by_cases hid : pid = r.id
    · unfold rcontent at hc ⊢
      rw [sget_cons, if_pos hid] at hc
      rw [← hid, hR]
      simp only at hc ⊢
      split at hc
      · rename_i hg
        rw [if_pos hg]
        cases hs : r.sub with
        | none =>
          simp only [hs, Option.some.injEq, Prod.mk.injEq] at hc
          obtain ⟨rfl, rfl⟩ := hc
          exact ⟨R.es, by simp, hl.symm⟩
        | some v =>
          obtain ⟨i, o, v⟩ := v
          simp only [hs] at hc ⊢
          split at hc
          · rename_i hv
            rw [if_pos hv, ← hinner]
            exact ⟨q, hc, rfl⟩
          · cases hc
      · cases hc
    · rw [rcontent_ne hid] at hc
      exact ⟨q, hc, rfl⟩
  generalize hx1 : (⟨x.ρ, (pid, some ⟨R.gen, R.ver, R.sz, es'⟩) :: x.s, x.c, x.w, x.F⟩ : Cx) = x1
  have e1s : x1.s = (pid, some ⟨R.gen, R.ver, R.sz, es'⟩) :: x.s := by rw [← hx1]
  have e1ρ : x1.ρ = x.ρ := by rw [← hx1]
  have e1w : x1.w = x.w := by rw [← hx1]
  have e1c : x1.c = x.c := by rw [← hx1]
  have e1F : x1.F = x.F := by rw [← hx1]
  have old : ∀ π y, pcontent ((pid, some ⟨R.gen, R.ver, R.sz, es'⟩) :: x.s) π = some y → ∃ y', pcontent x.s π = some y' := fun π y h1 => by
    rcases hpc π y h1 with ⟨rfl, rfl⟩ | ⟨_, h3⟩
    · exact ⟨_, hpnone⟩
    · exact ⟨_, h3⟩
  have hown : ∀ b, x1.owned b → x.owned b := by
    rintro b ⟨π, y, base, h1, h2⟩
    rw [e1s] at h1
    rw [e1ρ] at h2
    obtain ⟨y', h3⟩ := old π y h1
    exact ⟨_, _, _, h3, h2⟩
  have hle : x.le x1 := by
    refine ⟨fun k h => by rw [e1c]; exact h, fun b hb => ⟨⟨by rw [e1w]; exact hb.1, fun ho => hb.2.1 (hown b ho), by rw [e1F]; exact hb.2.2⟩, by rw [e1w]⟩, fun r hr sz' q hc => ?_⟩
    rw [e1s] at hc
    obtain ⟨q0, k1, k2⟩ := hcon r sz' q hc
    exact ⟨q0, k1, by omega, by rw [e1ρ], fun _ _ _ => by rw [e1w]⟩
  refine ⟨e1F, hle, ⟨fun π sz' q b base hp hρ => ?_, fun π sz' q hp hρ => ?_, fun π π' y y' b base base' hp hp' hρ hρ' => ?_, fun id R' hR' => ?_, fun π sz' q hp => ?_, fun b hb => ?_, h.gl.mono hle.imm⟩, by rw [e1w]; exact .refl _ _⟩
  · rw [e1s] at hp
    rw [e1ρ] at hρ
    have cell : ∀ (π : Pl) i j a u, CellOk x π i j a u → CellOk x1 π i j a u := fun π i j a u hc => by
      cases a with
      | osl s' q' => exact ⟨hc.1, by rw [e1ρ, e1w]; exact hc.2⟩
      | _ => exact CellOk.of_rel (fun _ _ h => by cases h) ((CellOk.rel (fun _ _ h => by cases h) hc).mono hle)
    rcases hpc π _ hp with ⟨rfl, hy⟩ | ⟨n1, h3⟩
    · simp only [Prod.mk.injEq] at hy
      obtain ⟨rfl, rfl⟩ := hy
      have hrow := h.rows _ _ _ _ _ hpnone hρ
      refine ⟨fun _ => ?_, fun e => absurd e hRz, by rw [e1w]; exact hrow.lt⟩
      obtain ⟨cs, T, k1, k2, k3⟩ := hrow.cells hRz
      refine ⟨cs, T, by rw [e1w]; exact k1, by rw [hl]; exact k2, fun i j hi hj => ?_⟩
      obtain ⟨u, m1, m2⟩ := k3 i j (by omega) hj
      refine ⟨u, m1, ?_⟩
      rcases hes2 i j with h2 | ⟨n1, n2, h3⟩
      · rw [h2]; exact cell _ i j _ u m2
      · have m4 := (h3 u ⟨b, base, cs, T, hρ, k1, m1⟩).mono hle
        generalize (q.getD i []).getD j .any = a at m4 n2
        cases a <;> first | exact n2.elim | exact CellOk.of_rel (fun _ _ h => by cases h) m4
    · have hrow := h.rows _ _ _ _ _ h3 hρ
      refine ⟨fun hsz => ?_, fun hsz => (hrow.map hsz).mono hle (by rw [e1w]), by rw [e1w]; exact hrow.lt⟩
      obtain ⟨cs, T, k1, k2, k3⟩ := hrow.cells hsz
      refine ⟨cs, T, by rw [e1w]; exact k1, k2, fun i j hi hj => ?_⟩
      obtain ⟨u, m1, m2⟩ := k3 i j hi hj
      exact ⟨u, m1, cell _ i j _ u m2⟩
  · rw [e1s] at hp
    rw [e1ρ] at hρ
    rcases hpc π _ hp with ⟨rfl, hy⟩ | ⟨n1, h3⟩
    · simp only [Prod.mk.injEq] at hy
      obtain ⟨rfl, rfl⟩ := hy
      have := h.nils _ _ _ hpnone hρ
      rw [this] at hl
      exact List.length_eq_zero_iff.1 hl
    · exact h.nils _ _ _ h3 hρ
  · rw [e1s] at hp hp'
    rw [e1ρ] at hρ hρ'
    obtain ⟨_, a1⟩ := old _ _ hp
    obtain ⟨_, b1⟩ := old _ _ hp'
    exact h.inj _ _ _ _ _ _ _ a1 b1 hρ hρ'
  · rw [e1s, sget_cons] at hR'
    rw [e1c]
    split at hR'
    · simp only [Option.some.injEq] at hR'; subst hR'; exact h.gens pid R hR
    · exact h.gens id R' hR'
  · rw [e1s] at hp
    rcases hpc π _ hp with ⟨rfl, hy⟩ | ⟨n1, h3⟩
    · simp only [Prod.mk.injEq] at hy
      obtain ⟨rfl, rfl⟩ := hy
      intro _ e he
      obtain ⟨i, hi, rfl⟩ := List.mem_iff_getElem.1 he
      have h1 := (hes i (by omega)).1
      rw [List.getD_eq_getElem?_getD, List.getElem?_eq_getElem hi, List.getD_eq_getElem?_getD, List.getElem?_eq_getElem (by omega)] at h1
      simp only [Option.getD_some] at h1
      rw [h1]
      exact h.lens _ _ _ hpnone hRz _ (List.getElem_mem _)
    · exact h.lens _ _ _ h3
  · rw [e1F] at hb
    obtain ⟨k1, k2⟩ := h.apart b hb
    exact ⟨by rw [e1w]; exact k1, fun ho => k2 (hown b ho)⟩

theorem StOk.cellAt_rel {x : Cx} (h : StOk x) {pid : Nat} {R : Root} (hR : sget x.s pid = some R) (hRz : R.sz ≠ mapSz) {i j : Nat} {u : Value} (hu : cellAt x pid R.sz i j u) (hi : i < R.es.length) (hj : j < R.sz) (n1 : notOsl ((R.es.getD i []).getD j .any)) :
    Rel x ((R.es.getD i []).getD j .any) u := by
  obtain ⟨b, base, cs, T, hρ, k1, m1⟩ := hu
  obtain ⟨cs', T', g1, _, g3⟩ := (h.rows _ _ _ _ _ (show pcontent x.s (pid, none) = some (R.sz, R.es) by rw [pcontent_of_root hR]) hρ).cells hRz
  rw [k1] at g1
  simp only [Option.some.injEq, Obj.cells.injEq] at g1
  obtain ⟨rfl, rfl, _⟩ := g1
  obtain ⟨u', e1, e2⟩ := g3 i j hi hj
  rw [m1] at e1
  obtain rfl := Option.some.inj e1
  generalize (R.es.getD i []).getD j .any = a at e2 n1
  cases a <;> first | exact n1.elim | exact CellOk.rel (fun _ _ h => by cases h) e2

theorem StOk.recell {x : Cx} (h : StOk x) {pid : Nat} {R : Root} {es' : List (List AV)} (hR : sget x.s pid = some R) (hRz : R.sz ≠ mapSz) (hl : es'.length = R.es.length)
    (hes : ∀ i, i < R.es.length → (es'.getD i []).length = (R.es.getD i []).length ∧ ∀ j, (es'.getD i []).getD j .any = (R.es.getD i []).getD j .any ∨
      (notOsl ((R.es.getD i []).getD j .any) ∧ notOsl ((es'.getD i []).getD j .any) ∧ ∀ u, Rel x ((R.es.getD i []).getD j .any) u → Rel x ((es'.getD i []).getD j .any) u)) :
    Goes x ⟨x.ρ, (pid, some ⟨R.gen, R.ver, R.sz, es'⟩) :: x.s, x.c, x.w, x.F⟩ := by
  refine h.recellG hR hRz hl fun i hi => ⟨(hes i hi).1, fun j => ?_⟩
  rcases (hes i hi).2 j with e | ⟨n1, n2, h3⟩
  · exact .inl e
  · have hlen : (R.es.getD i []).length = R.sz := by
      rw [List.getD_eq_getElem?_getD, List.getElem?_eq_getElem hi]
      exact h.lens (pid, none) _ _ (by rw [pcontent_of_root hR]) hRz _ (List.getElem_mem hi)
    by_cases hj : j < R.sz
    · exact .inr ⟨n1, n2, fun u hu => h3 u (h.cellAt_rel hR hRz hu hi hj n1)⟩
    · left
      rw [getD_out (l := es'.getD i []) (by rw [(hes i hi).1, hlen]; omega), getD_out (l := R.es.getD i []) (by rw [hlen]; omega)]

/-- Roots are frozen, and a cell that names them is read through them. -/
def frzCellP (s : Store) (ids : List Nat) (d pid i o : Nat) (K : Store → Prop) : Prop :=
  match sget s pid with
  | some R => ids.contains pid = false ∧ R.sz ≠ mapSz ∧ i < R.es.length ∧ o < R.sz ∧ o < (R.es.getD i []).length ∧ notOsl ((R.es.getD i []).getD o .any) ∧ notOsl (vw (keepS ids s) d ((R.es.getD i []).getD o .any)) ∧
      K ((pid, some ⟨R.gen, R.ver, R.sz, R.es.set i ((R.es.getD i []).set o (vw (keepS ids s) d ((R.es.getD i []).getD o .any)))⟩) :: dropS ids s)
  | none => False
/-- The cell (i, o) of the root pid holds a nil slice: it becomes the reference to a new empty root. -/
def nilCellP (s : Store) (pid i o id sz k : Nat) (K : Store → Prop) : Prop :=
  match sget s pid with
  | some R => match (R.es.getD i []).getD o .any with
    | .nilsl => R.sz ≠ mapSz ∧ sz ≠ mapSz ∧ id ≠ pid ∧ i < R.es.length ∧ o < (R.es.getD i []).length ∧ K ((pid, some ⟨R.gen, R.ver, R.sz, R.es.set i ((R.es.getD i []).set o (.sl ⟨id, k, none⟩ 0 0 none))⟩) :: (id, some ⟨k, k, sz, []⟩) :: s)
    | _ => False
  | _ => False

theorem AW.nilCellK {P : Program} {n : Nat} {c : Code} {Q : AX → Post} {e : Env} {s : Store} {k : Nat} (pid i o id sz : Nat) (h : nilCellP s pid i o id sz k fun s' => AW P n c Q e s' (k + 1)) : AW P n c Q e s k := by
  unfold nilCellP at h
  split at h
  · rename_i R hR
    split at h
    · rename_i hcell
      obtain ⟨hRz, hz0, hne, hi, ho, hK⟩ := h
      intro x0 ρ a w hg hst
      have h1 := hst.ok.reroot k clk_fresh.1 id sz hz0 [] none w (fun i o sz' q e => by simp at e) (by simp) (Nat.le_refl _) (fun _ _ _ => rfl) (fun _ _ => rfl) rfl rfl rfl rfl
      have hR' : sget ((id, some ⟨k, k, sz, []⟩) :: s) pid = some R := by rw [sget_cons, if_neg hne]; exact hR
      have h2 := h1.ok.recell (pid := pid) (R := R) (es' := R.es.set i ((R.es.getD i []).set o (.sl ⟨id, k, none⟩ 0 0 none))) hR' hRz (by simp) (fun i' hi' => by
        by_cases hii : i = i'
        · subst hii
          rw [Go.AM.getD_set_eq hi]
          refine ⟨by simp, fun j => ?_⟩
          by_cases hj : o = j
          · subst hj
            rw [Go.AM.getD_set_eq ho, hcell]
            refine .inr ⟨trivial, trivial, fun u hu => ?_⟩
            obtain ⟨ad, rfl⟩ := hu.nilsl_inv
            refine .sl _ _ _ _ _ _ (by simp) ⟨.inr rfl, by simp⟩ fun sz' es hc => ?_
            have hc := (content_iff.1 hc).1
            simp only [rcontent, sget_cons, if_true] at hc
            simp only [Option.some.injEq, Prod.mk.injEq] at hc
            obtain ⟨rfl, rfl⟩ := hc
            refine ⟨by simp, ?_⟩
            simp only [Ref.pl, Option.map_none, upd_self]
            exact ⟨rfl, rfl, _, rfl⟩
          · rw [Go.AM.getD_set_ne hj]; exact .inl rfl
        · rw [Go.AM.getD_set_ne hii]; exact ⟨rfl, fun j => .inl rfl⟩)
      have h3 := h2.ok.goes_grow (s' := (pid, some ⟨R.gen, R.ver, R.sz, R.es.set i ((R.es.getD i []).set o (.sl ⟨id, k, none⟩ 0 0 none))⟩) :: (id, some ⟨k, k, sz, []⟩) :: s) (c' := clk (k + 1)) (w' := w) (fun _ _ h => h) clk_succ (.refl _ _)
      exact hK x0 _ a w (hg.trans (h1.trans (h2.trans h3))) ⟨h3.ok, hst.size, hst.defers, fun t' => (hst.env t').mono (h1.trans (h2.trans h3)).le⟩
    · exact h.elim
  · exact h.elim

end Go.AM

/- Regions in whose midst roots are frozen. -/
namespace Go.AM

/-- Ahead of an operation the named roots may be frozen, the named slots seen through them. -/
def frzAt (g : Option (List Nat × List Nat)) (e : Env) (s : Store) : Env × Store :=
  match g with
  | none => (e, s)
  | some (ids, fs) => (fs.map (fun t => (t, vw (keepS ids s) 5 (eget e t))) ++ e, dropS ids s)
theorem eget_frz2 (s1 : Store) (d : Nat) (e e0 : Env) (t : Nat) : ∀ fs : List Nat, eget (fs.map (fun t => (t, vw s1 d (eget e0 t))) ++ e) t = eget e t ∨ eget (fs.map (fun t => (t, vw s1 d (eget e0 t))) ++ e) t = vw s1 d (eget e0 t)
  | [] => .inl rfl
  | a :: l => by
    simp only [List.map_cons, List.cons_append, eget_cons]
    by_cases ha : a = t
    · subst ha; rw [if_pos rfl]; exact .inr rfl
    · rw [if_neg ha]; exact eget_frz2 s1 d e e0 t l
theorem frz_sound {g : Option (List Nat × List Nat)} {e e0 : Env} {s s0 : Store} {k n : Nat} {x0 : Cx} {ρ : Pl → Option (Nat × Nat)} {a : Act} {w : World} (h : frzAt g e0 s0 = (e, s)) (hg : Goes x0 ⟨ρ, s0, clk k, w, x0.F⟩) (hs : St ⟨ρ, s0, clk k, w, x0.F⟩ e0 n a) :
    Goes x0 ⟨ρ, s, clk k, w, x0.F⟩ ∧ St ⟨ρ, s, clk k, w, x0.F⟩ e n a := by
  cases g with
  | none =>
    simp only [frzAt, Prod.mk.injEq] at h
    obtain ⟨rfl, rfl⟩ := h
    exact ⟨hg, hs⟩
  | some p =>
    obtain ⟨ids, fs⟩ := p
    simp only [frzAt, Prod.mk.injEq] at h
    obtain ⟨rfl, rfl⟩ := h
    have hgo := hs.ok.goes_grow (s' := dropS ids s0) (c' := clk k) (w' := w) (fun id R hR => by
      rw [sget_drop] at hR; split at hR
      · cases hR
      · exact hR) (fun _ h => h) (.refl _ _)
    refine ⟨hg.trans hgo, hgo.ok, hs.size, hs.defers, fun t => ?_⟩
    rcases eget_frz2 (keepS ids s0) 5 e0 e0 t fs with h1 | h1
    · rw [h1]; exact (hs.env t).mono hgo.le
    · rw [h1]; exact .pure _ _ (freeze_view hs.ok ids 5 (hs.env t))

def arunG (P : Program) (n base : Nat) (orc : Nat → Option Orc) (gh : Nat → Option (List Nat × List Nat)) (all : List Oper) : List Oper → Nat → Env → Store → Nat → Post → Prop
  | [], _, e, s, k, K => K e s k
  | o :: rest, i, e0, s0, k, K =>
    match frzAt (gh i) e0 s0 with
    | (e, s) => match stepOp P (orc i) o.op (base + o.dst.getD 0) k e s with
    | none => False
    | some r => match o.guard with
      | none => r.vc ∧ dstOk n o.dst ∧ arunG P n base orc gh all rest (i + 1) (setE o.dst r.v e) (r.u ++ s) (k + 2) K
      | some (j, want) => match yieldA all e j with
        | (q, .bool b) => match r.u with
          | [] => ((q ∧ b = want) → r.vc) ∧ dstOk n o.dst ∧ arunG P n base orc gh all rest (i + 1) (setE o.dst (.opt (q ∧ b = want) r.v) e) s (k + 2) K
          | c :: u => q ∧ b = want ∧ r.vc ∧ dstOk n o.dst ∧ arunG P n base orc gh all rest (i + 1) (setE o.dst r.v e) (c :: u ++ s) (k + 2) K
        | _ => False

theorem arunG_sound {P : Program} {n base : Nat} {orc : Nat → Option Orc} {gh : Nat → Option (List Nat × List Nat)} {all : List Oper} {Q : AX → Post} : ∀ (rest : List Oper) (i : Nat) (e : Env) (s : Store) (k : Nat), arunG P n base orc gh all rest i e s k (Q .normal) →
    ∀ x0 ρ a w, Goes x0 ⟨ρ, s, clk k, w, x0.F⟩ → St ⟨ρ, s, clk k, w, x0.F⟩ e n a → wpList P all.toArray (LiftX x0 n Q) rest a w
  | [], _, e, s, k, h, x0, ρ, a, w, hg, hs => ⟨ρ, e, s, k, h, hg, hs⟩
  | o :: rest, i, e0, s0, k, h, x0, ρ, a, w, hg0, hs0 => by
    have ih := arunG_sound (P := P) (n := n) (base := base) (orc := orc) (gh := gh) (all := all) (Q := Q) rest (i + 1)
    unfold arunG at h
    generalize hfz : frzAt (gh i) e0 s0 = es at h
    obtain ⟨e, s⟩ := es
    obtain ⟨hg, hs⟩ := frz_sound hfz hg0 hs0
    simp only at h
    split at h
    · exact h.elim
    · rename_i r hr
      have hrun : ∀ (v : AV) (s' : Store), r.vc → dstOk n o.dst → (∀ y u, Rel y r.v u → Rel y v u) → s' = r.u ++ s → arunG P n base orc gh all rest (i + 1) (setE o.dst v e) s' (k + 2) (Q .normal) → o.wp P a w (wpList P all.toArray (LiftX x0 n Q) rest) (LiftX x0 n Q) := by
        intro v s' hvc hd hrel hs' hrest
        refine step_sound (x := ⟨ρ, s, clk k, w, x0.F⟩) hs.ok hs.env hr hvc clk_fresh.1 clk_fresh.2 (B := k) (fun _ h => h) fun y u hgo hys hyc hru => ?_
        have hgo2 := hgo.ok.goes_grow (s' := y.s) (c' := clk (k + 2)) (w' := y.w) (fun _ _ h => h) (fun g hg => by
          rcases hyc g hg with h1 | h1 | h1
          · exact Nat.lt_of_lt_of_le h1 (by omega)
          · simp [clk, h1]
          · simp [clk, h1]) (.refl _ _)
        have hall := hg.trans (hgo.trans hgo2)
        have hF : y.F = x0.F := hgo.F
        rw [hs', ← hys] at hrest
        rw [hF] at hall hgo2
        exact ih _ _ _ hrest x0 y.ρ _ y.w hall (put_env ((hgo.trans hgo2).le) hs hgo2.ok hd ((hrel _ _ hru).mono hgo2.le))
      split at h
      · rename_i hgd
        obtain ⟨hvc, hd, hrest⟩ := h
        unfold wpList
        rw [if_pos (by simp [Region.wanted, hgd])]
        exact .inl (hrun r.v _ hvc hd (fun _ _ h => h) rfl hrest)
      · rename_i j want hgd
        split at h
        · rename_i q b hy
          split at h
          rotate_left
          · rename_i c u hu
            obtain ⟨hq, hb, hvc, hd, hrest⟩ := h
            have hyd := yielded_of hs hy hq
            unfold wpList
            rw [if_pos (by simp [Region.wanted, hgd, hyd, hb])]
            exact .inl (hrun r.v _ hvc hd (fun _ _ h => h) (by rw [hu]) hrest)
          rename_i hu
          obtain ⟨hvc, hd, hrest⟩ := h
          unfold wpList
          by_cases hq : q ∧ b = want
          · have hyd := yielded_of hs hy hq.1
            rw [if_pos (by simp [Region.wanted, hgd, hyd, hq.2])]
            refine .inl (hrun _ s (hvc hq) hd (fun y u hr => .opt _ _ _ (fun _ => hr) (fun hn => absurd hq hn)) (by rw [hu]; rfl) hrest)
          · have hyd : Region.wanted o (yielded all.toArray a.tmps) = false := by
              by_cases hq1 : q
              · have := yielded_of hs hy hq1
                have hne : b ≠ want := fun e => hq ⟨hq1, e⟩
                simp [Region.wanted, hgd, this, hne]
              · have := yielded_not hs hy hq1
                simp [Region.wanted, hgd, this]
            rw [if_neg (by simp [hyd])]
            have hgo2 := hs.ok.goes_grow (s' := s) (c' := clk (k + 2)) (w' := w) (fun _ _ h => h) (fun g (hg : g < k) => show g < k + 2 by omega) (.refl _ _)
            exact ih _ _ _ hrest x0 ρ _ w (hg.trans hgo2) (put_env hgo2.le hs hgo2.ok hd (.opt _ _ _ (fun h => absurd h hq) (fun _ => rfl)))
        · exact h.elim

/-- A region in the order of the text, with freezing; behind it only the named slots and roots are kept. -/
theorem AW.regionG {P : Program} {n id : Nat} {l : List Oper} {Q : AX → Post} {e : Env} {s : Store} {k : Nat} (base : Nat) (orc : Nat → Option Orc) (gh : Nat → Option (List Nat × List Nat)) (ks is : List Nat)
    (h : arunG P n base orc gh l l 0 e s k (fun e s k => Q .normal (keepE ks e) (keepS is s) k)) : AW P n (.region id l.toArray false) Q e s k := by
  intro x0 ρ a w hg hs
  refine wp_mono (wp_region_lit (arunG_sound (Q := thenQ (fun e s k => Q .normal (keepE ks e) (keepS is s) k) Q) l 0 e s k h x0 ρ a w hg hs)) fun ex a' w' hl => ?_
  cases ex with
  | normal => exact Lift.keep ks is hl
  | _ => exact hl

end Go.AM

/- Regions in the order of the text whose guards forbid a writing operation. -/
namespace Go.AM
/-- What is asked where an operation is passed over. -/
def skipS (all : List Oper) (e : Env) (o : Oper) : Option Prop :=
  match o.guard with
  | some (j, want) => match yieldA all e j with
    | (q, .bool b) => some (¬ (q ∧ b = want))
    | (q, .any) => some (¬ q)
    | _ => none
  | none => none
def anyG (all : List Oper) (e : Env) (o : Oper) : Bool :=
  match o.guard with
  | some (j, _) => isAny (yieldA all e j).2
  | none => false
def arunS (P : Program) (n base : Nat) (orc : Nat → Option Orc) (all : List Oper) : List Oper → Nat → Env → Store → Nat → Post → Prop
  | [], _, e, s, k, K => K e s k
  | o :: rest, i, e, s, k, K =>
    match (if (isSkip (orc i) || anyG all e o) = true then none else stepOp P (orc i) o.op (base + o.dst.getD 0) k e s) with
    | none => match skipS all e o with
      | some p => p ∧ dstOk n o.dst ∧ arunS P n base orc all rest (i + 1) (setE o.dst .any e) s (k + 2) K
      | none => False
    | some r => match o.guard with
      | none => r.vc ∧ dstOk n o.dst ∧ arunS P n base orc all rest (i + 1) (setE o.dst r.v e) (r.u ++ s) (k + 2) K
      | some (j, want) => match yieldA all e j with
        | (q, .bool b) => match r.u with
          | [] => ((q ∧ b = want) → r.vc) ∧ dstOk n o.dst ∧ arunS P n base orc all rest (i + 1) (setE o.dst (.opt (q ∧ b = want) r.v) e) s (k + 2) K
          | c :: u => q ∧ b = want ∧ r.vc ∧ dstOk n o.dst ∧ arunS P n base orc all rest (i + 1) (setE o.dst r.v e) (c :: u ++ s) (k + 2) K
        | _ => False

end Go.AM

/- The rules by which a region is run. -/
namespace Go.AM

attribute [go_sem] aBinA aBytes aNil orcN isNilC isAny aPick2 arun arunS stepOp ev strip ofVal ofCell eget sget setE dstOk yieldA aLoad aStore aFieldAddr aIndexAddr aBin aBin2 aUn aConv aLen aPick isTrueC isFalseC keepE keepS aBuild aParts fillA splice mkA takeC unosl cellsA known scalar content rcontent noMap mcontent mapSz isMapT aLookup aMapUpdate keyOk isFlat isFlat1 isMv isMv1 mvCell inner pcontent
  setCu Root.setSub aBuildSlice chunkN aMake aSlice idxA optE isC aField aPart aIndex aExtract aMin aAppend srcOf aCopy aCall aBuiltin aMLen allP vws pureA pureS argsE resOk resVals resVal IntKind.signed thenQ blockQ retQ
  drun gstep isSkip skipG rdsOp idA aUpd entryM exitM mvStore mvRoot mvRef findS findD exitS nodupB ren renC settleM settles arunG frzAt skipS anyG adoptP nilCellP frzE dropS frzCellP notOsl

attribute [go_sem] decide_true decide_false ne_eq not_false_eq_true Nat.zero_add Nat.add_zero Option.getD_some Option.getD_none List.map_cons List.map_nil List.length_cons List.length_nil List.getD_cons_zero List.getD_cons_succ List.drop_zero List.drop_succ_cons
  List.all_cons List.all_nil Bool.and_true Bool.and_self List.nil_append List.cons_append List.set_cons_zero List.set_cons_succ and_true true_and and_self implies_true imp_self List.getElem?_cons_zero List.getElem?_cons_succ and_assoc
  Nat.add_assoc Option.some.injEq Prod.mk.injEq and_imp forall_eq forall_eq' forall_apply_eq_imp_iff List.flatten_cons List.flatten_nil List.take_succ_cons List.take_zero List.take_nil List.drop_nil List.isEmpty_nil List.isEmpty_cons List.flatMap_cons List.flatMap_nil List.append_nil
attribute [go_sem] vw_int vw_bool vw_str vw_nilp vw_nilsl vw_nilq vw_rsl vw_rptr vw_any vw_agg vw_tup vw_fn vw_sl vw_ptr vwc_osl vwc_int vwc_bool vwc_str vwc_nilp vwc_nilsl vwc_rsl vwc_rptr vwc_sl vwc_ptr
  vwF_int vwF_bool vwF_str vwF_nilp vwF_nilsl vwF_nilq vwF_rnil vwF_agg vwF_tup vwF_sl vwF_ptr vwcF_osl vwcF_int vwcF_bool vwcF_nilsl vwcF_nilp vwcF_sl vwcF_ptr vw_map_int vwc_map_int vwc_map_bool vwF_map_int vwcF_map_int vwcF_map_bool

@[go_sem] theorem Res.vc_mk (a : Prop) (v : AV) (u : Store) : (Res.mk a v u).vc = a := rfl
@[go_sem] theorem Res.v_mk (a : Prop) (v : AV) (u : Store) : (Res.mk a v u).v = v := rfl
@[go_sem] theorem Res.u_mk (a : Prop) (v : AV) (u : Store) : (Res.mk a v u).u = u := rfl
@[go_sem] theorem GRes.vc_mk (a : Prop) (v : AV) (u : Store) : (GRes.mk a v u).vc = a := rfl
@[go_sem] theorem GRes.v_mk (a : Prop) (v : AV) (u : Store) : (GRes.mk a v u).v = v := rfl
@[go_sem] theorem GRes.u_mk (a : Prop) (v : AV) (u : Store) : (GRes.mk a v u).u = u := rfl
@[go_sem] theorem inR_i64 (n : Int) : inR .i64 n = (-9223372036854775808 ≤ n ∧ n ≤ 9223372036854775807) := by
  simp [inR, IntKind.min, IntKind.max, IntKind.bits, IntKind.signed]
attribute [go_sem] Bool.not_false Bool.not_true List.contains_cons List.contains_nil Bool.or_false Bool.false_or Bool.true_and or_true true_or false_or or_false List.getD_nil
theorem hB : (∀ a b : Bool, ((a || b) = true) = (a = true ∨ b = true)) ∧ (∀ a b : Bool, ((a && b) = true) = (a = true ∧ b = true)) ∧ (∀ (p : Prop) [Decidable p], (decide p = true) = p) ∧ (∀ a b : Bool, ((a || b) = false) ↔ (a = false ∧ b = false)) ∧
    (∀ a b : Bool, ((a && b) = false) ↔ (a = false ∨ b = false)) ∧ (∀ (p : Prop) [Decidable p], (decide p = false) ↔ ¬ p) ∧ (∀ a : Bool, ((!a) = true) = (a = false)) ∧ (∀ a : Bool, ((!a) = false) = (a = true)) ∧ (∀ a b : Int, (¬ a < b) ↔ b ≤ a) ∧ (∀ a b : Int, (¬ a ≤ b) ↔ b < a) ∧
    ((!true) = false) ∧ ((!false) = true) ∧ ∀ (α β : Type) (f : α → β) (l : List α), (l.map f).length = l.length :=
  ⟨fun _ _ => Bool.or_eq_true _ _, fun _ _ => Bool.and_eq_true _ _, fun _ _ => decide_eq_true_eq, fun _ _ => Bool.or_eq_false_iff, fun _ _ => Bool.and_eq_false_iff, fun _ _ => decide_eq_false_iff_not, fun _ => Bool.not_eq_true' _, fun _ => Bool.not_eq_false' _, fun _ _ => Int.not_lt, fun _ _ => Int.not_le, rfl, rfl, fun _ _ _ _ => List.length_map _⟩
theorem chk {l : List Oper} {L : List FP} (h : chkA l L = true) : chkA l L = true := h
theorem ent {P : Program} {f : FuncId} (h : enters P f = true) : enters P f = true := h
theorem cj {a b : Prop} (hb : b) (ha : a) : a ∧ b := ⟨ha, hb⟩

end Go.AM

/- A region that ends in the compare of an empty slice with nil: both answers must do. -/
namespace Go.AM

end Go.AM

/- The steps of a printed walk, in short: what a step asks for is proved by the text that stands as its default. -/
namespace Go.AM
theorem e2 {a b : Prop} (x : a) (y : b) : a ∧ b := ⟨x, y⟩
theorem e3 {a b c : Prop} (x : a) (y : b) (z : c) : a ∧ b ∧ c := ⟨x, y, z⟩
theorem e4 {a b c d : Prop} (x : a) (y : b) (z : c) (u : d) : a ∧ b ∧ c ∧ d := ⟨x, y, z, u⟩
theorem e5 {a b c d p : Prop} (x : a) (y : b) (z : c) (u : d) (v : p) : a ∧ b ∧ c ∧ d ∧ p := ⟨x, y, z, u, v⟩
theorem cjG {g a b : Prop} (ha : a) (hb : g → b) : g → a ∧ b := fun h => ⟨ha, hb h⟩
theorem AW.seq1 {P : Program} {n : Nat} {c d : Code} {Q : AX → Post} {e : Env} {s : Store} {k : Nat} (h : AW P n c (thenQ (fun e s k => AW P n d Q e s k) Q) e s k) : AW P n (.seq c d) Q e s k := by
  intro x0 ρ a w hg hs
  have h1 := h x0 ρ a w hg hs
  refine wp_seq (wp_mono h1 fun ex a' w' hl => ?_)
  cases ex with
  | normal =>
    obtain ⟨ρ', e', s', k', g1, g2, g3⟩ := hl
    exact g1 x0 ρ' a' w' g2 g3
  | _ => exact hl
theorem AW.sg {P : Program} {n id : Nat} {l : List Oper} {Q : AX → Post} {e : Env} {s : Store} {k : Nat} {b : Code} (ks is : List Nat) {E : Prop} (hE : E) {G : Prop} (hG : G)
    (h : E → G → arun P n 0 (fun _ => Option.none) l l 0 e s k fun e s k => AW P n b Q (keepE ks e) (keepS is s) k := by
      intro xE
      simp (maxSteps := 2000000) only [go_sem, reduceIte, reduceCtorEq, zA, zM, zE, zL, zD, zS, zP, zB, zI, zR, xE]
      repeat ((with_reducible apply cjG); (first | omega | exact ent (by kernel_rfl) | (simp [scP, scalar]; done) | exact scP_words _ | exact scP_ints _ | exact scP_bools _))
      exact fun xG => xG) : AW P n (.seq (.region id l.toArray false) b) Q e s k :=
  AW.seq1 (AW.regionK 0 (fun _ => Option.none) ks is (h hE hG))
theorem AW.so {P : Program} {n id : Nat} {l : List Oper} {Q : AX → Post} {e : Env} {s : Store} {k : Nat} {b : Code} (base : Nat) (orc : Nat → Option Orc) (ks is : List Nat) {E : Prop} (hE : E) {G : Prop} (hG : G)
    (h : E → G → arun P n base orc l l 0 e s k fun e s k => AW P n b Q (keepE ks e) (keepS is s) k := by
      intro xE
      simp (maxSteps := 2000000) only [go_sem, reduceIte, reduceCtorEq, zA, zM, zE, zL, zD, zS, zP, zB, zI, zR, xE]
      repeat ((with_reducible apply cjG); (first | omega | exact ent (by kernel_rfl) | (simp [scP, scalar]; done) | exact scP_words _ | exact scP_ints _ | exact scP_bools _))
      exact fun xG => xG) : AW P n (.seq (.region id l.toArray false) b) Q e s k :=
  AW.seq1 (AW.regionK base orc ks is (h hE hG))
theorem AW.rg {P : Program} {n id : Nat} {l : List Oper} {Q : AX → Post} {e : Env} {s : Store} {k : Nat} (ks is : List Nat) {E : Prop} (hE : E) {G : Prop} (hG : G)
    (h : E → G → arun P n 0 (fun _ => Option.none) l l 0 e s k fun e s k => Q .normal (keepE ks e) (keepS is s) k := by
      intro xE
      simp (maxSteps := 2000000) only [go_sem, reduceIte, reduceCtorEq, zA, zM, zE, zL, zD, zS, zP, zB, zI, zR, xE]
      repeat ((with_reducible apply cjG); (first | omega | exact ent (by kernel_rfl) | (simp [scP, scalar]; done) | exact scP_words _ | exact scP_ints _ | exact scP_bools _))
      exact fun xG => xG) : AW P n (.region id l.toArray false) Q e s k :=
  AW.regionK 0 (fun _ => Option.none) ks is (h hE hG)
theorem AW.ro {P : Program} {n id : Nat} {l : List Oper} {Q : AX → Post} {e : Env} {s : Store} {k : Nat} (base : Nat) (orc : Nat → Option Orc) (ks is : List Nat) {E : Prop} (hE : E) {G : Prop} (hG : G)
    (h : E → G → arun P n base orc l l 0 e s k fun e s k => Q .normal (keepE ks e) (keepS is s) k := by
      intro xE
      simp (maxSteps := 2000000) only [go_sem, reduceIte, reduceCtorEq, zA, zM, zE, zL, zD, zS, zP, zB, zI, zR, xE]
      repeat ((with_reducible apply cjG); (first | omega | exact ent (by kernel_rfl) | (simp [scP, scalar]; done) | exact scP_words _ | exact scP_ints _ | exact scP_bools _))
      exact fun xG => xG) : AW P n (.region id l.toArray false) Q e s k :=
  AW.regionK base orc ks is (h hE hG)
theorem AW.sd {P : Program} {n id : Nat} {l : List Oper} {Q : AX → Post} {e : Env} {s : Store} {k : Nat} {b : Code} (hm : P.follows .mixedOrders = true) (base : Nat) (orc : Nat → Option Orc) (ks is : List Nat) {E : Prop} (hE : E) {G : Prop} (hG : G)
    (h : E → G → drun P n base orc l k l 0 [] e s fun L e s => chkA l L = true ∧ AW P n b Q (keepE ks e) (keepS is s) (k + 2 * l.length) := by
      intro xE
      simp (maxSteps := 2000000) only [go_sem, reduceIte, reduceCtorEq, zA, zM, zE, zL, zD, zS, zP, zB, zI, zR, xE]
      repeat ((with_reducible apply cjG); (first | omega | exact chk (by kernel_rfl) | exact ent (by kernel_rfl) | (simp [scP, scalar]; done) | exact scP_words _ | exact scP_ints _ | exact scP_bools _))
      exact fun xG => xG) : AW P n (.seq (.region id l.toArray true) b) Q e s k :=
  AW.seq1 (AW.regionD hm base orc ks is (h hE hG))
theorem AW.rd {P : Program} {n id : Nat} {l : List Oper} {Q : AX → Post} {e : Env} {s : Store} {k : Nat} (hm : P.follows .mixedOrders = true) (base : Nat) (orc : Nat → Option Orc) (ks is : List Nat) {E : Prop} (hE : E) {G : Prop} (hG : G)
    (h : E → G → drun P n base orc l k l 0 [] e s fun L e s => chkA l L = true ∧ Q .normal (keepE ks e) (keepS is s) (k + 2 * l.length) := by
      intro xE
      simp (maxSteps := 2000000) only [go_sem, reduceIte, reduceCtorEq, zA, zM, zE, zL, zD, zS, zP, zB, zI, zR, xE]
      repeat ((with_reducible apply cjG); (first | omega | exact chk (by kernel_rfl) | exact ent (by kernel_rfl) | (simp [scP, scalar]; done) | exact scP_words _ | exact scP_ints _ | exact scP_bools _))
      exact fun xG => xG) : AW P n (.region id l.toArray true) Q e s k :=
  AW.regionD hm base orc ks is (h hE hG)
theorem AW.cn {P : Program} {n : Nat} {Q : AX → Post} {e : Env} {s : Store} {k : Nat} {o : Operand} {c d : Code} {b : Bool} {p q : Prop} (ht : p → AW P n c Q e s k) (hf : q → AW P n d Q e s k) (he : (ev e o).2 = .bool b := by rfl)
    (hp : (ev e o).1 := by simp only [go_sem, reduceIte, reduceCtorEq, zA, zM, zE, zL, zD, zS, zP, zB, zI, zR]) (h1 : b = true → p := by (intro xb; first | (simp only [hB, decide_eq_true_eq, decide_eq_false_iff_not] at xb; exact xb) | exact xb)) (h2 : b = false → q := by (intro xb; first | (simp only [hB, decide_eq_true_eq, decide_eq_false_iff_not] at xb; exact xb) | exact xb)) :
    AW P n (.cond o c d) Q e s k :=
  AW.cond he hp (fun h => ht (h1 h)) (fun h => hf (h2 h))
theorem AW.kx {P : Program} {n : Nat} {Q : AX → Post} {e : Env} {s : Store} {k : Nat} {id : Nat} (ks is : List Nat) {G : Prop} (hG : G) (h : G → Q (.exit id) (keepE ks e) (keepS is s) k := by ((try simp only [go_sem, reduceIte, reduceCtorEq, zA, zM, zE, zL, zD, zS, zP, zB, zI, zR]); exact fun xG => xG)) : AW P n (.exit id) Q e s k :=
  AW.keep ks is (AW.exit (h hG))
theorem AW.rt {P : Program} {n : Nat} {Q : AX → Post} {e : Env} {s : Store} {k : Nat} {E : Prop} (hE : E) {G : Prop} (hG : G) (h : E → G → Q .ret e s k := by (intro xE; (try simp only [go_sem, reduceIte, reduceCtorEq, zA, zM, zE, zL, zD, zS, zP, zB, zI, zR, xE]); exact fun xG => xG)) : AW P n .ret Q e s k :=
  AW.ret (h hE hG)
theorem eD {α : Type} {a b : α} (h : a = b := by
      repeat' (first | rfl | apply env_cons | apply st_cons | apply int_eq | apply bool_eq | apply rsl_eq | apply osl_eq | apply sl_eq | apply ptr_eq | apply agg_eq | apply es_cons | apply row_cons)
      all_goals (first | (simp; done) | omega | (simp; omega))) : a = b := h
theorem eT {p : Prop} (h : p := by first | trivial | omega | (simp; done) | (simp; omega)) : p := h
theorem eO {p : Prop} (h : p := by omega) : p := h
theorem gD {p : Prop} (h : p := by (simp only [go_sem, reduceIte, reduceCtorEq, zA, zM, zE, zL, zD, zS, zP, zB, zI, zR]; done)) : p := h
end Go.AM

/- Lists of plain values as pure trees. -/
namespace Go.AM
def ints (l : List Int) : List (List AV) := l.map fun x => [.int .i64 x]
def words (l : List Int) : List (List AV) := l.map fun x => [.int .u64 x]
def bools (l : List Bool) : List (List AV) := l.map fun x => [.bool x]
structure USet where
  N : Int
  W : List Int
end Go.AM
namespace Go.AM
theorem ints_len (l : List Int) : (ints l).length = l.length := by simp [ints]
theorem ints_take (l : List Int) (n : Nat) : (ints l).take n = ints (l.take n) := by simp [ints, List.map_take]
theorem ints_set (l : List Int) (i : Nat) (x : Int) : (ints l).set i [.int .i64 x] = ints (l.set i x) := by simp [ints, List.map_set]
theorem ints_upd (l : List Int) (i : Nat) (x : Int) : (ints l).set i (((ints l).getD i []).set 0 (.int .i64 x)) = ints (l.set i x) := by
  by_cases h : i < l.length
  · rw [← ints_set]; congr 1; simp [ints, List.getD_eq_getElem?_getD, h]
  · rw [List.set_eq_of_length_le (by rw [ints_len]; omega), List.set_eq_of_length_le (by omega)]
theorem Reads.old {P : Program} {f : FuncId} {args : List AV} {r : AV} (h : Reads P f true args r) : Reads P f false args r := by
  intro w F us hF hgl hl hr
  refine (h w F us hF hgl hl hr).mono fun e w' ⟨u, h1, h2, h3⟩ => ⟨u, h1, h2, ?_⟩
  exact h3.mono fun b hb => ⟨⟨hb.1, fun hf => hb.2 (hF b hf)⟩, rfl⟩
theorem getV {α : Type} {f : α → List AV} {l : List α} {j : Nat} {x : α} (h : l[j]? = some x) : (l.map f).getD j [] = f x := by
  simp [List.getD_eq_getElem?_getD, h]
theorem getI {α : Type} {l : List α} {j : Nat} (h : j < l.length) : ∃ x, l[j]? = some x := ⟨_, List.getElem?_eq_getElem h⟩
theorem all_take_succ {α : Type} {p : α → Bool} {l : List α} {j : Nat} {x : α} (h : l[j]? = some x) : (l.take (j + 1)).all p = ((l.take j).all p && p x) := by
  obtain ⟨hj, rfl⟩ := List.getElem?_eq_some_iff.1 h
  rw [List.take_succ_eq_append_getElem hj, List.all_append]; simp
theorem all_false_of {α : Type} {p : α → Bool} {l : List α} {j : Nat} {x : α} (h : l[j]? = some x) (hp : p x = false) : l.all p = false := by
  rw [List.all_eq_false]; exact ⟨x, List.mem_of_getElem? h, by simp [hp]⟩
theorem words_len (l : List Int) : (words l).length = l.length := by simp [words]
theorem words_get {l : List Int} {i : Nat} {x : Int} (h : l[i]? = some x) : (words l).getD i [] = [.int .u64 x] := getV h
theorem words_getD {l : List Int} {i : Nat} (h : i < l.length) : (words l).getD i [] = [.int .u64 (l.getD i 0)] := by
  simp [words, List.getD_eq_getElem?_getD, h]
theorem words_set (l : List Int) (i : Nat) (x : Int) : (words l).set i [.int .u64 x] = words (l.set i x) := by simp [words, List.map_set]
theorem words_upd (l : List Int) (i : Nat) (x : Int) : (words l).set i (((words l).getD i []).set 0 (.int .u64 x)) = words (l.set i x) := by
  by_cases h : i < l.length
  · rw [← words_set]; congr 1; simp [words, List.getD_eq_getElem?_getD, h]
  · rw [List.set_eq_of_length_le (by rw [words_len]; omega), List.set_eq_of_length_le (by omega)]
theorem words_take (l : List Int) (n : Nat) : (words l).take n = words (l.take n) := by simp [words, List.map_take]
theorem bools_len (l : List Bool) : (bools l).length = l.length := by simp [bools]
theorem bools_getD {l : List Bool} {i : Nat} (h : i < l.length) : (bools l).getD i [] = [.bool (l.getD i false)] := by
  simp [bools, List.getD_eq_getElem?_getD, h]
theorem bools_set (l : List Bool) (i : Nat) (x : Bool) : (bools l).set i [.bool x] = bools (l.set i x) := by simp [bools, List.map_set]
theorem bools_upd (l : List Bool) (i : Nat) (x : Bool) : (bools l).set i (((bools l).getD i []).set 0 (.bool x)) = bools (l.set i x) := by
  by_cases h : i < l.length
  · rw [← bools_set]; congr 1; simp [bools, List.getD_eq_getElem?_getD, h]
  · rw [List.set_eq_of_length_le (by rw [bools_len]; omega), List.set_eq_of_length_le (by omega)]
theorem bools_take (l : List Bool) (n : Nat) : (bools l).take n = bools (l.take n) := by simp [bools, List.map_take]
section
variable (s : Store) (d : Nat)
theorem vw_ints (l : List Int) : (ints l).map (fun cs => cs.map (vw s d)) = ints l := vw_map_int s d _ l
theorem vwc_ints (l : List Int) : (ints l).map (fun cs => cs.map (vwc s d)) = ints l := vwc_map_int s d _ l
theorem vwF_ints (l : List Int) : (ints l).map (fun cs => cs.map (vwF s d)) = ints l := vwF_map_int s d _ l
theorem vwcF_ints (l : List Int) : (ints l).map (fun cs => cs.map (vwcF s d)) = ints l := vwcF_map_int s d _ l
theorem vw_words (l : List Int) : (words l).map (fun cs => cs.map (vw s d)) = words l := vw_map_int s d _ l
theorem vwc_words (l : List Int) : (words l).map (fun cs => cs.map (vwc s d)) = words l := vwc_map_int s d _ l
theorem vwF_words (l : List Int) : (words l).map (fun cs => cs.map (vwF s d)) = words l := vwF_map_int s d _ l
theorem vwcF_words (l : List Int) : (words l).map (fun cs => cs.map (vwcF s d)) = words l := vwcF_map_int s d _ l
theorem vwc_bools (l : List Bool) : (bools l).map (fun cs => cs.map (vwc s d)) = bools l := vwc_map_bool s d l
theorem vwcF_bools (l : List Bool) : (bools l).map (fun cs => cs.map (vwcF s d)) = bools l := vwcF_map_bool s d l
variable (m : Ref → Option Ref)
theorem ren_int (k : IntKind) (x : Int) : ren m d (.int k x) = .int k x := by cases d <;> rfl
theorem ren_bool (x : Bool) : ren m d (.bool x) = .bool x := by cases d <;> rfl
theorem ren_ints (l : List Int) : (ints l).map (fun row => row.map (ren m d)) = ints l := by simp [ints, ren_int]
theorem renC_ints (l : List Int) : (ints l).map (fun row => row.map (renC m d)) = ints l := by simp [ints, renC, ren_int]
theorem ren_words (l : List Int) : (words l).map (fun row => row.map (ren m d)) = words l := by simp [words, ren_int]
theorem renC_words (l : List Int) : (words l).map (fun row => row.map (renC m d)) = words l := by simp [words, renC, ren_int]
theorem ren_bools (l : List Bool) : (bools l).map (fun row => row.map (ren m d)) = bools l := by simp [bools, ren_bool]
theorem renC_bools (l : List Bool) : (bools l).map (fun row => row.map (renC m d)) = bools l := by simp [bools, renC, ren_bool]
end
attribute [go_sem] vw_ints vwc_ints vwF_ints vwcF_ints vw_words vwc_words vwF_words vwcF_words vwc_bools vwcF_bools ren_ints renC_ints ren_words renC_words ren_bools renC_bools
  ints_len ints_set ints_upd ints_take words_len words_set words_upd words_take bools_len bools_set bools_upd bools_take List.take_length Int.toNat_natCast List.length_map List.length_replicate Nat.sub_zero Nat.sub_self List.getD_nil
end Go.AM
namespace Go.AM
def noOslR {α : Type} (f : α → List AV) : Prop := ∀ x i sz q, (f x).getD i .any ≠ .osl sz q
theorem noOsl_map {α : Type} {f : α → List AV} (h : noOslR f) (l : List α) : noOsl (l.map f) := fun i j sz q e => by
  by_cases hi : i < l.length
  · rw [getV (List.getElem?_eq_getElem hi)] at e
    exact h _ _ _ _ e
  · have e0 : (l.map f).getD i [] = [] := by simp [List.getD_eq_getElem?_getD, List.getElem?_eq_none (by simpa using hi : l.length ≤ i)]
    rw [e0] at e
    simp at e
theorem noOslR_int (k : IntKind) : noOslR (α := Int) fun x : Int => [AV.int k x] := fun x i sz q e => by
  rcases i with _ | i <;> simp at e
theorem noOsl_ints (l : List Int) : noOsl (ints l) := noOsl_map (noOslR_int _) l
theorem ints_app (l : List Int) (x : Int) : ints l ++ [[.int .i64 x]] = ints (l ++ [x]) := by simp [ints]
theorem ints_get {l : List Int} {i : Nat} {x : Int} (h : l[i]? = some x) : (ints l).getD i [] = [.int .i64 x] := getV h
theorem ints_getD {l : List Int} {i : Nat} (h : i < l.length) : (ints l).getD i [] = [.int .i64 (l.getD i 0)] := by
  simp [ints, List.getD_eq_getElem?_getD, h]
theorem mem_getD {α : Type} {l : List α} {i : Nat} (h : i < l.length) (d : α) : l.getD i d ∈ l := by
  rw [List.getD_eq_getElem?_getD, List.getElem?_eq_getElem h]; exact List.getElem_mem h
theorem getD_of {α : Type} {l : List α} {i : Nat} {x : α} (h : l[i]? = some x) (d : α) : l.getD i d = x := by
  rw [List.getD_eq_getElem?_getD, h]; rfl
theorem scP_ints (l : List Int) : scP (ints l) := fun cs h a ha => by
  simp only [ints, List.mem_map] at h
  obtain ⟨x, _, rfl⟩ := h
  simp at ha; subst ha; rfl
theorem scP_words (l : List Int) : scP (words l) := fun cs h a ha => by
  simp only [words, List.mem_map] at h
  obtain ⟨x, _, rfl⟩ := h
  simp at ha; subst ha; rfl
theorem scP_bools (l : List Bool) : scP (bools l) := fun cs h a ha => by
  simp only [bools, List.mem_map] at h
  obtain ⟨x, _, rfl⟩ := h
  simp at ha; subst ha; rfl
def pairV (p : Int × Int) : List AV := [.int .i64 p.1, .int .i64 p.2]
theorem vwc_pairs (s : Store) (d : Nat) (l : List (Int × Int)) : (l.map pairV).map (fun cs => cs.map (vwc s d)) = l.map pairV := by simp [pairV, vwc_int]
theorem vwcF_pairs (s : Store) (d : Nat) (l : List (Int × Int)) : (l.map pairV).map (fun cs => cs.map (vwcF s d)) = l.map pairV := by simp [pairV, vwcF_int]
theorem renC_pairs (m : Ref → Option Ref) (d : Nat) (l : List (Int × Int)) : (l.map pairV).map (fun cs => cs.map (renC m d)) = l.map pairV := by simp [pairV, renC, ren_int]
attribute [go_sem] vwc_pairs vwcF_pairs renC_pairs
theorem noOsl_words (l : List Int) : noOsl (words l) := noOsl_map (noOslR_int _) l
end Go.AM

/- Sets as words. -/
namespace Go.AM
theorem eqL_len {a b : List Int} (h : a.length ≠ b.length) : (a == b) = false := by
  rw [beq_eq_false_iff_ne]; exact fun e => h (by rw [e])
theorem eqL_ne {a b : List Int} {j : Nat} {x y : Int} (ha : a[j]? = some x) (hb : b[j]? = some y) (h : x ≠ y) : (a == b) = false := by
  rw [beq_eq_false_iff_ne]; intro e; subst e; rw [ha] at hb; exact h (Option.some.inj hb)
theorem take_succ_eq {a b : List Int} {j : Nat} {x : Int} (ha : a[j]? = some x) (hb : b[j]? = some x) (h : a.take j = b.take j) : a.take (j + 1) = b.take (j + 1) := by
  obtain ⟨h1, h2⟩ := List.getElem?_eq_some_iff.1 ha
  obtain ⟨h3, h4⟩ := List.getElem?_eq_some_iff.1 hb
  rw [List.take_succ_eq_append_getElem h1, List.take_succ_eq_append_getElem h3, h, h2, h4]
/-- A bit is set. -/
def setBit (W : List Int) (i : Int) : List Int := W.set (i.tdiv 64).toNat (bOr .u64 (W.getD (i.tdiv 64).toNat 0) (bShl .u64 1 (i.tmod 64)))
def wordsN (n : Int) : Int := (n + 64 - 1).tdiv 64
def ofW (n : Int) (l : List Int) : List Int := l.foldl setBit (List.replicate (wordsN n).toNat 0)
theorem wordsN_rng {n : Int} (h0 : 0 ≤ n) : 0 ≤ wordsN n ∧ n ≤ 64 * wordsN n ∧ 64 * wordsN n ≤ n + 63 := by
  unfold wordsN; rw [Int.tdiv_eq_ediv_of_nonneg (by omega)]; omega
theorem div64_rng {i n : Int} (h0 : 0 ≤ i) (h1 : i < n) : 0 ≤ i.tdiv 64 ∧ i.tdiv 64 < wordsN n ∧ 0 ≤ i.tmod 64 ∧ i.tmod 64 < 64 := by
  have := wordsN_rng (n := n) (by omega)
  rw [Int.tdiv_eq_ediv_of_nonneg h0, Int.tmod_eq_emod_of_nonneg h0]; omega
theorem ofW_len (n : Int) (l : List Int) : (ofW n l).length = (wordsN n).toNat := by
  unfold ofW
  generalize hW : List.replicate (wordsN n).toNat (0 : Int) = W
  have : W.length = (wordsN n).toNat := by rw [← hW]; simp
  clear hW
  induction l generalizing W with
  | nil => exact this
  | cons a l ih => exact ih (setBit W a) (by simp [setBit, this])
theorem ofW_succ {n : Int} {l : List Int} {j : Nat} {x : Int} (h : l[j]? = some x) : ofW n (l.take (j + 1)) = setBit (ofW n (l.take j)) x := by
  obtain ⟨hj, rfl⟩ := List.getElem?_eq_some_iff.1 h
  unfold ofW
  rw [List.take_succ_eq_append_getElem hj, List.foldl_append]; rfl
def setW (l : List Bool) (j : Nat) : List Int := (List.range j).foldl (fun W i => if l.getD i false = true then setBit W (i : Int) else W) (List.replicate (wordsN l.length).toNat 0)
theorem setW_succ (l : List Bool) (j : Nat) : setW l (j + 1) = if l.getD j false = true then setBit (setW l j) (j : Int) else setW l j := by
  unfold setW; rw [List.range_succ, List.foldl_append]; rfl
theorem setW_len (l : List Bool) (j : Nat) : (setW l j).length = (wordsN l.length).toNat := by
  induction j with
  | zero => simp [setW]
  | succ j ih => rw [setW_succ]; split <;> simp [setBit, ih]
def hasW (W : List Int) (i : Int) : Bool := decide ((bShr .u64 (W.getD (i.tdiv 64).toNat 0) (i.tmod 64)).tmod 2 = 1)
def okW (W : List Int) : Prop := ∀ i, 0 ≤ W.getD i 0 ∧ W.getD i 0 < 18446744073709551616
theorem bShr_nat {w k : Nat} (hk : k < 64) : bShr .u64 (w : Int) (k : Int) = ((w >>> k : Nat) : Int) := by
  unfold bShr
  have : min (k : Int).toNat IntKind.u64.bits = k := by simp [IntKind.bits]; omega
  rw [this, Nat.shiftRight_eq_div_pow, Int.fdiv_eq_ediv_of_nonneg _ (by exact_mod_cast Nat.zero_le _)]
  norm_cast
theorem hasW_bit {W : List Int} {i : Int} (h0 : 0 ≤ i) (hW : 0 ≤ W.getD (i.tdiv 64).toNat 0) : hasW W i = (W.getD (i.tdiv 64).toNat 0).toNat.testBit (i.toNat % 64) := by
  unfold hasW
  obtain ⟨w, hw⟩ : ∃ w : Nat, W.getD (i.tdiv 64).toNat 0 = w := ⟨_, (Int.toNat_of_nonneg hW).symm⟩
  obtain ⟨m, rfl⟩ : ∃ m : Nat, i = m := ⟨_, (Int.toNat_of_nonneg h0).symm⟩
  have e : (m : Int).tmod 64 = ((m % 64 : Nat) : Int) := by rw [Int.tmod_eq_emod_of_nonneg (by omega)]; rfl
  rw [hw, e, bShr_nat (by omega), Int.toNat_natCast, Int.toNat_natCast, Nat.testBit_eq_decide_div_mod_eq, Nat.shiftRight_eq_div_pow]
  generalize w / 2 ^ (m % 64) = d
  rw [Int.tmod_eq_emod_of_nonneg (by omega)]
  congr 1
  apply propext
  omega
theorem bOr_nat {a b : Nat} (ha : a < 18446744073709551616) (hb : b < 18446744073709551616) : bOr .u64 (a : Int) (b : Int) = ((a ||| b : Nat) : Int) := by
  unfold bOr
  have e : (BitVec.ofInt IntKind.u64.bits (a : Int) ||| BitVec.ofInt IntKind.u64.bits (b : Int)).toNat = a ||| b := by
    show (BitVec.ofInt 64 (a : Int) ||| BitVec.ofInt 64 (b : Int) : BitVec 64).toNat = _
    rw [BitVec.toNat_or, BitVec.ofInt_natCast, BitVec.ofInt_natCast, BitVec.toNat_ofNat, BitVec.toNat_ofNat, Nat.mod_eq_of_lt (by omega), Nat.mod_eq_of_lt (by omega)]
  rw [e]
  have : a ||| b < 2 ^ 64 := Nat.or_lt_two_pow (by omega) (by omega)
  simp [IntKind.wrap, IntKind.signed, IntKind.bits]
  omega
theorem bShl_nat {k : Nat} (hk : k < 64) : bShl .u64 1 (k : Int) = ((2 ^ k : Nat) : Int) := by
  unfold bShl
  have : min (k : Int).toNat IntKind.u64.bits = k := by simp [IntKind.bits]; omega
  rw [this]
  have h : (2 : Nat) ^ k < 2 ^ 64 := Nat.pow_lt_pow_right (by decide) hk
  have h2 : (1 : Int) * 2 ^ k = ((2 ^ k : Nat) : Int) := by rw [Int.one_mul]; norm_cast
  rw [h2]
  generalize 2 ^ k = p at h ⊢
  have h3 : p < 18446744073709551616 := by simpa using h
  simp [IntKind.wrap, IntKind.signed, IntKind.bits]
  omega
theorem okW.set {W : List Int} (h : okW W) {i : Int} (h0 : 0 ≤ i) : okW (setBit W i) ∧ ∀ j : Int, 0 ≤ j → (j.tdiv 64).toNat < W.length → hasW (setBit W i) j = (decide (i = j) || hasW W j) := by
  have hq : (i.tmod 64) = ((i.toNat % 64 : Nat) : Int) := by rw [Int.tmod_eq_emod_of_nonneg h0]; omega
  generalize hk : (i.tdiv 64).toNat = k
  obtain ⟨w, hw⟩ : ∃ w : Nat, W.getD k 0 = w := ⟨_, (Int.toNat_of_nonneg (h k).1).symm⟩
  have hw2 : w < 18446744073709551616 := by have := (h k).2; omega
  have hp : 2 ^ (i.toNat % 64) < 18446744073709551616 := by
    have : (2 : Nat) ^ (i.toNat % 64) < 2 ^ 64 := Nat.pow_lt_pow_right (by decide) (Nat.mod_lt _ (by decide))
    simpa using this
  have hv : bOr .u64 (W.getD k 0) (bShl .u64 1 (i.tmod 64)) = ((w ||| 2 ^ (i.toNat % 64) : Nat) : Int) := by
    rw [hq, hw, bShl_nat (Nat.mod_lt _ (by decide)), bOr_nat hw2 hp]
  have hor : w ||| 2 ^ (i.toNat % 64) < 18446744073709551616 := by
    have : w ||| 2 ^ (i.toNat % 64) < 2 ^ 64 := Nat.or_lt_two_pow (by omega) (by omega)
    simpa using this
  have hs : setBit W i = W.set k ((w ||| 2 ^ (i.toNat % 64) : Nat) : Int) := by unfold setBit; rw [hk, hv]
  have hok : okW (setBit W i) := by
    intro j
    rw [hs]
    by_cases hj : j = k ∧ k < W.length
    · rw [hj.1, List.getD_eq_getElem?_getD, List.getElem?_set_self hj.2]; simp; omega
    · have : (W.set k ((w ||| 2 ^ (i.toNat % 64) : Nat) : Int)).getD j 0 = W.getD j 0 := by
        rw [List.getD_eq_getElem?_getD, List.getD_eq_getElem?_getD]
        by_cases hjk : k = j
        · subst hjk
          rw [List.getElem?_eq_none (by simp; omega), List.getElem?_eq_none (by omega)]
        · rw [List.getElem?_set_ne hjk]
      rw [this]; exact h j
  refine ⟨hok, fun j hj hl => ?_⟩
  rw [hasW_bit hj (hok _).1, hasW_bit hj (h _).1]
  rw [hs]
  have hjq : (j.tdiv 64).toNat = j.toNat / 64 := by rw [Int.tdiv_eq_ediv_of_nonneg hj]; omega
  have hiq : k = i.toNat / 64 := by rw [← hk, Int.tdiv_eq_ediv_of_nonneg h0]; omega
  rw [hjq] at hl ⊢
  by_cases hjk : j.toNat / 64 = k
  · rw [hjk] at hl ⊢
    rw [List.getD_eq_getElem?_getD, List.getElem?_set_self hl, Option.getD_some, Int.toNat_natCast, Nat.testBit_or, Nat.testBit_two_pow, hw, Int.toNat_natCast, Bool.or_comm]
    congr 1
    by_cases e : i = j
    · subst e; simp
    · have : i.toNat % 64 ≠ j.toNat % 64 := by omega
      simp [e, this]
  · rw [List.getD_eq_getElem?_getD, List.getElem?_set_ne (fun e => hjk e.symm), ← List.getD_eq_getElem?_getD]
    have e : i ≠ j := by rintro rfl; exact hjk hiq.symm
    simp [e]
theorem okW_zero (n : Nat) : okW (List.replicate n 0) := fun i => by
  rw [List.getD_eq_getElem?_getD, List.getElem?_replicate]; split <;> simp
theorem setW_has (b : List Bool) : ∀ j, j ≤ b.length → okW (setW b j) ∧ ∀ i : Nat, i < b.length → hasW (setW b j) i = (decide (i < j) && b.getD i false)
  | 0, _ => ⟨by unfold setW; exact okW_zero _, fun i hi => by
      have : hasW (List.replicate (wordsN b.length).toNat 0) i = false := by
        rw [hasW_bit (by omega) (okW_zero _ _).1]
        have : (List.replicate (wordsN b.length).toNat (0 : Int)).getD ((i : Int).tdiv 64).toNat 0 = 0 := by
          rw [List.getD_eq_getElem?_getD, List.getElem?_replicate]; split <;> rfl
        rw [this]; simp
      simpa [setW] using this⟩
  | j + 1, hj => by
    obtain ⟨h1, h2⟩ := setW_has b j (by omega)
    rw [setW_succ]
    by_cases hb : b.getD j false = true
    · rw [if_pos hb]
      obtain ⟨h3, h4⟩ := h1.set (i := (j : Int)) (by omega)
      refine ⟨h3, fun i hi => ?_⟩
      rw [h4 i (by omega) (by rw [setW_len]; have := div64_rng (i := (i : Int)) (n := b.length) (by omega) (by omega); omega), h2 i hi]
      by_cases e : j = i
      · subst e; rw [hb]; simp
      · have : ((j : Int) = (i : Int)) = False := by simp; omega
        simp only [this, decide_false, Bool.false_or]
        congr 1
        simp; omega
    · rw [if_neg hb]
      refine ⟨h1, fun i hi => ?_⟩
      rw [h2 i hi]
      by_cases e : j = i
      · subst e
        have : b.getD j false = false := by simpa using hb
        rw [this]; simp
      · congr 1
        simp; omega
theorem setW_mem {b : List Bool} {i : Int} (h0 : 0 ≤ i) (h1 : i < b.length) : hasW (setW b b.length) i = b.getD i.toNat false := by
  obtain ⟨m, rfl⟩ : ∃ m : Nat, i = m := ⟨_, (Int.toNat_of_nonneg h0).symm⟩
  rw [(setW_has b b.length (Nat.le_refl _)).2 m (by omega)]
  have : m < b.length := by omega
  simp [this]
theorem bAnd_nat {a b : Nat} (ha : a < 18446744073709551616) (hb : b < 18446744073709551616) : bAnd .u64 (a : Int) (b : Int) = ((a &&& b : Nat) : Int) := by
  unfold bAnd
  have e : (BitVec.ofInt IntKind.u64.bits (a : Int) &&& BitVec.ofInt IntKind.u64.bits (b : Int)).toNat = a &&& b := by
    show (BitVec.ofInt 64 (a : Int) &&& BitVec.ofInt 64 (b : Int) : BitVec 64).toNat = _
    rw [BitVec.toNat_and, BitVec.ofInt_natCast, BitVec.ofInt_natCast, BitVec.toNat_ofNat, BitVec.toNat_ofNat, Nat.mod_eq_of_lt (by omega), Nat.mod_eq_of_lt (by omega)]
  rw [e]
  have : a &&& b < 2 ^ 64 := Nat.and_lt_two_pow _ (by omega)
  simp [IntKind.wrap, IntKind.signed, IntKind.bits]
  omega
/-- A bit, as the program asks for it. -/
def bitW (M i : Int) : Int := bAnd .u64 (bShr .u64 M i) 1
theorem bitW_nat {m i : Nat} (hm : m < 18446744073709551616) (hi : i < 64) : bitW m i = if m.testBit i then 1 else 0 := by
  unfold bitW
  have hs : m >>> i ≤ m := by rw [Nat.shiftRight_eq_div_pow]; exact Nat.div_le_self _ _
  rw [bShr_nat hi, show (1 : Int) = ((1 : Nat) : Int) from rfl, bAnd_nat (by omega) (by decide), Nat.and_one_is_mod, Nat.testBit_eq_decide_div_mod_eq, Nat.shiftRight_eq_div_pow]
  generalize m / 2 ^ i = d
  rcases Nat.mod_two_eq_zero_or_one d with h | h <;> simp [h]
theorem setW_hasA (b : List Bool) : ∀ j, j ≤ b.length → okW (setW b j) ∧ ∀ i : Nat, ((i : Int).tdiv 64).toNat < (wordsN b.length).toNat → hasW (setW b j) i = (decide (i < j) && b.getD i false)
  | 0, _ => ⟨by unfold setW; exact okW_zero _, fun i hi => by
      have : hasW (List.replicate (wordsN b.length).toNat 0) i = false := by
        rw [hasW_bit (by omega) (okW_zero _ _).1]
        have : (List.replicate (wordsN b.length).toNat (0 : Int)).getD ((i : Int).tdiv 64).toNat 0 = 0 := by
          rw [List.getD_eq_getElem?_getD, List.getElem?_replicate]; split <;> rfl
        rw [this]; simp
      simpa [setW] using this⟩
  | j + 1, hj => by
    obtain ⟨h1, h2⟩ := setW_hasA b j (by omega)
    rw [setW_succ]
    by_cases hb : b.getD j false = true
    · rw [if_pos hb]
      obtain ⟨h3, h4⟩ := h1.set (i := (j : Int)) (by omega)
      refine ⟨h3, fun i hi => ?_⟩
      rw [h4 i (by omega) (by rw [setW_len]; exact hi), h2 i hi]
      by_cases e : j = i
      · subst e; rw [hb]; simp
      · have : ((j : Int) = (i : Int)) = False := by simp; omega
        simp only [this, decide_false, Bool.false_or]
        congr 1
        simp; omega
    · rw [if_neg hb]
      refine ⟨h1, fun i hi => ?_⟩
      rw [h2 i hi]
      by_cases e : j = i
      · subst e
        have : b.getD j false = false := by simpa using hb
        rw [this]; simp
      · congr 1
        simp; omega
theorem bit_hasW {W : List Int} (hW : okW W) {i : Int} (h0 : 0 ≤ i) : decide (bAnd .u64 (bShr .u64 (W.getD (i.tdiv 64).toNat 0) (i.tmod 64)) 1 = 1) = hasW W i := by
  rw [hasW_bit h0 (hW _).1]
  obtain ⟨w, hw⟩ : ∃ w : Nat, W.getD (i.tdiv 64).toNat 0 = w := ⟨_, (Int.toNat_of_nonneg (hW _).1).symm⟩
  have hw2 := (hW (i.tdiv 64).toNat).2
  rw [hw] at hw2 ⊢
  have e : i.tmod 64 = ((i.toNat % 64 : Nat) : Int) := by rw [Int.tmod_eq_emod_of_nonneg h0]; omega
  have := bitW_nat (m := w) (i := i.toNat % 64) (by omega) (Nat.mod_lt _ (by decide))
  unfold bitW at this
  rw [e, this, Int.toNat_natCast]
  cases w.testBit (i.toNat % 64) <;> simp
def topB (N : Int) (W : List Int) : Bool := decide (N.tmod 64 = 0) || decide (bShr .u64 (W.getD (W.length - 1) 0) (N.tmod 64) = 0)
def validS (N : Int) (W : List Int) : Bool := decide (0 ≤ N) && decide (N ≤ 512) && decide ((W.length : Int) = wordsN N) && topB N W
theorem validS_sz {N : Int} {W : List Int} (h : validS N W = true) : 0 ≤ N ∧ N ≤ 512 ∧ (W.length : Int) = wordsN N := by
  simp only [validS, Bool.and_eq_true, decide_eq_true_eq] at h; exact ⟨h.1.1.1, h.1.1.2, h.1.2⟩
/-- Who says that a member is one. -/
def memS (N : Int) (W : List Int) (i : Int) : Bool := validS N W && decide (0 ≤ i) && decide (i < N) && hasW W i
theorem wordsN_ref (N : Int) : (N + 63).tdiv 64 = wordsN N := by unfold wordsN; congr 1; omega
theorem top_ix {N : Int} {W : List Int} (h0 : 0 ≤ N) (hl : (W.length : Int) = wordsN N) (hm : N.tmod 64 ≠ 0) : (N.tdiv 64).toNat = W.length - 1 ∧ N.tdiv 64 < W.length := by
  unfold wordsN at hl
  rw [Int.tdiv_eq_ediv_of_nonneg (by omega)] at hl ⊢
  rw [Int.tmod_eq_emod_of_nonneg h0] at hm
  omega
theorem shr_zero {w k : Nat} (h : ∀ i, k ≤ i → w.testBit i = false) : w >>> k = 0 := by
  refine Nat.eq_of_testBit_eq fun i => ?_
  rw [Nat.testBit_shiftRight, Nat.zero_testBit]
  exact h _ (by omega)
theorem validS_setW {b : List Bool} (hb : b.length ≤ 512) : validS b.length (setW b b.length) = true := by
  obtain ⟨ho, hh⟩ := setW_hasA b b.length (Nat.le_refl _)
  have hwn := wordsN_rng (n := (b.length : Int)) (by omega)
  have hl := setW_len b b.length
  simp only [validS, Bool.and_eq_true, decide_eq_true_eq]
  refine ⟨⟨⟨by omega, by omega⟩, by rw [hl]; omega⟩, ?_⟩
  simp only [topB, Bool.or_eq_true, decide_eq_true_eq]
  by_cases hm : (b.length : Int).tmod 64 = 0
  · exact .inl hm
  · right
    have hix := top_ix (N := (b.length : Int)) (W := setW b b.length) (by omega) (by rw [hl]; omega) hm
    rw [Int.tmod_eq_emod_of_nonneg (by omega)] at hm ⊢
    rw [Int.tdiv_eq_ediv_of_nonneg (by omega)] at hix
    generalize hW : setW b b.length = W at *
    have hw := ho (W.length - 1)
    obtain ⟨w, hw1⟩ : ∃ w : Nat, W.getD (W.length - 1) 0 = w := ⟨_, (Int.toNat_of_nonneg hw.1).symm⟩
    rw [hw1] at hw ⊢
    rw [show ((b.length : Int) % 64) = ((b.length % 64 : Nat) : Int) by omega, bShr_nat (Nat.mod_lt _ (by decide)), shr_zero]
    · rfl
    · intro i hi
      by_cases h64 : i < 64
      · have hq : (((64 * (W.length - 1) + i : Nat) : Int).tdiv 64).toNat = W.length - 1 := by rw [Int.tdiv_eq_ediv_of_nonneg (by omega)]; omega
        have := hh (64 * (W.length - 1) + i) (by rw [hq]; omega)
        rw [hasW_bit (by omega) (by rw [hq, hw1]; omega), hq, hw1, Int.toNat_natCast, Int.toNat_natCast, show (64 * (W.length - 1) + i) % 64 = i by omega] at this
        rw [this]
        have : ¬ 64 * (W.length - 1) + i < b.length := by omega
        simp [this]
      · refine Nat.testBit_lt_two_pow (Nat.lt_of_lt_of_le (m := 2 ^ 64) (by simp only [zP]; omega) (Nat.pow_le_pow_right (by decide) (by omega)))
end Go.AM

/- The first that a test finds. -/
namespace Go.AM
def ixf {α : Type} (p : α → Bool) (l : List α) : Int := if l.any p then (l.findIdx p : Nat) else -1
theorem ixf_at {α : Type} {p : α → Bool} {l : List α} {j : Nat} {x : α} (hx : l[j]? = some x) (hp : p x = true) (h : (l.take j).any p = false) : ixf p l = j := by
  obtain ⟨hj, rfl⟩ := List.getElem?_eq_some_iff.1 hx
  have h1 : l.any p = true := List.any_eq_true.2 ⟨_, List.getElem_mem hj, hp⟩
  unfold ixf
  rw [if_pos h1, (List.findIdx_eq hj).2 ⟨hp, fun i hi => ?_⟩]
  have : ¬ p (l[i]'(by omega)) = true := fun hh => by
    have : (l.take j).any p = true := List.any_eq_true.2 ⟨l[i]'(by omega), by rw [List.mem_take_iff_getElem]; exact ⟨i, by omega, rfl⟩, hh⟩
    rw [this] at h; cases h
  simpa using this
theorem ixf_none {α : Type} {p : α → Bool} {l : List α} (h : l.any p = false) : ixf p l = -1 := by unfold ixf; rw [if_neg (by rw [h]; simp)]
theorem any_take_succ {α : Type} {p : α → Bool} {l : List α} {j : Nat} {x : α} (hx : l[j]? = some x) : (l.take (j + 1)).any p = ((l.take j).any p || p x) := by
  obtain ⟨hj, rfl⟩ := List.getElem?_eq_some_iff.1 hx
  rw [List.take_succ_eq_append_getElem hj, List.any_append]; simp
theorem ixf_ge {α : Type} (p : α → Bool) (l : List α) : (decide (0 ≤ ixf p l)) = l.any p := by
  unfold ixf
  cases h : l.any p <;> simp
theorem ixf_lt {α : Type} (p : α → Bool) (l : List α) : -1 ≤ ixf p l ∧ ixf p l ≤ l.length := by
  unfold ixf; split
  · have := List.findIdx_le_length (p := p) (xs := l); omega
  · omega
end Go.AM

/- Sets as words, and as lists of truths. -/
namespace Go.AM
theorem getD_ext {a b : List Int} (hl : a.length = b.length) (h : ∀ k, k < a.length → a.getD k 0 = b.getD k 0) : a = b := by
  refine List.ext_getElem hl fun i h1 h2 => ?_
  have := h i h1
  simpa [List.getD_eq_getElem?_getD, h1, h2] using this
theorem getD_extB {a b : List Bool} (hl : a.length = b.length) (h : ∀ k, k < a.length → a.getD k false = b.getD k false) : a = b := by
  refine List.ext_getElem hl fun i h1 h2 => ?_
  have := h i h1
  simpa [List.getD_eq_getElem?_getD, h1, h2] using this
theorem tdiv64 (i : Nat) : ((i : Int).tdiv 64).toNat = i / 64 := by rw [Int.tdiv_eq_ediv_of_nonneg (by omega)]; omega
theorem hasW_nat {W : List Int} (hW : okW W) (i : Nat) : hasW W i = (W.getD (i / 64) 0).toNat.testBit (i % 64) := by
  rw [hasW_bit (by omega) (hW _).1, tdiv64, Int.toNat_natCast]
/-- Words are told by their bits. -/
theorem words_ext {a b : List Int} (ha : okW a) (hb : okW b) (hl : a.length = b.length) (h : ∀ i : Nat, i < 64 * a.length → hasW a i = hasW b i) : a = b := by
  refine getD_ext hl fun k hk => ?_
  have h1 := ha k
  have h2 := hb k
  have : (a.getD k 0).toNat = (b.getD k 0).toNat := by
    refine Nat.eq_of_testBit_eq fun i => ?_
    by_cases hi : i < 64
    · have := h (64 * k + i) (by omega)
      rw [hasW_nat ha, hasW_nat hb, show (64 * k + i) / 64 = k by omega, show (64 * k + i) % 64 = i by omega] at this
      exact this
    · have hp : 2 ^ 64 ≤ 2 ^ i := Nat.pow_le_pow_right (by decide) (by omega)
      simp only [zP] at hp
      rw [Nat.testBit_lt_two_pow (by omega), Nat.testBit_lt_two_pow (by omega)]
  omega
theorem setW_ok (b : List Bool) : okW (setW b b.length) := (setW_hasA b b.length (Nat.le_refl _)).1
theorem setW_len' (b : List Bool) : (setW b b.length).length = (wordsN b.length).toNat := setW_len b b.length
theorem hasW_setW (b : List Bool) {i : Nat} (hi : i / 64 < (setW b b.length).length) : hasW (setW b b.length) i = b.getD i false := by
  rw [setW_len'] at hi
  rw [(setW_hasA b b.length (Nat.le_refl _)).2 i (by rw [tdiv64]; exact hi)]
  by_cases h : i < b.length
  · simp [h]
  · rw [Go.AM.getD_out (by omega)]; simp
theorem div_words {n i : Nat} (h : i < n) : i / 64 < (wordsN n).toNat := by
  have := wordsN_rng (n := (n : Int)) (by omega)
  omega
/-- A valid set is that of its members. -/
theorem setW_of {N : Int} {W : List Int} (hW : okW W) (hv : validS N W = true) : ∃ b : List Bool, (b.length : Int) = N ∧ W = setW b b.length := by
  obtain ⟨h0, h1, h2⟩ := validS_sz hv
  have hwn := wordsN_rng (n := N) h0
  obtain ⟨b, hb⟩ : ∃ b : List Bool, b = (List.range N.toNat).map fun i => hasW W (i : Nat) := ⟨_, rfl⟩
  have hbl : b.length = N.toNat := by rw [hb]; simp
  have hbN : (b.length : Int) = N := by omega
  refine ⟨b, hbN, words_ext hW (setW_ok b) (by rw [setW_len', hbN]; omega) fun i hi => ?_⟩
  rw [hasW_setW b (by rw [setW_len', hbN]; omega)]
  by_cases h : i < N.toNat
  · rw [hb]; simp [List.getD_eq_getElem?_getD, h]
  · rw [Go.AM.getD_out (by omega), hasW_nat hW]
    simp only [validS, topB, Bool.and_eq_true, Bool.or_eq_true, decide_eq_true_eq] at hv
    have ht := hv.2
    by_cases hm : N.tmod 64 = 0
    · exfalso
      rw [Int.tmod_eq_emod_of_nonneg h0] at hm
      omega
    · have ht := ht.resolve_left hm
      have hix := top_ix h0 h2 hm
      rw [Int.tmod_eq_emod_of_nonneg h0] at hm ht
      have hw := hW (W.length - 1)
      rw [show N % 64 = ((N.toNat % 64 : Nat) : Int) by omega] at ht
      obtain ⟨w, hw1⟩ : ∃ w : Nat, W.getD (W.length - 1) 0 = w := ⟨_, (Int.toNat_of_nonneg hw.1).symm⟩
      rw [hw1, bShr_nat (Nat.mod_lt _ (by decide))] at ht
      rw [Int.tdiv_eq_ediv_of_nonneg h0] at hix
      have hq : i / 64 = W.length - 1 := by omega
      rw [hq, hw1, Int.toNat_natCast]
      have hz : w >>> (N.toNat % 64) = 0 := by exact_mod_cast ht
      have := congrArg (fun x => x.testBit (i % 64 - N.toNat % 64)) hz
      simp only [Nat.testBit_shiftRight, Nat.zero_testBit] at this
      rwa [show N.toNat % 64 + (i % 64 - N.toNat % 64) = i % 64 by omega] at this
theorem setBit_len (W : List Int) (i : Int) : (setBit W i).length = W.length := by simp [setBit]
theorem getD_setB (b : List Bool) (i j : Nat) (x : Bool) : (b.set i x).getD j false = if i = j ∧ i < b.length then x else b.getD j false := by
  by_cases h : i = j
  · subst h
    by_cases h2 : i < b.length
    · rw [Go.AM.getD_set_eq h2, if_pos ⟨rfl, h2⟩]
    · rw [List.set_eq_of_length_le (by omega), if_neg (by omega)]
  · rw [Go.AM.getD_set_ne h, if_neg (by rintro ⟨a, _⟩; exact h a)]
theorem setBit_setW (b : List Bool) {i : Nat} (h : i < b.length) : setBit (setW b b.length) (i : Int) = setW (b.set i true) b.length := by
  have h1 := (setW_ok b).set (i := (i : Int)) (by omega)
  have hl : (b.set i true).length = b.length := by simp
  have h2 := setW_ok (b.set i true)
  have h3 := fun (j : Nat) => hasW_setW (b.set i true) (i := j)
  have h4 := setW_len' (b.set i true)
  rw [hl] at h2 h3 h4
  refine words_ext h1.1 h2 (by rw [setBit_len, setW_len', h4]) fun j hj => ?_
  rw [setBit_len, setW_len'] at hj
  rw [h1.2 j (by omega) (by rw [tdiv64, setW_len']; omega), h3 _ (by omega), hasW_setW b (by rw [setW_len']; omega), getD_setB]
  by_cases e : i = j
  · subst e; simp [h]
  · have : ((i : Int) = (j : Int)) = False := by simp; omega
    simp [e, this]
theorem setW_zero (n : Nat) : setW (List.replicate n false) n = List.replicate (wordsN n).toNat 0 := by
  have hl : (List.replicate n false).length = n := by simp
  have h2 := setW_ok (List.replicate n false)
  have h3 := fun (j : Nat) => hasW_setW (List.replicate n false) (i := j)
  have h4 := setW_len' (List.replicate n false)
  rw [hl] at h2 h3 h4
  refine words_ext h2 (okW_zero _) (by rw [h4]; simp) fun j hj => ?_
  rw [h3 _ (by omega), hasW_nat (okW_zero _)]
  have e1 : (List.replicate n false).getD j false = false := by rw [List.getD_eq_getElem?_getD, List.getElem?_replicate]; split <;> rfl
  have e2 : (List.replicate (wordsN n).toNat (0 : Int)).getD (j / 64) 0 = 0 := by rw [List.getD_eq_getElem?_getD, List.getElem?_replicate]; split <;> rfl
  rw [e1, e2]; simp
/-- A word is made of two. -/
theorem zipW_get (f : Int → Int → Int) {A B : List Int} (hl : A.length = B.length) {k : Nat} (hk : k < A.length) : (List.zipWith f A B).getD k 0 = f (A.getD k 0) (B.getD k 0) := by
  simp [List.getD_eq_getElem?_getD, List.getElem?_zipWith, hk, show k < B.length by omega]
theorem zipB_get (f : Bool → Bool → Bool) {a b : List Bool} (hl : a.length = b.length) {k : Nat} (hk : k < a.length) : (List.zipWith f a b).getD k false = f (a.getD k false) (b.getD k false) := by
  simp [List.getD_eq_getElem?_getD, List.getElem?_zipWith, hk, show k < b.length by omega]
structure BitOp (f : Int → Int → Int) (g : Bool → Bool → Bool) : Prop where
  rng : ∀ a b : Int, 0 ≤ a → a < 18446744073709551616 → 0 ≤ b → b < 18446744073709551616 → 0 ≤ f a b ∧ f a b < 18446744073709551616
  bit : ∀ (a b : Int) (i : Nat), 0 ≤ a → a < 18446744073709551616 → 0 ≤ b → b < 18446744073709551616 → i < 64 → (f a b).toNat.testBit i = g (a.toNat.testBit i) (b.toNat.testBit i)
  zer : g false false = false
theorem zipW_setW {f : Int → Int → Int} {g : Bool → Bool → Bool} (hf : BitOp f g) {a b : List Bool} (hl : a.length = b.length) : List.zipWith f (setW a a.length) (setW b b.length) = setW (List.zipWith g a b) a.length := by
  have hzl : (List.zipWith g a b).length = a.length := by simp; omega
  have ha := setW_ok a
  have hb := setW_ok b
  have hla := setW_len' a
  have hlb := setW_len' b
  have h2 := setW_ok (List.zipWith g a b)
  have h3 := fun (j : Nat) => hasW_setW (List.zipWith g a b) (i := j)
  have h4 := setW_len' (List.zipWith g a b)
  rw [hzl] at h2 h3 h4
  have hll : (setW a a.length).length = (setW b b.length).length := by rw [hla, hlb, hl]
  have hok : okW (List.zipWith f (setW a a.length) (setW b b.length)) := fun k => by
    by_cases hk : k < (setW a a.length).length
    · rw [zipW_get f hll hk]
      exact hf.rng _ _ (ha k).1 (ha k).2 (hb k).1 (hb k).2
    · rw [Go.AM.getD_out (by simp; omega)]; simp
  refine words_ext hok h2 (by rw [List.length_zipWith, ← hll, hla, h4]; omega) fun i hi => ?_
  simp only [List.length_zipWith] at hi
  have hia : i / 64 < (setW a a.length).length := by omega
  rw [hasW_nat hok, zipW_get f hll hia, hf.bit _ _ _ (ha _).1 (ha _).2 (hb _).1 (hb _).2 (Nat.mod_lt _ (by decide)), ← hasW_nat ha, ← hasW_nat hb, hasW_setW a hia, hasW_setW b (by omega), h3 _ (by omega)]
  by_cases h : i < a.length
  · rw [zipB_get g hl h]
  · rw [Go.AM.getD_out (by omega), Go.AM.getD_out (by omega), Go.AM.getD_out (by omega), hf.zer]
theorem nat_of {a : Int} (h : 0 ≤ a) : ∃ n : Nat, a = n := ⟨a.toNat, by omega⟩
theorem bitOp_or : BitOp (bOr .u64) (· || ·) := by
  refine ⟨fun a b h1 h2 h3 h4 => ?_, fun a b i h1 h2 h3 h4 _ => ?_, rfl⟩
  · obtain ⟨m, rfl⟩ := nat_of h1; obtain ⟨n, rfl⟩ := nat_of h3
    rw [bOr_nat (by omega) (by omega)]
    have : m ||| n < 2 ^ 64 := Nat.or_lt_two_pow (by omega) (by omega)
    simp only [zP] at this; omega
  · obtain ⟨m, rfl⟩ := nat_of h1; obtain ⟨n, rfl⟩ := nat_of h3
    rw [bOr_nat (by omega) (by omega), Int.toNat_natCast, Nat.testBit_or]; rfl
theorem bitOp_and : BitOp (bAnd .u64) (· && ·) := by
  refine ⟨fun a b h1 h2 h3 h4 => ?_, fun a b i h1 h2 h3 h4 _ => ?_, rfl⟩
  · obtain ⟨m, rfl⟩ := nat_of h1; obtain ⟨n, rfl⟩ := nat_of h3
    rw [bAnd_nat (by omega) (by omega)]
    have : m &&& n < 2 ^ 64 := Nat.and_lt_two_pow _ (by omega)
    simp only [zP] at this; omega
  · obtain ⟨m, rfl⟩ := nat_of h1; obtain ⟨n, rfl⟩ := nat_of h3
    rw [bAnd_nat (by omega) (by omega), Int.toNat_natCast, Nat.testBit_and]; rfl
theorem bAndNot_bv {a b : Nat} (ha : a < 18446744073709551616) (hb : b < 18446744073709551616) : bAndNot .u64 (a : Int) (b : Int) = ((BitVec.ofNat 64 a &&& ~~~ BitVec.ofNat 64 b).toNat : Int) := by
  unfold bAndNot
  have e : (BitVec.ofInt IntKind.u64.bits (a : Int) &&& ~~~ BitVec.ofInt IntKind.u64.bits (b : Int)).toNat = (BitVec.ofNat 64 a &&& ~~~ BitVec.ofNat 64 b).toNat := by
    show (BitVec.ofInt 64 (a : Int) &&& ~~~ BitVec.ofInt 64 (b : Int) : BitVec 64).toNat = _
    rw [BitVec.ofInt_natCast, BitVec.ofInt_natCast]
  rw [e]
  have := (BitVec.ofNat 64 a &&& ~~~ BitVec.ofNat 64 b).isLt
  generalize (BitVec.ofNat 64 a &&& ~~~ BitVec.ofNat 64 b).toNat = x at *
  simp only [zP] at this
  simp [IntKind.wrap, IntKind.signed, IntKind.bits]
  omega
theorem bitOp_andNot : BitOp (bAndNot .u64) (fun x y => x && !y) := by
  refine ⟨fun a b h1 h2 h3 h4 => ?_, fun a b i h1 h2 h3 h4 hi => ?_, rfl⟩
  · obtain ⟨m, rfl⟩ := nat_of h1; obtain ⟨n, rfl⟩ := nat_of h3
    rw [bAndNot_bv (by omega) (by omega)]
    have := (BitVec.ofNat 64 m &&& ~~~ BitVec.ofNat 64 n).isLt
    simp only [zP] at this; omega
  · obtain ⟨m, rfl⟩ := nat_of h1; obtain ⟨n, rfl⟩ := nat_of h3
    rw [bAndNot_bv (by omega) (by omega), Int.toNat_natCast, BitVec.testBit_toNat, BitVec.getLsbD_and, BitVec.getLsbD_not, BitVec.getLsbD_ofNat, BitVec.getLsbD_ofNat]
    simp [hi]
end Go.AM

/- Relations as tables of truths. -/
namespace Go.AM
def rowV (x : USet) : List AV := [.int .i64 x.N, .rsl 1 (words x.W)]
def rowB (b : List Bool) : List AV := [.int .i64 b.length, .rsl 1 (words (setW b b.length))]
def rowO (b : List Bool) : List AV := [.int .i64 b.length, .osl 1 (words (setW b b.length))]
def tabR (t : List (List Bool)) : List (List AV) := t.map rowB
def tabO (t : List (List Bool)) : List (List AV) := t.map rowO
def SB (b : List Bool) : USet := ⟨b.length, setW b b.length⟩
theorem tabR_SB (t : List (List Bool)) : tabR t = (t.map SB).map rowV := by simp [tabR, rowB, SB, rowV]
def relB (t : List (List Bool)) : AV := .agg [.rsl 2 (tabR t)]
def relV (rs : List USet) : AV := .agg [.rsl 2 (rs.map rowV)]
theorem relB_SB (t : List (List Bool)) : relB t = relV (t.map SB) := by rw [relB, relV, tabR_SB]
structure Sq (n : Nat) (t : List (List Bool)) : Prop where
  len : t.length = n
  row : ∀ b ∈ t, b.length = n
def rowT (t : List (List Bool)) (i : Nat) : List Bool := t.getD i []
def atT (t : List (List Bool)) (i j : Nat) : Bool := (rowT t i).getD j false
theorem Sq.rowLen {n : Nat} {t : List (List Bool)} (h : Sq n t) {i : Nat} (hi : i < n) : (rowT t i).length = n := h.row _ (mem_getD (by rw [h.len]; exact hi) _)
theorem Sq.set {n : Nat} {t : List (List Bool)} (h : Sq n t) (i : Nat) {b : List Bool} (hb : b.length = n) : Sq n (t.set i b) :=
  ⟨by simp [h.len], fun c hc => by rcases List.mem_or_eq_of_mem_set hc with h1 | h1; exact h.row c h1; rw [h1, hb]⟩
theorem Sq.rep (n : Nat) : Sq n (List.replicate n (List.replicate n false)) := ⟨by simp, fun b hb => by rw [List.eq_of_mem_replicate hb]; simp⟩
theorem rowT_set (t : List (List Bool)) (i k : Nat) (b : List Bool) : rowT (t.set i b) k = if i = k ∧ i < t.length then b else rowT t k := by
  unfold rowT
  by_cases h : i = k
  · subst h
    by_cases h2 : i < t.length
    · rw [Go.AM.getD_set_eq h2, if_pos ⟨rfl, h2⟩]
    · rw [List.set_eq_of_length_le (by omega), if_neg (by omega)]
  · rw [Go.AM.getD_set_ne h, if_neg (by rintro ⟨a, _⟩; exact h a)]
theorem rowT_of {t : List (List Bool)} {i : Nat} {b : List Bool} (h : t[i]? = some b) : rowT t i = b := getD_of h _
theorem rowT_get {t : List (List Bool)} {i : Nat} (h : i < t.length) : t[i]? = some (rowT t i) := by unfold rowT; simp [List.getD_eq_getElem?_getD, h]
theorem atT_rep (n i j : Nat) : atT (List.replicate n (List.replicate n false)) i j = false := by
  unfold atT rowT
  rw [List.getD_eq_getElem?_getD (l := List.replicate n (List.replicate n false)), List.getElem?_replicate]
  split
  · simp only [Option.getD_some]; rw [List.getD_eq_getElem?_getD, List.getElem?_replicate]; split <;> rfl
  · rfl
theorem tab_ext {n : Nat} {t u : List (List Bool)} (ht : Sq n t) (hu : Sq n u) (h : ∀ i j, i < n → j < n → atT t i j = atT u i j) : t = u := by
  refine List.ext_getElem (by rw [ht.len, hu.len]) fun i h1 h2 => ?_
  have hi : i < n := by rw [← ht.len]; exact h1
  have e1 : rowT t i = t[i] := rowT_of (List.getElem?_eq_getElem h1)
  have e2 : rowT u i = u[i] := rowT_of (List.getElem?_eq_getElem h2)
  rw [← e1, ← e2]
  refine getD_extB (by rw [ht.rowLen hi, hu.rowLen hi]) fun k hk => h i k hi (by rw [ht.rowLen hi] at hk; exact hk)
def validR (rs : List USet) : Bool := decide (rs.length ≤ 512) && rs.all fun x => decide (x.N = rs.length) && validS x.N x.W
theorem all_map {α β : Type} {f : α → β} {p : α → Prop} : ∀ {l : List β}, (∀ x ∈ l, ∃ a, x = f a ∧ p a) → ∃ m : List α, l = m.map f ∧ ∀ a ∈ m, p a
  | [], _ => ⟨[], rfl, fun _ h => by cases h⟩
  | x :: l, h => by
    obtain ⟨a, rfl, ha⟩ := h x (List.mem_cons_self ..)
    obtain ⟨m, rfl, hm⟩ := all_map fun y hy => h y (List.mem_cons_of_mem _ hy)
    exact ⟨a :: m, rfl, fun b hb => by rcases List.mem_cons.1 hb with rfl | hb; exact ha; exact hm b hb⟩
/-- A valid relation is a table. -/
theorem rel_of {rs : List USet} (hok : ∀ x ∈ rs, okW x.W) (hv : validR rs = true) : ∃ t, rs = t.map SB ∧ Sq rs.length t ∧ rs.length ≤ 512 := by
  simp only [validR, Bool.and_eq_true, decide_eq_true_eq, List.all_eq_true] at hv
  obtain ⟨h1, h2⟩ := hv
  obtain ⟨t, ht, hb⟩ := all_map (f := SB) (p := fun b => b.length = rs.length) (l := rs) fun x hx => by
    obtain ⟨b, g1, g2⟩ := setW_of (hok x hx) (h2 x hx).2
    have := (h2 x hx).1
    refine ⟨b, ?_, by omega⟩
    obtain ⟨N, W⟩ := x
    simp only [SB] at *
    rw [g1, g2]
  exact ⟨t, ht, ⟨by rw [ht]; simp, hb⟩, h1⟩
theorem valid_tab {n : Nat} {t : List (List Bool)} (h : Sq n t) (hn : n ≤ 512) : validR (t.map SB) = true := by
  simp only [validR, Bool.and_eq_true, decide_eq_true_eq, List.all_eq_true, List.length_map, h.len]
  refine ⟨hn, fun x hx => ?_⟩
  obtain ⟨b, hb, rfl⟩ := List.mem_map.1 hx
  have hbl := h.row b hb
  exact ⟨by simp [SB, hbl], validS_setW (by omega)⟩
section
variable (s : Store) (d : Nat) (m : Ref → Option Ref)
theorem vwc_tabO (t : List (List Bool)) : (tabO t).map (fun cs => cs.map (vwc s (d + 1))) = tabR t := by simp [tabO, tabR, rowO, rowB, vwc_osl, vwc_int, vw_words]
theorem vwcF_tabO (t : List (List Bool)) : (tabO t).map (fun cs => cs.map (vwcF s (d + 1))) = tabR t := by simp [tabO, tabR, rowO, rowB, vwcF_osl, vwcF_int, vwF_words]
theorem vwc_tabR (t : List (List Bool)) : (tabR t).map (fun cs => cs.map (vwc s d)) = tabR t := by simp [tabR, rowB, vwc_int, vwc_rsl]
theorem renC_tabO (t : List (List Bool)) : (tabO t).map (fun row => row.map (renC m d)) = tabO t := by simp [tabO, rowO, renC, ren_int, ren_words]
end
theorem tabO_len (t : List (List Bool)) : (tabO t).length = t.length := by simp [tabO]
theorem tabR_len (t : List (List Bool)) : (tabR t).length = t.length := by simp [tabR]
theorem tabO_get {t : List (List Bool)} {i : Nat} (h : i < t.length) : (tabO t).getD i [] = rowO (rowT t i) := getV (rowT_get h)
theorem tabR_get {t : List (List Bool)} {i : Nat} (h : i < t.length) : (tabR t).getD i [] = rowB (rowT t i) := getV (rowT_get h)
theorem tabO_set (t : List (List Bool)) (i : Nat) (b : List Bool) : (tabO t).set i (rowO b) = tabO (t.set i b) := by simp [tabO, List.map_set]
theorem tabO_app (t : List (List Bool)) (b : List Bool) : tabO t ++ [rowO b] = tabO (t ++ [b]) := by simp [tabO]
theorem hasW_row {b : List Bool} {j : Nat} (h : j < b.length) : hasW (setW b b.length) (j : Int) = b.getD j false := hasW_setW b (by rw [setW_len']; exact div_words h)
/-! ### Truths in rows, for the reference. -/
def rowsR (t : List (List Bool)) : List (List AV) := t.map fun b => [.rsl 1 (bools b)]
def rowsO (t : List (List Bool)) : List (List AV) := t.map fun b => [.osl 1 (bools b)]
section
variable (s : Store) (d : Nat) (m : Ref → Option Ref)
end
theorem rowsO_len (t : List (List Bool)) : (rowsO t).length = t.length := by simp [rowsO]
theorem rowsR_len (t : List (List Bool)) : (rowsR t).length = t.length := by simp [rowsR]
theorem rowsR_get {t : List (List Bool)} {i : Nat} (h : i < t.length) : (rowsR t).getD i [] = [.rsl 1 (bools (rowT t i))] := getV (f := fun b => [AV.rsl 1 (bools b)]) (rowT_get h)
theorem rowsO_app (t : List (List Bool)) (b : List Bool) : rowsO t ++ [[.osl 1 (bools b)]] = rowsO (t ++ [b]) := by simp [rowsO]
end Go.AM

/- What the relation program computes, over tables. -/
namespace Go.AM
def iter {α : Type} (f : Nat → α → α) : Nat → α → α
  | 0, x => x
  | m + 1, x => f m (iter f m x)
theorem iter_succ {α : Type} (f : Nat → α → α) (m : Nat) (x : α) : iter f (m + 1) x = f m (iter f m x) := rfl
theorem iter_inv {α : Type} {f : Nat → α → α} {p : α → Prop} {n : Nat} (hf : ∀ i x, i < n → p x → p (f i x)) : ∀ m x, m ≤ n → p x → p (iter f m x)
  | 0, _, _, h => h
  | m + 1, x, hm, h => hf m _ (by omega) (iter_inv hf m x (by omega) h)
def orRow (t : List (List Bool)) (i : Nat) (b : List Bool) : List (List Bool) := t.set i (List.zipWith (· || ·) (rowT t i) b)
theorem Sq.orRow {n : Nat} {t : List (List Bool)} (h : Sq n t) {i : Nat} (hi : i < n) {b : List Bool} (hb : b.length = n) : Sq n (orRow t i b) :=
  h.set i (by have := h.rowLen hi; simp; omega)
def warshI (k i : Nat) (t : List (List Bool)) : List (List Bool) := if atT t i k then orRow t i (rowT t k) else t
theorem warshI_eq (k i : Nat) (t : List (List Bool)) : warshI k i t = if atT t i k then orRow t i (rowT t k) else t := rfl
theorem Sq.warshI {n : Nat} {t : List (List Bool)} (h : Sq n t) {k i : Nat} (hk : k < n) (hi : i < n) : Sq n (warshI k i t) := by
  unfold AM.warshI; split
  · exact h.orRow hi (h.rowLen hk)
  · exact h
def warshK (n k : Nat) (t : List (List Bool)) : List (List Bool) := iter (warshI k) n t
theorem Sq.warshK' {n : Nat} {t : List (List Bool)} (h : Sq n t) {k : Nat} (hk : k < n) {m : Nat} (hm : m ≤ n) : Sq n (iter (AM.warshI k) m t) := iter_inv (n := n) (fun i x hi hx => hx.warshI hk hi) m t hm h
theorem Sq.warshK {n : Nat} {t : List (List Bool)} (h : Sq n t) {k : Nat} (hk : k < n) : Sq n (warshK n k t) := h.warshK' hk (Nat.le_refl _)
def warsh (n : Nat) (t : List (List Bool)) : List (List Bool) := iter (warshK n) n t
theorem Sq.warsh' {n : Nat} {t : List (List Bool)} (h : Sq n t) {m : Nat} (hm : m ≤ n) : Sq n (iter (AM.warshK n) m t) := iter_inv (n := n) (fun i x hi hx => hx.warshK hi) m t hm h
theorem Sq.warsh {n : Nat} {t : List (List Bool)} (h : Sq n t) : Sq n (warsh n t) := h.warsh' (Nat.le_refl _)
def zeroT (n : Nat) : List (List Bool) := List.replicate n (List.replicate n false)
def compI (a b : List (List Bool)) (i k : Nat) (t : List (List Bool)) : List (List Bool) := if atT a i k then orRow t i (rowT b k) else t
def compT (n : Nat) (a b : List (List Bool)) : List (List Bool) := iter (fun i t => iter (compI a b i) n t) n (zeroT n)
theorem compI_eq (a b : List (List Bool)) (i k : Nat) (t : List (List Bool)) : compI a b i k t = if atT a i k then orRow t i (rowT b k) else t := rfl
theorem Sq.compI {n : Nat} {a b t : List (List Bool)} (hb : Sq n b) (h : Sq n t) {i k : Nat} (hi : i < n) (hk : k < n) : Sq n (compI a b i k t) := by
  unfold AM.compI; split
  · exact h.orRow hi (hb.rowLen hk)
  · exact h
theorem Sq.compK {n : Nat} {a b t : List (List Bool)} (hb : Sq n b) (h : Sq n t) {i : Nat} (hi : i < n) {m : Nat} (hm : m ≤ n) : Sq n (iter (AM.compI a b i) m t) := iter_inv (p := Sq n) (n := n) (fun k x hk hx => Sq.compI hb hx hi hk) m t hm h
theorem Sq.comp' {n : Nat} {a b : List (List Bool)} (hb : Sq n b) {m : Nat} (hm : m ≤ n) : Sq n (iter (fun i t => iter (AM.compI a b i) n t) m (zeroT n)) := iter_inv (p := Sq n) (n := n) (fun i x hi hx => Sq.compK hb hx hi (Nat.le_refl _)) m _ hm (Sq.rep n)
theorem Sq.comp {n : Nat} {a b : List (List Bool)} (hb : Sq n b) : Sq n (compT n a b) := Sq.comp' hb (Nat.le_refl _)
def rowPairs (t : List (List Bool)) (i m : Nat) : List (Int × Int) := ((List.range m).filter fun j => atT t i j).map fun (j : Nat) => ((i : Int), (j : Int))
theorem rowPairs_succ (t : List (List Bool)) (i m : Nat) : rowPairs t i (m + 1) = if atT t i m then rowPairs t i m ++ [((i : Int), (m : Int))] else rowPairs t i m := by
  unfold rowPairs
  rw [List.range_succ, List.filter_append, List.map_append]
  by_cases h : atT t i m = true
  · rw [if_pos h]; simp [List.filter_cons, h]
  · rw [if_neg h]; simp [List.filter_cons, h]
theorem rowPairs_le (t : List (List Bool)) (i m : Nat) : (rowPairs t i m).length ≤ m := by
  unfold rowPairs
  have := List.length_filter_le (fun j => atT t i j) (List.range m)
  simp at this ⊢; exact this
def pairsAt (t : List (List Bool)) (n i : Nat) : List (Int × Int) := (List.range i).flatMap fun i => rowPairs t i n
def pairsT (t : List (List Bool)) (n : Nat) : List (Int × Int) := pairsAt t n n
theorem pairsAt_succ (t : List (List Bool)) (n i : Nat) : pairsAt t n (i + 1) = pairsAt t n i ++ rowPairs t i n := by
  unfold pairsAt; rw [List.range_succ, List.flatMap_append]; simp
theorem pairsAt_le (t : List (List Bool)) (n : Nat) : ∀ i, (pairsAt t n i).length ≤ n * i
  | 0 => by simp [pairsAt]
  | i + 1 => by
    have ih := pairsAt_le t n i
    have := rowPairs_le t i n
    rw [pairsAt_succ, List.length_append, Nat.mul_add]; omega
theorem pairsT_mem {t : List (List Bool)} {n : Nat} {p : Int × Int} : p ∈ pairsT t n ↔ ∃ i j : Nat, p = ((i : Int), (j : Int)) ∧ i < n ∧ j < n ∧ atT t i j = true := by
  simp only [pairsT, pairsAt, rowPairs, List.mem_flatMap, List.mem_map, List.mem_filter, List.mem_range]
  constructor
  · rintro ⟨i, hi, j, ⟨hj, h⟩, rfl⟩; exact ⟨i, j, rfl, hi, hj, h⟩
  · rintro ⟨i, j, rfl, hi, hj, h⟩; exact ⟨i, hi, j, ⟨hj, h⟩, rfl⟩
theorem pairs_app (l : List (Int × Int)) (a b : Int) : l.map pairV ++ [[.int .i64 a, .int .i64 b]] = (l ++ [(a, b)]).map pairV := by simp [pairV]
/-- A table half copied. -/
def fillT (t : List (List Bool)) (n i : Nat) : List (List Bool) := t.take i ++ List.replicate (n - i) (List.replicate n false)
theorem fillT_zero (t : List (List Bool)) (n : Nat) : fillT t n 0 = zeroT n := by simp [fillT, zeroT]
theorem fillT_all {n : Nat} {t : List (List Bool)} (h : Sq n t) : fillT t n n = t := by
  unfold fillT; rw [List.take_of_length_le (by rw [h.len]; exact Nat.le_refl _)]; simp
theorem fillT_succ {n : Nat} {t : List (List Bool)} (h : Sq n t) {i : Nat} (hi : i < n) : (fillT t n i).set i (rowT t i) = fillT t n (i + 1) := by
  unfold fillT
  have hl : (t.take i).length = i := by have := h.len; simp; omega
  rw [List.set_append_right _ _ (by omega), hl, Nat.sub_self, show n - i = (n - (i + 1)) + 1 by omega, List.replicate_succ, List.set_cons_zero, List.take_succ_eq_append_getElem (i := i) (by rw [h.len]; exact hi)]
  have : rowT t i = t[i]'(by rw [h.len]; exact hi) := rowT_of (List.getElem?_eq_getElem _)
  rw [this, List.append_assoc]; rfl
theorem fillT_sq {n : Nat} {t : List (List Bool)} (h : Sq n t) {i : Nat} (hi : i ≤ n) : Sq n (fillT t n i) := by
  refine ⟨by have := h.len; simp [fillT]; omega, fun b hb => ?_⟩
  unfold fillT at hb
  rcases List.mem_append.1 hb with hb | hb
  · exact h.row b (List.mem_of_mem_take hb)
  · rw [List.eq_of_mem_replicate hb]; simp
theorem fillT_row {n : Nat} {t : List (List Bool)} (h : Sq n t) {i : Nat} (hi : i < n) : rowT (fillT t n i) i = List.replicate n false := by
  unfold rowT fillT
  have hl : (t.take i).length = i := by have := h.len; simp; omega
  rw [List.getD_eq_getElem?_getD, List.getElem?_append_right (by omega), hl, Nat.sub_self, List.getElem?_replicate, if_pos (by omega)]; rfl
theorem range_all_succ {p : Nat → Bool} (j : Nat) : (List.range (j + 1)).all p = ((List.range j).all p && p j) := by
  rw [List.range_succ, List.all_append]; simp
theorem range_all_false {p : Nat → Bool} {j m : Nat} (h : j < m) (hp : p j = false) : (List.range m).all p = false := by
  rw [List.all_eq_false]; exact ⟨j, List.mem_range.2 h, by simp [hp]⟩
def acyc (n : Nat) (t : List (List Bool)) : Bool := (List.range n).all fun i => !atT (warsh n t) i i
def putT (u : List (List Bool)) (i j : Nat) : List (List Bool) := u.set i ((rowT u i).set j true)
theorem Sq.putT {n : Nat} {u : List (List Bool)} (h : Sq n u) {i : Nat} (hi : i < n) (j : Nat) : Sq n (putT u i j) := h.set i (by have := h.rowLen hi; simp; exact this)
theorem atT_putT {n : Nat} {u : List (List Bool)} (h : Sq n u) {i j : Nat} (hi : i < n) (hj : j < n) (a b : Nat) : atT (putT u i j) a b = (decide (i = a ∧ j = b) || atT u a b) := by
  unfold atT AM.putT
  rw [rowT_set]
  have hl := h.len
  by_cases e : i = a
  · subst e
    rw [if_pos ⟨rfl, by omega⟩, getD_setB]
    have hr := h.rowLen hi
    by_cases e2 : j = b
    · subst e2; rw [if_pos ⟨rfl, by omega⟩]; simp
    · rw [if_neg (by rintro ⟨x, _⟩; exact e2 x)]; simp [e2]
  · rw [if_neg (by rintro ⟨x, _⟩; exact e x)]; simp [e]
def putL (u : List (List Bool)) (L : List (Int × Int)) : List (List Bool) := L.foldl (fun u p => putT u p.1.toNat p.2.toNat) u
def inP (n : Nat) (p : Int × Int) : Prop := 0 ≤ p.1 ∧ p.1 < n ∧ 0 ≤ p.2 ∧ p.2 < n
theorem Sq.putL {n : Nat} : ∀ (L : List (Int × Int)) {u : List (List Bool)}, Sq n u → (∀ p ∈ L, inP n p) → Sq n (putL u L)
  | [], _, h, _ => h
  | p :: L, u, h, hp => by
    have h1 := hp p (by simp)
    exact Sq.putL L (h.putT (i := p.1.toNat) (by unfold inP at h1; omega) _) fun q hq => hp q (by simp [hq])
theorem putL_snoc (u : List (List Bool)) (L : List (Int × Int)) (p : Int × Int) : putL u (L ++ [p]) = putT (putL u L) p.1.toNat p.2.toNat := by simp [putL]
theorem putL_take {u : List (List Bool)} {L : List (Int × Int)} {j : Nat} {p : Int × Int} (h : L[j]? = some p) : putL u (L.take (j + 1)) = putT (putL u (L.take j)) p.1.toNat p.2.toNat := by
  obtain ⟨hj, rfl⟩ := List.getElem?_eq_some_iff.1 h
  rw [List.take_succ_eq_append_getElem hj, putL_snoc]
theorem atT_putL {n : Nat} (a b : Nat) : ∀ (L : List (Int × Int)) {u : List (List Bool)}, Sq n u → (∀ p ∈ L, inP n p) → atT (putL u L) a b = (atT u a b || decide (((a : Int), (b : Int)) ∈ L))
  | [], _, _, _ => by simp [putL]
  | p :: L, u, h, hp => by
    have h1 := hp p (by simp)
    unfold inP at h1
    have := atT_putL a b L (h.putT (i := p.1.toNat) (by omega) p.2.toNat) fun q hq => hp q (by simp [hq])
    show atT (putL (putT u p.1.toNat p.2.toNat) L) a b = _
    rw [this, atT_putT h (by omega) (by omega)]
    obtain ⟨x, y⟩ := p
    simp only at h1 ⊢
    by_cases e : x.toNat = a ∧ y.toNat = b
    · have e2 : ((a : Int), (b : Int)) = (x, y) := by simp; omega
      simp [e, e2]
    · have e2 : ¬ ((a : Int), (b : Int)) = (x, y) := by simp; omega
      simp [e, e2]
def swapP (p : Int × Int) : Int × Int := (p.2, p.1)
theorem pairsT_in {t : List (List Bool)} {n : Nat} : ∀ p ∈ pairsT t n, inP n p := fun p hp => by
  obtain ⟨i, j, rfl, h1, h2, _⟩ := pairsT_mem.1 hp
  unfold inP; simp only; omega
def invT (n : Nat) (t : List (List Bool)) : List (List Bool) := putL (zeroT n) ((pairsT t n).map swapP)
theorem swap_in {n : Nat} {L : List (Int × Int)} (h : ∀ p ∈ L, inP n p) : ∀ p ∈ L.map swapP, inP n p := fun p hp => by
  obtain ⟨q, hq, rfl⟩ := List.mem_map.1 hp
  have := h q hq
  unfold inP swapP at *; simp only; omega
theorem Sq.inv {n : Nat} {t : List (List Bool)} : Sq n (invT n t) := Sq.putL _ (Sq.rep n) (swap_in pairsT_in)
theorem atT_inv {n : Nat} {t : List (List Bool)} {i j : Nat} (hi : i < n) (hj : j < n) : atT (invT n t) i j = atT t j i := by
  unfold invT
  rw [atT_putL (n := n) (u := zeroT n) i j _ (Sq.rep n) (swap_in pairsT_in)]
  have e : atT (zeroT n) i j = false := atT_rep n i j
  rw [e, Bool.false_or]
  cases h : atT t j i with
  | true =>
    rw [decide_eq_true_eq]
    exact List.mem_map.2 ⟨((j : Int), (i : Int)), pairsT_mem.2 ⟨j, i, rfl, hj, hi, h⟩, rfl⟩
  | false =>
    rw [decide_eq_false_iff_not]
    intro hm
    obtain ⟨q, hq, he⟩ := List.mem_map.1 hm
    obtain ⟨a, b, rfl, _, _, h2⟩ := pairsT_mem.1 hq
    simp only [swapP, Prod.mk.injEq] at he
    have : a = j ∧ b = i := by omega
    rw [this.1, this.2, h] at h2; cases h2
/-- Words that are made one after the other. -/
def mixW (f : Int → Int → Int) (A B Z : List Int) (k : Nat) : List Int := List.zipWith f (A.take k) (B.take k) ++ Z.drop k
theorem mixW_zero (f : Int → Int → Int) (A B Z : List Int) : mixW f A B Z 0 = Z := by simp [mixW]
theorem mixW_len {f : Int → Int → Int} {A B Z : List Int} (h : A.length = B.length) (h2 : Z.length = A.length) (k : Nat) : (mixW f A B Z k).length = A.length := by simp [mixW]; omega
theorem mixW_all {f : Int → Int → Int} {A B Z : List Int} (h : A.length = B.length) (h2 : Z.length = A.length) {k : Nat} (hk : A.length ≤ k) : mixW f A B Z k = List.zipWith f A B := by
  unfold mixW; rw [List.take_of_length_le hk, List.take_of_length_le (by omega), List.drop_of_length_le (by omega)]; simp
theorem mixW_succ {f : Int → Int → Int} {A B Z : List Int} (h : A.length = B.length) (h2 : Z.length = A.length) {j : Nat} (hj : j < A.length) : mixW f A B Z (j + 1) = (mixW f A B Z j).set j (f (A.getD j 0) (B.getD j 0)) := by
  unfold mixW
  have hl : (List.zipWith f (A.take j) (B.take j)).length = j := by simp; omega
  rw [List.set_append_right _ _ (Nat.le_of_eq hl), hl, Nat.sub_self, List.drop_eq_getElem_cons (show j < Z.length by omega), List.set_cons_zero, List.take_succ_eq_append_getElem hj, List.take_succ_eq_append_getElem (show j < B.length by omega), List.zipWith_append (by simp; omega)]
  simp [List.getD_eq_getElem?_getD, hj, show j < B.length by omega]
def andNotB (a b : List Bool) : List Bool := List.zipWith (fun x y => x && !y) a b
def redT (n : Nat) (t l : List (List Bool)) : List (List Bool) := (List.range n).map fun i => andNotB (rowT t i) (rowT l i)
theorem Sq.red {n : Nat} {t l : List (List Bool)} (ht : Sq n t) (hl : Sq n l) : Sq n (redT n t l) := by
  refine ⟨by simp [redT], fun b hb => ?_⟩
  simp only [redT, List.mem_map, List.mem_range] at hb
  obtain ⟨i, hi, rfl⟩ := hb
  have h1 := ht.rowLen hi
  have h2 := hl.rowLen hi
  simp [andNotB]; omega
theorem redT_row {n : Nat} {t l : List (List Bool)} {i : Nat} (hi : i < n) : rowT (redT n t l) i = andNotB (rowT t i) (rowT l i) := rowT_of (by simp [redT, hi])
theorem atT_red {n : Nat} {t l : List (List Bool)} (ht : Sq n t) (hl : Sq n l) {i j : Nat} (hi : i < n) (hj : j < n) : atT (redT n t l) i j = (atT t i j && !atT l i j) := by
  unfold atT
  rw [redT_row hi, andNotB, zipB_get _ (by rw [ht.rowLen hi, hl.rowLen hi]) (by rw [ht.rowLen hi]; exact hj)]
end Go.AM

/- More on tables: what the reference computes. -/
namespace Go.AM
/-- The composition, row by row. -/
def compRow (a b : List (List Bool)) (n i m : Nat) : List Bool := iter (fun k r => if atT a i k then List.zipWith (· || ·) r (rowT b k) else r) m (List.replicate n false)
theorem compRow_succ (a b : List (List Bool)) (n i m : Nat) : compRow a b n i (m + 1) = if atT a i m then List.zipWith (· || ·) (compRow a b n i m) (rowT b m) else compRow a b n i m := rfl
theorem compRow_len {n : Nat} {a b : List (List Bool)} (hb : Sq n b) (i : Nat) : ∀ m, m ≤ n → (compRow a b n i m).length = n
  | 0, _ => by simp [compRow, iter]
  | m + 1, h => by
    have ih := compRow_len hb (a := a) i m (by omega)
    have := hb.rowLen (i := m) (by omega)
    rw [compRow_succ]; split
    · simp; omega
    · exact ih
theorem compI_row {n : Nat} {a b t : List (List Bool)} (ht : Sq n t) {i : Nat} (hi : i < n) (hz : rowT t i = List.replicate n false) : ∀ m, m ≤ n → (∀ q, q ≠ i → rowT (iter (compI a b i) m t) q = rowT t q) ∧ rowT (iter (compI a b i) m t) i = compRow a b n i m ∧ (iter (compI a b i) m t).length = n
  | 0, _ => ⟨fun _ _ => rfl, hz, ht.len⟩
  | m + 1, h => by
    obtain ⟨h1, h2, h3⟩ := compI_row ht hi hz (a := a) (b := b) m (by omega)
    rw [iter_succ, compI_eq, compRow_succ]
    split
    · unfold orRow
      refine ⟨fun q hq => ?_, ?_, by simp [h3]⟩
      · rw [rowT_set, if_neg (by rintro ⟨e, _⟩; exact hq e.symm), h1 q hq]
      · rw [rowT_set, if_pos ⟨rfl, by omega⟩, h2]
    · exact ⟨h1, h2, h3⟩
theorem comp_rows {n : Nat} {a b : List (List Bool)} (hb : Sq n b) : ∀ m, m ≤ n → ∀ q, q < n → rowT (iter (fun i t => iter (compI a b i) n t) m (zeroT n)) q = if q < m then compRow a b n q n else List.replicate n false
  | 0, _, q, hq => by
    rw [if_neg (by omega)]
    show rowT (zeroT n) q = _
    exact rowT_of (by simp [zeroT, hq])
  | m + 1, h, q, hq => by
    have ih := comp_rows hb (a := a) m (by omega)
    have hsq := Sq.comp' hb (a := a) (m := m) (by omega)
    have hz := ih m (by omega)
    rw [if_neg (by omega)] at hz
    obtain ⟨h1, h2, _⟩ := compI_row hsq (show m < n by omega) hz (a := a) (b := b) n (Nat.le_refl _)
    rw [iter_succ]
    by_cases e : q = m
    · subst e; rw [h2, if_pos (by omega)]
    · rw [h1 q e, ih q hq]
      by_cases e2 : q < m
      · rw [if_pos e2, if_pos (by omega)]
      · rw [if_neg e2, if_neg (by omega)]
theorem atT_compRow {n : Nat} {a b : List (List Bool)} (hb : Sq n b) (i j : Nat) (hj : j < n) : ∀ m, m ≤ n → ((compRow a b n i m).getD j false = true ↔ ∃ k, k < m ∧ atT a i k = true ∧ atT b k j = true)
  | 0, _ => by
    have : (compRow a b n i 0).getD j false = false := by
      show (List.replicate n false).getD j false = false
      rw [List.getD_eq_getElem?_getD, List.getElem?_replicate]; split <;> rfl
    rw [this]; simp
  | m + 1, h => by
    have ih := atT_compRow hb (a := a) i j hj m (by omega)
    have hl := compRow_len hb (a := a) i m (by omega)
    have hr := hb.rowLen (i := m) (by omega)
    rw [compRow_succ]
    by_cases hc : atT a i m = true
    · rw [if_pos hc, zipB_get _ (by omega) (by omega), Bool.or_eq_true, ih]
      constructor
      · rintro (⟨k, h1, h2, h3⟩ | h1)
        · exact ⟨k, by omega, h2, h3⟩
        · exact ⟨m, by omega, hc, h1⟩
      · rintro ⟨k, h1, h2, h3⟩
        by_cases e : k = m
        · subst e; exact .inr h3
        · exact .inl ⟨k, by omega, h2, h3⟩
    · rw [if_neg hc, ih]
      constructor
      · rintro ⟨k, h1, h2, h3⟩; exact ⟨k, by omega, h2, h3⟩
      · rintro ⟨k, h1, h2, h3⟩
        by_cases e : k = m
        · subst e; exact absurd h2 hc
        · exact ⟨k, by omega, h2, h3⟩
/-- The composition's pairs. -/
theorem atT_comp {n : Nat} {a b : List (List Bool)} (hb : Sq n b) {i j : Nat} (hi : i < n) (hj : j < n) : atT (compT n a b) i j = true ↔ ∃ k, k < n ∧ atT a i k = true ∧ atT b k j = true := by
  have : rowT (compT n a b) i = compRow a b n i n := by
    have := comp_rows hb (a := a) n (Nat.le_refl _) i hi
    rw [if_pos hi] at this; exact this
  unfold atT
  rw [this]
  exact atT_compRow hb i j hj n (Nat.le_refl _)
def fillB (b : List Bool) (n i : Nat) : List Bool := b.take i ++ List.replicate (n - i) false
theorem fillB_zero (b : List Bool) (n : Nat) : fillB b n 0 = List.replicate n false := by simp [fillB]
theorem fillB_len {b : List Bool} {n i : Nat} (h : b.length = n) (hi : i ≤ n) : (fillB b n i).length = n := by simp [fillB]; omega
theorem fillB_all {b : List Bool} {n : Nat} (h : b.length = n) : fillB b n n = b := by unfold fillB; rw [List.take_of_length_le (by omega)]; simp
theorem fillB_succ {b : List Bool} {n i : Nat} (h : b.length = n) (hi : i < n) : (fillB b n i).set i (b.getD i false) = fillB b n (i + 1) := by
  unfold fillB
  have hl : (b.take i).length = i := by simp; omega
  rw [List.set_append_right _ _ (by omega), hl, Nat.sub_self, show n - i = (n - (i + 1)) + 1 by omega, List.replicate_succ, List.set_cons_zero, List.take_succ_eq_append_getElem (show i < b.length by omega), List.append_assoc]
  simp [List.getD_eq_getElem?_getD, show i < b.length by omega]
theorem take_succT {t : List (List Bool)} {i : Nat} (h : i < t.length) : t.take (i + 1) = t.take i ++ [rowT t i] := by
  obtain ⟨h1, h2⟩ := List.getElem?_eq_some_iff.1 (rowT_get h)
  rw [List.take_succ_eq_append_getElem h1, h2]
theorem app_get {α : Type} (l : List (List α)) (x : List α) {i : Nat} (h : l.length = i) : (l ++ [x]).getD i [] = x := by
  rw [List.getD_eq_getElem?_getD, List.getElem?_append_right (by omega), h]; simp
theorem app_set {α : Type} (l : List α) (x y : α) {i : Nat} (h : l.length = i) : (l ++ [x]).set i y = l ++ [y] := by
  rw [List.set_append_right _ _ (by omega), h]; simp
theorem app_len {α : Type} (l : List α) (x : α) {i : Nat} (h : l.length = i) : (l ++ [x]).length = i + 1 := by simp [h]
theorem noOsl_bools (l : List Bool) : noOsl (bools l) := noOsl_map (f := fun x : Bool => [AV.bool x]) (fun x i sz q e => by
  rcases i with _ | i <;> simp at e) l
section
variable (s : Store) (d : Nat)
theorem vwcF_rowsO (t : List (List Bool)) : (rowsO t).map (fun cs => cs.map (vwcF s (d + 1))) = rowsR t := by
  have e : ∀ b : List Bool, (bools b).map (fun row => row.map (vwF s (d + 1))) = bools b := fun b => by
    have : ∀ x : Bool, vwF s (d + 1) (.bool x) = .bool x := fun x => rfl
    simp [bools, this]
  simp [rowsO, rowsR, vwcF_osl, e]
end
end Go.AM

/- The algebra of relations. -/
namespace Go.AM
theorem bool_ext {x y : Bool} (h : x = true ↔ y = true) : x = y := by cases x <;> cases y <;> simp_all
theorem mk_pairs {n : Nat} {a : List (List Bool)} (ha : Sq n a) : putL (zeroT n) (pairsT a n) = a := by
  refine tab_ext (n := n) (Sq.putL _ (Sq.rep n) pairsT_in) ha fun i j hi hj => ?_
  rw [atT_putL (n := n) (u := zeroT n) i j _ (Sq.rep n) pairsT_in]
  have e : atT (zeroT n) i j = false := atT_rep n i j
  rw [e, Bool.false_or]
  refine bool_ext ?_
  rw [decide_eq_true_eq, pairsT_mem]
  constructor
  · rintro ⟨a, b, he, _, _, h2⟩
    simp only [Prod.mk.injEq] at he
    have : i = a ∧ j = b := by omega
    rw [this.1, this.2]; exact h2
  · intro h; exact ⟨i, j, rfl, hi, hj, h⟩
end Go.AM

/- The transitive closure. -/
namespace Go.AM
theorem warshI_row {n k : Nat} {t : List (List Bool)} (ht : Sq n t) (hk : k < n) : ∀ m, m ≤ n → Sq n (iter (warshI k) m t) ∧ rowT (iter (warshI k) m t) k = rowT t k ∧ ∀ i, i < n → rowT (iter (warshI k) m t) i = if i < m ∧ atT t i k = true then List.zipWith (· || ·) (rowT t i) (rowT t k) else rowT t i
  | 0, _ => ⟨ht, rfl, fun i _ => by rw [if_neg (by omega)]; rfl⟩
  | m + 1, hm => by
    obtain ⟨h1, h2, h3⟩ := warshI_row ht hk m (by omega)
    have hs : Sq n (iter (warshI k) (m + 1) t) := h1.warshI hk (by omega)
    rw [iter_succ, warshI_eq] at hs ⊢
    generalize iter (warshI k) m t = U at *
    have hUl := h1.len
    have hat : atT U m k = atT t m k := by
      have := h3 m (by omega)
      rw [if_neg (by omega)] at this
      unfold atT; rw [this]
    have hrm : rowT U m = rowT t m := by have := h3 m (by omega); rw [if_neg (by omega)] at this; exact this
    have hself : List.zipWith (· || ·) (rowT t k) (rowT t k) = rowT t k := by
      refine List.ext_getElem (by simp) fun i a b => by simp
    by_cases hc : atT t m k = true
    · rw [if_pos (by rw [hat]; exact hc)] at hs ⊢
      unfold orRow at hs ⊢
      refine ⟨hs, ?_, fun i hi => ?_⟩
      · rw [rowT_set]
        by_cases e : m = k
        · rw [if_pos ⟨e, by omega⟩, hrm, h2, e, hself]
        · rw [if_neg (by rintro ⟨x, _⟩; exact e x), h2]
      · rw [rowT_set]
        by_cases e : m = i
        · subst e
          rw [if_pos ⟨rfl, by omega⟩, hrm, h2, if_pos ⟨by omega, hc⟩]
        · rw [if_neg (by rintro ⟨x, _⟩; exact e x), h3 i hi]
          have : (i < m + 1 ∧ atT t i k = true) ↔ (i < m ∧ atT t i k = true) := ⟨fun h => ⟨by omega, h.2⟩, fun h => ⟨by omega, h.2⟩⟩
          simp only [this]
    · rw [if_neg (by rw [hat]; exact hc)] at hs ⊢
      refine ⟨hs, h2, fun i hi => ?_⟩
      rw [h3 i hi]
      have : (i < m + 1 ∧ atT t i k = true) ↔ (i < m ∧ atT t i k = true) := ⟨fun h => ⟨by
        by_cases e : i = m
        · subst e; exact absurd h.2 hc
        · omega, h.2⟩, fun h => ⟨by omega, h.2⟩⟩
      simp only [this]
theorem atT_warshK {n k : Nat} {t : List (List Bool)} (ht : Sq n t) (hk : k < n) {i j : Nat} (hi : i < n) (hj : j < n) : atT (warshK n k t) i j = (atT t i j || (atT t i k && atT t k j)) := by
  obtain ⟨_, _, h3⟩ := warshI_row ht hk n (Nat.le_refl _)
  have h := h3 i hi
  unfold warshK
  have h4 : atT (iter (warshI k) n t) i j = (rowT (iter (warshI k) n t) i).getD j false := rfl
  rw [h4, h]
  by_cases hc : atT t i k = true
  · rw [if_pos ⟨hi, hc⟩, zipB_get _ (by rw [ht.rowLen hi, ht.rowLen hk]) (by rw [ht.rowLen hi]; exact hj), hc, Bool.true_and]; rfl
  · rw [if_neg (by rintro ⟨_, x⟩; exact hc x)]
    have : atT t i k = false := by simpa using hc
    rw [this, Bool.false_and, Bool.or_false]; rfl
/-- Paths whose inner nodes are less than k. -/
def R_ (t : List (List Bool)) : Nat → Nat → Nat → Bool
  | 0, i, j => atT t i j
  | k + 1, i, j => R_ t k i j || (R_ t k i k && R_ t k k j)
theorem warsh_R {n : Nat} {t : List (List Bool)} (ht : Sq n t) : ∀ m, m ≤ n → ∀ i j, i < n → j < n → atT (iter (warshK n) m t) i j = R_ t m i j
  | 0, _, i, j, _, _ => rfl
  | m + 1, hm, i, j, hi, hj => by
    have ih := warsh_R ht m (by omega)
    rw [iter_succ, atT_warshK (ht.warsh' (by omega)) (by omega) hi hj, ih i j hi hj, ih i m hi (by omega), ih m j (by omega) hj]; rfl
theorem R_trans {t : List (List Bool)} : ∀ (k m : Nat), m < k → ∀ i j, R_ t k i m = true → R_ t k m j = true → R_ t k i j = true
  | k + 1, m, hm, i, j, h1, h2 => by
    simp only [R_, Bool.or_eq_true, Bool.and_eq_true] at h1 h2 ⊢
    by_cases e : m = k
    · subst e
      right
      exact ⟨by rcases h1 with h | h; exact h; exact h.1, by rcases h2 with h | h; exact h; exact h.2⟩
    · have ih := R_trans (t := t) k m (by omega)
      rcases h1 with h1 | h1 <;> rcases h2 with h2 | h2
      · exact .inl (ih i j h1 h2)
      · exact .inr ⟨ih i k h1 h2.1, h2.2⟩
      · exact .inr ⟨h1.1, ih k j h1.2 h2⟩
      · exact .inr ⟨h1.1, h2.2⟩
theorem warsh_trans {n : Nat} {t : List (List Bool)} (ht : Sq n t) {i k j : Nat} (hi : i < n) (hk : k < n) (hj : j < n) (h1 : atT (warsh n t) i k = true) (h2 : atT (warsh n t) k j = true) : atT (warsh n t) i j = true := by
  unfold warsh at *
  rw [warsh_R ht n (Nat.le_refl _) _ _ hi hk] at h1
  rw [warsh_R ht n (Nat.le_refl _) _ _ hk hj] at h2
  rw [warsh_R ht n (Nat.le_refl _) _ _ hi hj]
  exact R_trans n k hk i j h1 h2
theorem R_mono {t : List (List Bool)} : ∀ (k i j : Nat), atT t i j = true → R_ t k i j = true
  | 0, _, _, h => h
  | k + 1, i, j, h => by simp only [R_, Bool.or_eq_true]; exact .inl (R_mono k i j h)
theorem warsh_sub {n : Nat} {t : List (List Bool)} (ht : Sq n t) {i j : Nat} (hi : i < n) (hj : j < n) (h : atT t i j = true) : atT (warsh n t) i j = true := by
  unfold warsh; rw [warsh_R ht n (Nat.le_refl _) _ _ hi hj]; exact R_mono n i j h
/-- The closure is the least. -/
theorem R_least {n : Nat} {t : List (List Bool)} {S : Nat → Nat → Prop} (hs : ∀ i j, i < n → j < n → atT t i j = true → S i j) (ht : ∀ i k j, i < n → k < n → j < n → S i k → S k j → S i j) : ∀ (k i j : Nat), k ≤ n → i < n → j < n → R_ t k i j = true → S i j
  | 0, i, j, _, hi, hj, h => hs i j hi hj h
  | k + 1, i, j, hk, hi, hj, h => by
    simp only [R_, Bool.or_eq_true, Bool.and_eq_true] at h
    rcases h with h | h
    · exact R_least hs ht k i j (by omega) hi hj h
    · exact ht i k j hi (by omega) hj (R_least hs ht k i k (by omega) hi (by omega) h.1) (R_least hs ht k k j (by omega) (by omega) hj h.2)
theorem warsh_least {n : Nat} {t : List (List Bool)} (h : Sq n t) {S : Nat → Nat → Prop} (hs : ∀ i j, i < n → j < n → atT t i j = true → S i j) (ht : ∀ i k j, i < n → k < n → j < n → S i k → S k j → S i j) {i j : Nat} (hi : i < n) (hj : j < n) (hw : atT (warsh n t) i j = true) : S i j := by
  unfold warsh at hw
  rw [warsh_R h n (Nat.le_refl _) _ _ hi hj] at hw
  exact R_least hs ht n i j (Nat.le_refl _) hi hj hw
end Go.AM

/- The program's cycle. -/
namespace Go.AM
abbrev CSt := List Int × List Int × Int
def cycI (t : List (List Bool)) (f at_ v : Int) (i : Nat) (st : CSt) : CSt :=
  if atT t i v.toNat then
    if (i : Int) ≠ f ∧ st.1.getD i 0 < 0 then (st.1.set i (at_ + 1), st.2.1 ++ [(i : Int)], if (i : Int) = f ∧ st.2.2 = 0 then at_ + 1 else st.2.2)
    else (st.1, st.2.1, if (i : Int) = f ∧ st.2.2 = 0 then at_ + 1 else st.2.2)
  else st
def cycAt (k : Nat) (st : CSt) : Int := if 0 < k then st.1.getD (st.2.1.getD k 0).toNat 0 else 0
def cycK (t : List (List Bool)) (n : Nat) (f : Int) (k : Nat) (st : CSt) : CSt := iter (cycI t f (cycAt k st) (st.2.1.getD k 0)) n st
def cyc0 (n : Nat) (f : Int) : CSt := (List.replicate n (-1), [f], 0)
structure WfC (n : Nat) (f : Int) (st : CSt) : Prop where
  len : st.1.length = n
  rng : ∀ v ∈ st.2.1, 0 ≤ v ∧ v < n
  cnt : st.1.count (-1) + st.2.1.length ≤ n + 1
  vals : ∀ i, -1 ≤ st.1.getD i 0 ∧ st.1.getD i 0 ≤ st.2.1.length + 1
  ln : 0 ≤ st.2.2 ∧ st.2.2 ≤ st.2.1.length + 2
theorem count_setI {l : List Int} {i : Nat} {k : Int} (h : l.getD i 0 = -1) (hk : k ≠ -1) : (l.set i k).count (-1) + 1 = l.count (-1) := by
  have hi : i < l.length := by
    rcases Nat.lt_or_ge i l.length with h1 | h1
    · exact h1
    · rw [Go.AM.getD_out h1] at h; omega
  rw [List.count_set hi]
  have e1 : l[i] = -1 := by simpa [List.getD_eq_getElem?_getD, hi] using h
  have e2 : (k == -1) = false := by simpa using hk
  have hpos : 0 < l.count (-1) := List.count_pos_iff.2 (e1 ▸ List.getElem_mem hi)
  simp only [e1, beq_self_eq_true, if_true, e2, Bool.false_eq_true, if_false]
  omega
theorem find_range_none {p : Nat → Bool} : ∀ {n : Nat}, (List.range n).find? p = none ↔ ∀ i, i < n → p i = false := fun {n} => by
  rw [List.find?_eq_none]; simp
theorem find_range_lt {p : Nat → Bool} {n i : Nat} (h : (List.range n).find? p = some i) : i < n ∧ p i = true ∧ ∀ j, j < i → p j = false := by
  rw [List.find?_range_eq_some] at h
  exact ⟨List.mem_range.1 h.2.1, h.1, fun j hj => by simpa using h.2.2 j hj⟩
end Go.AM
namespace Go.AM
theorem WfC.start {n : Nat} {f : Int} (h0 : 0 ≤ f) (h1 : f < n) : WfC n f (cyc0 n f) := by
  refine ⟨by simp [cyc0], fun v hv => ?_, by simp [cyc0], fun i => ?_, by simp [cyc0]⟩
  · simp [cyc0] at hv; subst hv; exact ⟨h0, h1⟩
  · simp only [cyc0]
    rw [List.getD_eq_getElem?_getD, List.getElem?_replicate]; split <;> simp
theorem WfC.i {n : Nat} {f : Int} {st : CSt} (h : WfC n f st) (t : List (List Bool)) {at_ : Int} (v : Int) {i : Nat} (hi : i < n) (ha0 : -1 ≤ at_) (ha1 : at_ ≤ st.2.1.length + 1) : WfC n f (cycI t f at_ v i st) ∧ st.2.1.length ≤ (cycI t f at_ v i st).2.1.length ∧ ∀ (j : Nat) (x : Int), st.2.1[j]? = some x → (cycI t f at_ v i st).2.1[j]? = some x := by
  unfold cycI
  split
  · split
    · rename_i _ hc
      have hv := h.vals i
      have hm : st.1.getD i 0 = -1 := by omega
      have hcs := count_setI hm (k := at_ + 1) (by omega)
      have hln := h.ln
      refine ⟨⟨by simp [h.len], fun x hx => ?_, ?_, fun j => ?_, ?_⟩, by simp, fun j x hj => ?_⟩
      · rcases List.mem_append.1 hx with hx | hx
        · exact h.rng x hx
        · simp at hx; subst hx; omega
      · have := h.cnt
        simp only [List.length_append, List.length_singleton]; omega
      · have := h.vals j
        simp only [List.length_append, List.length_singleton]
        by_cases e : i = j
        · subst e
          by_cases h2 : i < st.1.length
          · rw [Go.AM.getD_set_eq h2]; omega
          · rw [List.set_eq_of_length_le (by omega)]; omega
        · rw [Go.AM.getD_set_ne e]; omega
      · simp only [List.length_append, List.length_singleton]
        split <;> omega
      · rw [List.getElem?_append_left (List.getElem?_eq_some_iff.1 hj).1]; exact hj
    · have hln := h.ln
      refine ⟨⟨h.len, h.rng, h.cnt, h.vals, ?_⟩, Nat.le_refl _, fun j x hj => hj⟩
      simp only
      split <;> omega
  · exact ⟨h, Nat.le_refl _, fun j x hj => hj⟩
theorem WfC.k' {n : Nat} {f : Int} {st : CSt} (h : WfC n f st) (t : List (List Bool)) {at_ : Int} (v : Int) (ha0 : -1 ≤ at_) (ha1 : at_ ≤ st.2.1.length + 1) : ∀ m, m ≤ n → WfC n f (iter (cycI t f at_ v) m st) ∧ st.2.1.length ≤ (iter (cycI t f at_ v) m st).2.1.length ∧ ∀ (j : Nat) (x : Int), st.2.1[j]? = some x → (iter (cycI t f at_ v) m st).2.1[j]? = some x
  | 0, _ => ⟨h, Nat.le_refl _, fun _ _ hj => hj⟩
  | m + 1, hm => by
    obtain ⟨h1, h2, h3⟩ := WfC.k' h t v ha0 ha1 m (by omega)
    obtain ⟨g1, g2, g3⟩ := h1.i t v (i := m) (by omega) ha0 (by omega)
    exact ⟨g1, Nat.le_trans h2 g2, fun j x hj => g3 j x (h3 j x hj)⟩
theorem WfC.at {n : Nat} {f : Int} {st : CSt} (h : WfC n f st) (k : Nat) : -1 ≤ cycAt k st ∧ cycAt k st ≤ st.2.1.length + 1 := by
  unfold cycAt; split
  · exact h.vals _
  · omega
theorem WfC.k {n : Nat} {f : Int} {st : CSt} (h : WfC n f st) (t : List (List Bool)) (k : Nat) : WfC n f (cycK t n f k st) ∧ st.2.1.length ≤ (cycK t n f k st).2.1.length ∧ ∀ (j : Nat) (x : Int), st.2.1[j]? = some x → (cycK t n f k st).2.1[j]? = some x :=
  WfC.k' h t _ (h.at k).1 (h.at k).2 n (Nat.le_refl _)
end Go.AM

/- The least topological order. -/
namespace Go.AM
theorem filter_lt {p q : Nat → Bool} {l : List Nat} (h : ∀ x ∈ l, p x = true → q x = true) (hx : ∃ x ∈ l, q x = true ∧ p x = false) : (l.filter p).length < (l.filter q).length := by
  induction l with
  | nil => obtain ⟨x, hx, _⟩ := hx; cases hx
  | cons a l ih =>
    have hle : (l.filter p).length ≤ (l.filter q).length := by
      have := List.Sublist.length_le (l.filter p |>.filter_sublist (p := q))
      have e : (l.filter p).filter q = l.filter p := by
        rw [List.filter_eq_self]
        intro x hx; exact h x (by simp [(List.mem_filter.1 hx).1]) (List.mem_filter.1 hx).2
      have e2 : (l.filter p).filter q = (l.filter q).filter p := by rw [List.filter_filter, List.filter_filter]; congr 1; funext x; exact Bool.and_comm _ _
      rw [← e, e2]; exact List.length_filter_le _ _
    obtain ⟨x, hx, h1, h2⟩ := hx
    rcases List.mem_cons.1 hx with rfl | hx
    · simp only [List.filter_cons, h1, h2, if_true, Bool.false_eq_true, if_false, List.length_cons]; omega
    · have ih := ih (fun y hy => h y (by simp [hy])) ⟨x, hx, h1, h2⟩
      have ha := h a (by simp)
      simp only [List.filter_cons]
      cases hp : p a
      · cases hq : q a
        · simpa using ih
        · simp only [Bool.false_eq_true, if_false, if_true, List.length_cons]; omega
      · rw [ha hp]; simp only [if_true, List.length_cons]; omega
def freeO (n : Nat) (t : List (List Bool)) (out : List Nat) (i : Nat) : Bool := !out.contains i && (List.range n).all fun k => !atT t k i || out.contains k
def nextO (n : Nat) (t : List (List Bool)) (out : List Nat) : Option Nat := (List.range n).find? (freeO n t out)
theorem freeO_iff {n : Nat} {t : List (List Bool)} {out : List Nat} {i : Nat} : freeO n t out i = true ↔ i ∉ out ∧ ∀ k, k < n → atT t k i = true → k ∈ out := by
  simp only [freeO, Bool.and_eq_true, Bool.not_eq_true', List.all_eq_true, List.mem_range, Bool.or_eq_true]
  constructor
  · rintro ⟨h1, h2⟩
    refine ⟨fun h => (by simp [h] at h1), fun k hk ha => ?_⟩
    rcases h2 k hk with h | h
    · rw [ha] at h; cases h
    · simpa using h
  · rintro ⟨h1, h2⟩
    refine ⟨by simpa using h1, fun k hk => ?_⟩
    cases ha : atT t k i with
    | false => exact .inl rfl
    | true => exact .inr (by simpa using h2 k hk ha)
theorem acyc_iff {n : Nat} {t : List (List Bool)} : acyc n t = true ↔ ∀ i, i < n → atT (warsh n t) i i = false := by
  unfold acyc; rw [List.all_eq_true]
  constructor
  · intro h i hi; have := h i (List.mem_range.2 hi); simpa using this
  · intro h i hi; rw [h i (List.mem_range.1 hi)]; rfl
theorem exists_free {n : Nat} {t : List (List Bool)} (hs : Sq n t) (ha : acyc n t = true) {out : List Nat} : ∀ (m i : Nat), i < n → i ∉ out → ((List.range n).filter fun k => atT (warsh n t) k i && !out.contains k).length ≤ m → ∃ j, j < n ∧ freeO n t out j = true := by
  have hac := acyc_iff.1 ha
  intro m
  induction m with
  | zero =>
    intro i hi ho hl
    refine ⟨i, hi, freeO_iff.2 ⟨ho, fun k hk h => ?_⟩⟩
    rcases Classical.em (k ∈ out) with h1 | h1
    · exact h1
    · exfalso
      have hm : k ∈ (List.range n).filter fun k => atT (warsh n t) k i && !out.contains k := by
        rw [List.mem_filter]; exact ⟨List.mem_range.2 hk, by simp [warsh_sub hs hk hi h, h1]⟩
      have := List.length_pos_of_mem hm
      omega
  | succ m ih =>
    intro i hi ho hl
    by_cases hf : freeO n t out i = true
    · exact ⟨i, hi, hf⟩
    · have : ∃ k, k < n ∧ atT t k i = true ∧ k ∉ out := by
        rcases Classical.em (∃ k, k < n ∧ atT t k i = true ∧ k ∉ out) with h | h
        · exact h
        · exact absurd (freeO_iff.2 ⟨ho, fun k hk h1 => by
            rcases Classical.em (k ∈ out) with h2 | h2
            · exact h2
            · exact absurd ⟨k, hk, h1, h2⟩ h⟩) hf
      obtain ⟨k, hk, h1, h2⟩ := this
      have hki := warsh_sub hs hk hi h1
      refine ih k hk h2 (Nat.le_of_lt_succ (Nat.lt_of_lt_of_le (filter_lt (fun x hx hp => ?_) ⟨k, List.mem_range.2 hk, ?_, ?_⟩) hl))
      · simp only [Bool.and_eq_true] at hp ⊢
        exact ⟨warsh_trans hs (List.mem_range.1 hx) hk hi hp.1 hki, hp.2⟩
      · simp [hki, h2]
      · rw [hac k hk]; rfl
structure OrdI (n : Nat) (t : List (List Bool)) (out : List Nat) : Prop where
  nd : out.Nodup
  rng : ∀ i ∈ out, i < n
  top : ∀ (q i k : Nat), out[q]? = some i → k < n → atT t k i = true → ∃ p : Nat, p < q ∧ out[p]? = some k
theorem OrdI.closed {n : Nat} {t : List (List Bool)} {out : List Nat} (h : OrdI n t out) {i k : Nat} (hi : i ∈ out) (hk : k < n) (ha : atT t k i = true) : k ∈ out := by
  obtain ⟨q, hq, rfl⟩ := List.mem_iff_getElem.1 hi
  obtain ⟨p, _, hp⟩ := h.top q _ k (List.getElem?_eq_getElem hq) hk ha
  exact List.mem_of_getElem? hp
theorem OrdI.snoc {n : Nat} {t : List (List Bool)} {out : List Nat} (h : OrdI n t out) {i : Nat} (hi : i < n) (hf : freeO n t out i = true) : OrdI n t (out ++ [i]) := by
  obtain ⟨h1, h2⟩ := freeO_iff.1 hf
  refine ⟨?_, fun j hj => ?_, fun q j k hq hk ha => ?_⟩
  · rw [List.nodup_append]
    exact ⟨h.nd, by simp, fun a ha b hb => by simp at hb; subst hb; rintro rfl; exact h1 ha⟩
  · rcases List.mem_append.1 hj with hj | hj
    · exact h.rng j hj
    · simp at hj; omega
  · by_cases hql : q < out.length
    · rw [List.getElem?_append_left hql] at hq
      obtain ⟨p, hp1, hp2⟩ := h.top q j k hq hk ha
      exact ⟨p, hp1, by rw [List.getElem?_append_left (by omega)]; exact hp2⟩
    · have hq2 := (List.getElem?_eq_some_iff.1 hq).1
      simp at hq2
      have : q = out.length := by omega
      subst this
      simp at hq; subst hq
      obtain ⟨p, hp, hpk⟩ := List.mem_iff_getElem.1 (h2 k hk ha)
      exact ⟨p, hp, by rw [List.getElem?_append_left hp, List.getElem?_eq_getElem hp, hpk]⟩
theorem sub_len : ∀ (n : Nat) (l : List Nat), (∀ i, i < n → i ∈ l) → n ≤ l.length
  | 0, _, _ => Nat.zero_le _
  | n + 1, l, h => by
    have hn := h n (by omega)
    have ih := sub_len n (l.erase n) fun i hi => (List.mem_erase_of_ne (by omega)).2 (h i (by omega))
    rw [List.length_erase_of_mem hn] at ih
    have := List.length_pos_of_mem hn
    omega
theorem missing {n : Nat} {l : List Nat} (hl : l.length < n) : ∃ i, i < n ∧ i ∉ l := by
  rcases Classical.em (∃ i, i < n ∧ i ∉ l) with h | h
  · exact h
  · exfalso
    have := sub_len n l fun i hi => by
      rcases Classical.em (i ∈ l) with h1 | h1
      · exact h1
      · exact absurd ⟨i, hi, h1⟩ h
    omega
theorem OrdI.next {n : Nat} {t : List (List Bool)} (hs : Sq n t) (ha : acyc n t = true) {out : List Nat} (hl : out.length < n) : ∃ i, nextO n t out = some i ∧ i < n ∧ freeO n t out i = true := by
  obtain ⟨i, hi, ho⟩ := missing hl
  obtain ⟨j, hj, hf⟩ := exists_free hs ha _ i hi ho (Nat.le_refl _)
  cases h : nextO n t out with
  | none => have := find_range_none.1 h j hj; rw [hf] at this; cases this
  | some i => obtain ⟨h1, h2, _⟩ := find_range_lt h; exact ⟨i, rfl, h1, h2⟩
theorem OrdI.nil (n : Nat) (t : List (List Bool)) : OrdI n t [] := ⟨by simp, by simp, by simp⟩
/-- The first counts. -/
def incP (B : List Int) (p : Int × Int) : List Int := B.set p.2.toNat (B.getD p.2.toNat 0 + 1)
end Go.AM

/- Counting the bits of a word, and finding the lowest one. -/
namespace Go.AM
theorem land_256 {r s a b : Nat} (hr : r < 256) (hs : s < 256) : (r + 256 * a) &&& (s + 256 * b) = (r &&& s) + 256 * (a &&& b) := by
  apply Nat.eq_of_testBit_eq
  intro i
  have h1 := Nat.testBit_two_pow_mul_add a (i := 8) (b := r) hr i
  have h2 := Nat.testBit_two_pow_mul_add b (i := 8) (b := s) hs i
  have h3 := Nat.testBit_two_pow_mul_add (a &&& b) (i := 8) (b := r &&& s) (Nat.lt_of_le_of_lt Nat.and_le_left hr) i
  rw [show r + 256 * a = 2 ^ 8 * a + r by omega, show s + 256 * b = 2 ^ 8 * b + s by omega, show (r &&& s) + 256 * (a &&& b) = 2 ^ 8 * (a &&& b) + (r &&& s) by omega, Nat.testBit_and, h1, h2, h3]
  split <;> simp [Nat.testBit_and]
def byv : List Nat → Nat
  | [] => 0
  | r :: l => r + 256 * byv l
def g1 (r : Nat) : Nat := (r >>> 1 &&& 0x55) + (r &&& 0x55)
def g2 (r : Nat) : Nat := (r >>> 2 &&& 0x33) + (r &&& 0x33)
def g3 (r : Nat) : Nat := (r >>> 4 + r) &&& 0x0f
def f1 (M x : Nat) : Nat := (x >>> 1 &&& M) + (x &&& M)
def f2 (M x : Nat) : Nat := (x >>> 2 &&& M) + (x &&& M)
def f3 (M x : Nat) : Nat := (x >>> 4 + x) &&& M
def popB (r : Nat) : Nat := ((List.range 8).filter fun j => r.testBit j).length
theorem b1 : ∀ r, r < 256 → ∀ c, c < 2 → (r >>> 1 + 128 * c) &&& 0x55 = r >>> 1 &&& 0x55 := by decide +kernel
theorem b2 : ∀ r, r < 256 → ∀ c, c < 4 → (r >>> 2 + 64 * c) &&& 0x33 = r >>> 2 &&& 0x33 := by decide +kernel
theorem b3 : ∀ r, r < 69 → ∀ c, c < 5 → r >>> 4 ≤ 4 → (r >>> 4 + 16 * c + r) &&& 0x0f = (r >>> 4 + r) &&& 0x0f ∧ r >>> 4 + 16 * c + r < 256 := by decide +kernel
theorem bg1 : ∀ r, r < 256 → g1 r < 256 := by decide +kernel
theorem bg2 : ∀ r, r < 256 → g2 (g1 r) < 69 ∧ g2 (g1 r) % 16 < 5 := by decide +kernel
theorem bg3 : ∀ r, r < 256 → g3 (g2 (g1 r)) = popB r ∧ popB r ≤ 8 := by decide +kernel
theorem f1_val : ∀ l : List Nat, (∀ r ∈ l, r < 256) → f1 (byv (l.map fun _ => 0x55)) (byv l) = byv (l.map g1)
  | [], _ => rfl
  | r :: l, h => by
    have ih := f1_val l fun x hx => h x (by simp [hx])
    have hr := h r (by simp)
    generalize hm : byv (l.map fun _ => 0x55) = m at ih
    generalize ha : byv l = a at ih
    show ((r + 256 * byv l) >>> 1 &&& (0x55 + 256 * byv (l.map fun _ => 0x55))) + ((r + 256 * byv l) &&& (0x55 + 256 * byv (l.map fun _ => 0x55))) = g1 r + 256 * byv (l.map g1)
    rw [hm, ha, ← ih]
    have e : (r + 256 * a) >>> 1 = (r >>> 1 + 128 * (a % 2)) + 256 * (a >>> 1) := by simp only [Nat.shiftRight_eq_div_pow]; omega
    have hb := b1 r hr (a % 2) (Nat.mod_lt _ (by decide))
    have hl : r >>> 1 + 128 * (a % 2) < 256 := by simp only [Nat.shiftRight_eq_div_pow]; omega
    rw [e, land_256 hl (by decide), land_256 hr (by decide), hb]
    unfold f1 g1; omega
theorem f2_val : ∀ l : List Nat, (∀ r ∈ l, r < 256) → f2 (byv (l.map fun _ => 0x33)) (byv l) = byv (l.map g2)
  | [], _ => rfl
  | r :: l, h => by
    have ih := f2_val l fun x hx => h x (by simp [hx])
    have hr := h r (by simp)
    generalize hm : byv (l.map fun _ => 0x33) = m at ih
    generalize ha : byv l = a at ih
    show ((r + 256 * byv l) >>> 2 &&& (0x33 + 256 * byv (l.map fun _ => 0x33))) + ((r + 256 * byv l) &&& (0x33 + 256 * byv (l.map fun _ => 0x33))) = g2 r + 256 * byv (l.map g2)
    rw [hm, ha, ← ih]
    have e : (r + 256 * a) >>> 2 = (r >>> 2 + 64 * (a % 4)) + 256 * (a >>> 2) := by simp only [Nat.shiftRight_eq_div_pow]; omega
    have hb := b2 r hr (a % 4) (Nat.mod_lt _ (by decide))
    have hl : r >>> 2 + 64 * (a % 4) < 256 := by simp only [Nat.shiftRight_eq_div_pow]; omega
    rw [e, land_256 hl (by decide), land_256 hr (by decide), hb]
    unfold f2 g2; omega
theorem byv_mod : ∀ l : List Nat, (∀ r ∈ l, r % 16 < 5) → byv l % 16 < 5
  | [], _ => by decide
  | r :: l, h => by
    have := h r (by simp)
    show (r + 256 * byv l) % 16 < 5
    omega
theorem f3_val : ∀ l : List Nat, (∀ r ∈ l, r < 69 ∧ r % 16 < 5) → f3 (byv (l.map fun _ => 0x0f)) (byv l) = byv (l.map g3)
  | [], _ => rfl
  | r :: l, h => by
    have ih := f3_val l fun x hx => h x (by simp [hx])
    have hr := (h r (by simp)).1
    have hmod := byv_mod l fun x hx => (h x (by simp [hx])).2
    generalize hm : byv (l.map fun _ => 0x0f) = m at ih
    generalize ha : byv l = a at ih hmod
    show ((r + 256 * byv l) >>> 4 + (r + 256 * byv l)) &&& (0x0f + 256 * byv (l.map fun _ => 0x0f)) = g3 r + 256 * byv (l.map g3)
    rw [hm, ha, ← ih]
    have hr4 : r >>> 4 ≤ 4 := by simp only [Nat.shiftRight_eq_div_pow]; omega
    have e : (r + 256 * a) >>> 4 + (r + 256 * a) = (r >>> 4 + 16 * (a % 16) + r) + 256 * (a >>> 4 + a) := by simp only [Nat.shiftRight_eq_div_pow]; omega
    obtain ⟨hb, hl⟩ := b3 r hr (a % 16) hmod hr4
    rw [e, land_256 hl (by decide), hb]
    rfl
theorem sum8 (a b c d e f g h : Nat) (ha : a ≤ 8) (hb : b ≤ 8) (hc : c ≤ 8) (hd : d ≤ 8) (he : e ≤ 8) (hf : f ≤ 8) (hg : g ≤ 8) (hh : h ≤ 8) (y y1 y2 y3 : Nat) (hy : y = byv [a, b, c, d, e, f, g, h])
    (h1 : y1 = y + y / 256) (h2 : y2 = y1 + y1 / 65536) (h3 : y3 = y2 + y2 / 4294967296) : y3 % 128 = a + b + c + d + e + f + g + h ∧ y3 < 18446744073709551616 := by
  simp only [byv, Nat.mul_zero, Nat.add_zero] at hy
  have e1 : y / 256 = b + 256 * (c + 256 * (d + 256 * (e + 256 * (f + 256 * (g + 256 * h))))) := by omega
  have e2 : y1 = (a + b) + 256 * ((b + c) + 256 * ((c + d) + 256 * ((d + e) + 256 * ((e + f) + 256 * ((f + g) + 256 * ((g + h) + 256 * h)))))) := by rw [h1, e1, hy]; omega
  clear h1 e1 hy
  have e3 : y1 / 65536 = (c + d) + 256 * ((d + e) + 256 * ((e + f) + 256 * ((f + g) + 256 * ((g + h) + 256 * h)))) := by omega
  have e4 : y2 = (a + b + c + d) + 256 * ((b + c + d + e) + 256 * ((c + d + e + f) + 256 * ((d + e + f + g) + 256 * ((e + f + g + h) + 256 * ((f + g + h) + 256 * ((g + h) + 256 * h)))))) := by rw [h2, e3, e2]; omega
  clear h2 e2 e3
  have e5 : y2 / 4294967296 = (e + f + g + h) + 256 * ((f + g + h) + 256 * ((g + h) + 256 * h)) := by omega
  have e6 : y3 = (a + b + c + d + e + f + g + h) + 256 * ((b + c + d + e + f + g + h) + 256 * ((c + d + e + f + g + h) + 256 * ((d + e + f + g + h) + 256 * ((e + f + g + h) + 256 * ((f + g + h) + 256 * ((g + h) + 256 * h)))))) := by rw [h3, e5, e4]; omega
  clear h3 e4 e5
  omega
/-- The bits of a word. -/
def bitsW (x : Nat) : List Nat := (List.range 64).filter fun j => x.testBit j
def bytesW (x : Nat) : List Nat := (List.range 8).map fun k => x / 256 ^ k % 256
theorem bytesW_eq (x : Nat) : bytesW x = [x % 256, x / 256 % 256, x / 65536 % 256, x / 16777216 % 256, x / 4294967296 % 256, x / 1099511627776 % 256, x / 281474976710656 % 256, x / 72057594037927936 % 256] := by
  simp [bytesW, List.range_succ]
theorem byv_bytes {x : Nat} (h : x < 18446744073709551616) : byv (bytesW x) = x := by
  rw [bytesW_eq]; simp only [byv]; omega
theorem filter_range_add (p : Nat → Bool) (a : Nat) : ∀ b, ((List.range (a + b)).filter p).length = ((List.range a).filter p).length + ((List.range b).filter fun j => p (a + j)).length
  | 0 => by simp
  | b + 1 => by
    rw [← Nat.add_assoc, List.range_succ, List.filter_append, List.length_append, filter_range_add p a b, List.range_succ, List.filter_append, List.length_append]
    have e : ([a + b].filter p).length = ([b].filter fun j => p (a + j)).length := by
      simp only [List.filter_cons, List.filter_nil]; cases p (a + b) <;> rfl
    omega
theorem popB_byte (x k : Nat) : popB (x / 256 ^ k % 256) = ((List.range 8).filter fun j => x.testBit (8 * k + j)).length := by
  unfold popB
  congr 1
  refine List.filter_congr fun j hj => ?_
  have hj := List.mem_range.1 hj
  rw [show (256 : Nat) = 2 ^ 8 by rfl, Nat.testBit_mod_two_pow, ← Nat.pow_mul, Nat.testBit_div_two_pow]
  simp [hj]; congr 1; omega
theorem bitsW_len (x : Nat) : (bitsW x).length = ((bytesW x).map popB).sum := by
  have e : (bytesW x).map popB = (List.range 8).map fun k => ((List.range 8).filter fun j => x.testBit (8 * k + j)).length := by
    unfold bytesW; rw [List.map_map]; refine List.map_congr_left fun k _ => popB_byte x k
  rw [e]
  have h := fun k => filter_range_add (fun j => x.testBit j) (8 * k) 8
  generalize hd : (fun k => ((List.range 8).filter fun j => x.testBit (8 * k + j)).length) = d
  have hdk : ∀ k, ((List.range 8).filter fun j => x.testBit (8 * k + j)).length = d k := fun k => by rw [← hd]
  generalize hc : (fun m => ((List.range m).filter fun j => x.testBit j).length) = c
  have hck : ∀ m, ((List.range m).filter fun j => x.testBit j).length = c m := fun m => by rw [← hc]
  have h' : ∀ k, c (8 * k + 8) = c (8 * k) + d k := fun k => by rw [← hck, ← hck, ← hdk]; exact h k
  have h0 : c 8 = c 0 + d 0 := h' 0
  have h1 : c 16 = c 8 + d 1 := h' 1
  have h2 : c 24 = c 16 + d 2 := h' 2
  have h3 : c 32 = c 24 + d 3 := h' 3
  have h4 : c 40 = c 32 + d 4 := h' 4
  have h5 : c 48 = c 40 + d 5 := h' 5
  have h6 : c 56 = c 48 + d 6 := h' 6
  have h7 : c 64 = c 56 + d 7 := h' 7
  have hz : c 0 = 0 := by rw [← hck]; rfl
  have hs : ((List.range 8).map d).sum = d 0 + d 1 + d 2 + d 3 + d 4 + d 5 + d 6 + d 7 := by
    show d 0 + (d 1 + (d 2 + (d 3 + (d 4 + (d 5 + (d 6 + (d 7 + 0))))))) = _
    omega
  rw [hs]
  show ((List.range 64).filter fun j => x.testBit j).length = _
  rw [hck]; omega
/-- What the counting computes. -/
def popN (x : Nat) : Nat :=
  let a := f1 0x5555555555555555 x
  let b := f2 0x3333333333333333 a
  let y := f3 0x0f0f0f0f0f0f0f0f b
  let y1 := y + y / 256
  let y2 := y1 + y1 / 65536
  (y2 + y2 / 4294967296) % 128
theorem byv_le {B : Nat} : ∀ l : List Nat, (∀ r ∈ l, r ≤ B) → byv l ≤ B * byv (l.map fun _ => 1)
  | [], _ => Nat.le_refl _
  | r :: l, h => by
    have ih := byv_le l fun x hx => h x (by simp [hx])
    have hr := h r (by simp)
    show r + 256 * byv l ≤ B * (1 + 256 * byv (l.map fun _ => 1))
    rw [Nat.mul_add, Nat.mul_one, Nat.mul_left_comm]
    omega
theorem byv8_le {B a b c d e f g h : Nat} (ha : a ≤ B) (hb : b ≤ B) (hc : c ≤ B) (hd : d ≤ B) (he : e ≤ B) (hf : f ≤ B) (hg : g ≤ B) (hh : h ≤ B) : byv [a, b, c, d, e, f, g, h] ≤ B * 72340172838076673 := by
  have := byv_le (B := B) [a, b, c, d, e, f, g, h] fun r hr => by
    simp only [List.mem_cons, List.not_mem_nil, or_false] at hr
    rcases hr with rfl | rfl | rfl | rfl | rfl | rfl | rfl | rfl <;> assumption
  have e : byv ([a, b, c, d, e, f, g, h].map fun _ => 1) = 72340172838076673 := by simp [byv]
  rw [e] at this; exact this
theorem popN_bits {x : Nat} (h : x < 18446744073709551616) : f1 0x5555555555555555 x < 18446744073709551616 ∧ f2 0x3333333333333333 (f1 0x5555555555555555 x) < 5000000000000000000 ∧ f3 0x0f0f0f0f0f0f0f0f (f2 0x3333333333333333 (f1 0x5555555555555555 x)) ≤ 578721382704613384 ∧ popN x = (bitsW x).length := by
  have hl : (bytesW x).length = 8 := by simp [bytesW]
  have hb : ∀ r ∈ bytesW x, r < 256 := fun r hr => by
    simp only [bytesW, List.mem_map] at hr
    obtain ⟨k, _, rfl⟩ := hr
    exact Nat.mod_lt _ (by decide)
  have hv := byv_bytes h
  have hm : ∀ (l : List Nat) (c : Nat), l.length = 8 → byv (l.map fun _ => c) = byv [c, c, c, c, c, c, c, c] := fun l c hl => by
    rw [List.map_const', hl]; rfl
  have e1 := f1_val (bytesW x) hb
  rw [hm _ _ hl, hv, show byv [0x55, 0x55, 0x55, 0x55, 0x55, 0x55, 0x55, 0x55] = 0x5555555555555555 by decide] at e1
  have e2 := f2_val ((bytesW x).map g1) fun r hr => by
    obtain ⟨s, hs, rfl⟩ := List.mem_map.1 hr
    exact bg1 s (hb s hs)
  rw [hm _ _ (by simp [hl]), ← e1, show byv [0x33, 0x33, 0x33, 0x33, 0x33, 0x33, 0x33, 0x33] = 0x3333333333333333 by decide, List.map_map] at e2
  have e3 := f3_val ((bytesW x).map (g2 ∘ g1)) fun r hr => by
    obtain ⟨s, hs, rfl⟩ := List.mem_map.1 hr
    exact bg2 s (hb s hs)
  rw [hm _ _ (by simp [hl]), ← e2, show byv [0x0f, 0x0f, 0x0f, 0x0f, 0x0f, 0x0f, 0x0f, 0x0f] = 0x0f0f0f0f0f0f0f0f by decide, List.map_map] at e3
  have e4 : (bytesW x).map (g3 ∘ g2 ∘ g1) = (bytesW x).map popB := List.map_congr_left fun r hr => (bg3 r (hb r hr)).1
  rw [e4] at e3
  rw [bytesW_eq] at e1 e2 e3 hb
  simp only [List.mem_cons, List.not_mem_nil, or_false, forall_eq_or_imp, forall_eq] at hb
  obtain ⟨c0, c1, c2, c3, c4, c5, c6, c7⟩ := hb
  have hlen := bitsW_len x
  rw [bytesW_eq] at hlen
  simp only [List.map_cons, List.map_nil, List.sum_cons, List.sum_nil] at e1 e2 e3 hlen
  have p0 := (bg3 _ c0).2; have p1 := (bg3 _ c1).2; have p2 := (bg3 _ c2).2; have p3 := (bg3 _ c3).2; have p4 := (bg3 _ c4).2; have p5 := (bg3 _ c5).2; have p6 := (bg3 _ c6).2; have p7 := (bg3 _ c7).2
  have q0 := (bg2 _ c0).1; have q1 := (bg2 _ c1).1; have q2 := (bg2 _ c2).1; have q3 := (bg2 _ c3).1; have q4 := (bg2 _ c4).1; have q5 := (bg2 _ c5).1; have q6 := (bg2 _ c6).1; have q7 := (bg2 _ c7).1
  have r0 := bg1 _ c0; have r1 := bg1 _ c1; have r2 := bg1 _ c2; have r3 := bg1 _ c3; have r4 := bg1 _ c4; have r5 := bg1 _ c5; have r6 := bg1 _ c6; have r7 := bg1 _ c7
  refine ⟨by rw [e1]; exact Nat.lt_of_le_of_lt (byv8_le (B := 255) (Nat.le_of_lt_succ r0) (Nat.le_of_lt_succ r1) (Nat.le_of_lt_succ r2) (Nat.le_of_lt_succ r3) (Nat.le_of_lt_succ r4) (Nat.le_of_lt_succ r5) (Nat.le_of_lt_succ r6) (Nat.le_of_lt_succ r7)) (by decide), by rw [e2]; exact Nat.lt_of_le_of_lt (byv8_le (B := 68) (Nat.le_of_lt_succ q0) (Nat.le_of_lt_succ q1) (Nat.le_of_lt_succ q2) (Nat.le_of_lt_succ q3) (Nat.le_of_lt_succ q4) (Nat.le_of_lt_succ q5) (Nat.le_of_lt_succ q6) (Nat.le_of_lt_succ q7)) (by decide), by rw [e3]; exact Nat.le_trans (byv8_le (B := 8) p0 p1 p2 p3 p4 p5 p6 p7) (by decide), ?_⟩
  have := (sum8 _ _ _ _ _ _ _ _ p0 p1 p2 p3 p4 p5 p6 p7 _ _ _ _ e3 rfl rfl rfl).1
  rw [hlen]
  show _ % 128 = _
  rw [this]
  simp only [Nat.add_zero, Nat.add_assoc]
end Go.AM

/- The lowest bit of a word, and the bits one after another. -/
namespace Go.AM
theorem low_split : ∀ (n x : Nat), x ≤ n → x ≠ 0 → ∃ k m, x = 2 ^ k * (2 * m + 1)
  | 0, x, h, h0 => absurd (Nat.le_zero.1 h) h0
  | n + 1, x, h, h0 => by
    by_cases ho : x % 2 = 1
    · exact ⟨0, x / 2, by omega⟩
    · obtain ⟨k, m, e⟩ := low_split n (x / 2) (by omega) (by omega)
      exact ⟨k + 1, m, by rw [Nat.pow_succ, Nat.mul_comm (2 ^ k) 2, Nat.mul_assoc, ← e]; omega⟩
theorem low_lt {k m : Nat} (h : 2 ^ k * (2 * m + 1) < 18446744073709551616) : k < 64 := by
  rcases Nat.lt_or_ge k 64 with h1 | h1
  · exact h1
  · have h2 : 2 ^ 64 ≤ 2 ^ k := Nat.pow_le_pow_right (by decide) h1
    have h3 : 2 ^ k * 1 ≤ 2 ^ k * (2 * m + 1) := Nat.mul_le_mul_left _ (by omega)
    have : (2 : Nat) ^ 64 = 18446744073709551616 := by decide
    omega
theorem odd_bit (m i : Nat) : (2 * m + 1).testBit i = if i = 0 then true else (2 * m).testBit i := by
  cases i with
  | zero => simp
  | succ i => simp [Nat.testBit_succ]; congr 1; omega
theorem land_neg {k m : Nat} (h : 2 ^ k * (2 * m + 1) < 18446744073709551616) : (2 ^ k * (2 * m + 1)) &&& (18446744073709551616 - 2 ^ k * (2 * m + 1)) = 2 ^ k := by
  have hk := low_lt h
  have e : (18446744073709551616 : Nat) = 2 ^ k * 2 ^ (64 - k) := by rw [← Nat.pow_add, show k + (64 - k) = 64 by omega]
  have hlt : 2 * m + 1 < 2 ^ (64 - k) := by
    rw [e] at h; exact Nat.lt_of_mul_lt_mul_left h
  have e2 : 18446744073709551616 - 2 ^ k * (2 * m + 1) = 2 ^ k * (2 ^ (64 - k) - (2 * m + 1)) := by rw [e, Nat.mul_sub]
  rw [e2]
  apply Nat.eq_of_testBit_eq
  intro i
  rw [Nat.testBit_and, Nat.testBit_two_pow_mul, Nat.testBit_two_pow_mul, Nat.testBit_two_pow, Nat.testBit_two_pow_sub_succ (by omega), odd_bit]
  by_cases h1 : i ≥ k
  · by_cases h2 : i - k = 0
    · have : k = i := by omega
      subst this
      simp; omega
    · have : ¬ k = i := by omega
      simp [h1, h2, this]
      intro a _; exact a
  · have : ¬ k = i := by omega
    simp [h1, this]
theorem land_pred (k m : Nat) : (2 ^ k * (2 * m + 1)) &&& (2 ^ k * (2 * m + 1) - 1) = 2 ^ k * (2 * m) := by
  have hp : 0 < 2 ^ k := Nat.two_pow_pos k
  have e : 2 ^ k * (2 * m + 1) - 1 = 2 ^ k * (2 * m) + (2 ^ k - 1) := by rw [Nat.mul_add, Nat.mul_one]; omega
  rw [e]
  apply Nat.eq_of_testBit_eq
  intro i
  rw [Nat.testBit_and, Nat.testBit_two_pow_mul, Nat.testBit_two_pow_mul_add _ (by omega), Nat.testBit_two_pow_mul, odd_bit]
  by_cases h1 : i ≥ k
  · have : ¬ i < k := by omega
    by_cases h2 : i - k = 0
    · simp [h1, h2, this]
    · simp [h1, h2, this]
  · simp [h1]
theorem filter_first {p : Nat → Bool} {k : Nat} (h : ∀ j, j < k → p j = false) (hk : p k = true) : ∀ n, k < n → (List.range n).filter p = k :: (List.range n).filter fun j => p j && decide (j ≠ k)
  | 0, hn => by omega
  | n + 1, hn => by
    rw [List.range_succ, List.filter_append, List.filter_append]
    by_cases e : k = n
    · subst e
      have h1 : (List.range k).filter p = [] := List.filter_eq_nil_iff.2 fun j hj => by rw [h j (List.mem_range.1 hj)]; simp
      have h2 : (List.range k).filter (fun j => p j && decide (j ≠ k)) = [] := List.filter_eq_nil_iff.2 fun j hj => by rw [h j (List.mem_range.1 hj)]; simp
      rw [h1, h2]; simp [hk]
    · rw [filter_first h hk n (by omega)]
      have : [n].filter p = [n].filter fun j => p j && decide (j ≠ k) := List.filter_congr fun j hj => by
        have : j = n := by simpa using hj
        subst this
        rw [decide_eq_true (Ne.symm e), Bool.and_true]
      rw [this]; rfl
theorem bitsW_zero : bitsW 0 = [] := by decide
theorem bitsW_step {x : Nat} (h0 : x ≠ 0) (h : x < 18446744073709551616) : ∃ k, k < 64 ∧ x &&& (18446744073709551616 - x) = 2 ^ k ∧ bitsW x = k :: bitsW (x &&& (x - 1)) ∧ (x &&& (x - 1)) < x := by
  obtain ⟨k, m, rfl⟩ := low_split x x (Nat.le_refl _) h0
  have hk := low_lt h
  have hp : 0 < 2 ^ k := Nat.two_pow_pos k
  refine ⟨k, hk, land_neg h, ?_, ?_⟩
  · rw [land_pred]
    unfold bitsW
    rw [filter_first (k := k) (fun j hj => ?_) ?_ 64 hk]
    · congr 1
      refine List.filter_congr fun j hj => ?_
      rw [Nat.testBit_two_pow_mul, Nat.testBit_two_pow_mul, odd_bit]
      by_cases h1 : j ≥ k
      · by_cases h2 : j - k = 0
        · have : j = k := by omega
          simp [h1, h2, this]
        · have : j ≠ k := by omega
          simp [h1, h2, this]
      · simp [h1]
    · rw [Nat.testBit_two_pow_mul, odd_bit]; simp
    · rw [Nat.testBit_two_pow_mul, decide_eq_false (by omega), Bool.false_and]
  · rw [land_pred]; exact Nat.mul_lt_mul_of_pos_left (by omega) hp
def tzTab : List Int := [0, 1, 56, 2, 57, 49, 28, 3, 61, 58, 42, 50, 38, 29, 17, 4, 62, 47, 59, 36, 45, 43, 51, 22, 53, 39, 33, 30, 24, 18, 12, 5, 63, 55, 48, 27, 60, 41, 37, 16, 46, 35, 44, 21, 52, 32, 23, 11, 54, 26, 40, 15, 34, 20, 31, 10, 25, 14, 19, 9, 13, 8, 7, 6]
theorem tz_look : ∀ k : Nat, k < 64 → (2 ^ k * 285870213051353865 % 18446744073709551616) >>> 58 < 64 ∧ tzTab.getD ((2 ^ k * 285870213051353865 % 18446744073709551616) >>> 58) 0 = (k : Int) := by decide +kernel
end Go.AM

/- The machine's steps of counting. -/
namespace Go.AM
theorem wrapU {n : Nat} (h : n < 18446744073709551616) : IntKind.u64.wrap (n : Int) = n := by simp [IntKind.wrap, IntKind.signed, IntKind.bits]; omega
theorem wrapI {n : Nat} (h : n < 9223372036854775808) : IntKind.i64.wrap (n : Int) = n := by simp [IntKind.wrap, IntKind.signed, IntKind.bits]; omega
theorem shrN (x k : Nat) (hk : k < 64) : bShr .u64 (x : Int) (k : Int) = ((x >>> k : Nat) : Int) := bShr_nat hk
theorem shr_lt {x k : Nat} (h : x < 18446744073709551616) : x >>> k < 18446744073709551616 := Nat.lt_of_le_of_lt (Nat.shiftRight_le _ _) h
theorem pop1 {x : Nat} (hx : x < 18446744073709551616) : IntKind.u64.wrap (bAnd .u64 (bShr .u64 (x : Int) 1) 6148914691236517205 + bAnd .u64 (x : Int) 6148914691236517205) = ((f1 6148914691236517205 x : Nat) : Int) := by
  have e1 : bShr .u64 (x : Int) 1 = ((x >>> 1 : Nat) : Int) := shrN x 1 (by decide)
  have e2 : bAnd .u64 ((x >>> 1 : Nat) : Int) 6148914691236517205 = (((x >>> 1) &&& 6148914691236517205 : Nat) : Int) := bAnd_nat (b := 6148914691236517205) (shr_lt hx) (by decide)
  have e3 : bAnd .u64 (x : Int) 6148914691236517205 = ((x &&& 6148914691236517205 : Nat) : Int) := bAnd_nat (b := 6148914691236517205) hx (by decide)
  have hl := (popN_bits hx).1
  rw [e1, e2, e3, ← Int.natCast_add]
  exact wrapU hl
theorem pop2 {x : Nat} (hx : x < 18446744073709551616) (hl : f2 3689348814741910323 x < 18446744073709551616) : IntKind.u64.wrap (bAnd .u64 (bShr .u64 (x : Int) 2) 3689348814741910323 + bAnd .u64 (x : Int) 3689348814741910323) = ((f2 3689348814741910323 x : Nat) : Int) := by
  have e1 : bShr .u64 (x : Int) 2 = ((x >>> 2 : Nat) : Int) := shrN x 2 (by decide)
  have e2 : bAnd .u64 ((x >>> 2 : Nat) : Int) 3689348814741910323 = (((x >>> 2) &&& 3689348814741910323 : Nat) : Int) := bAnd_nat (b := 3689348814741910323) (shr_lt hx) (by decide)
  have e3 : bAnd .u64 (x : Int) 3689348814741910323 = ((x &&& 3689348814741910323 : Nat) : Int) := bAnd_nat (b := 3689348814741910323) hx (by decide)
  rw [e1, e2, e3, ← Int.natCast_add]
  exact wrapU hl
theorem pop3 {x : Nat} (hx : x < 5000000000000000000) : bAnd .u64 (IntKind.u64.wrap (bShr .u64 (x : Int) 4 + (x : Int))) 1085102592571150095 = ((f3 1085102592571150095 x : Nat) : Int) := by
  have e1 : bShr .u64 (x : Int) 4 = ((x >>> 4 : Nat) : Int) := shrN x 4 (by decide)
  have hle : x >>> 4 ≤ x := Nat.shiftRight_le _ _
  rw [e1, ← Int.natCast_add, wrapU (by omega)]
  exact bAnd_nat (b := 1085102592571150095) (by omega) (by decide)
theorem pop4 {x k d : Nat} (hk : k < 64) (hd : 2 ^ k = d) (hx : x < 1000000000000000000) : IntKind.u64.wrap ((x : Int) + bShr .u64 (x : Int) (k : Int)) = ((x + x / d : Nat) : Int) := by
  rw [shrN x k hk, Nat.shiftRight_eq_div_pow, hd, ← Int.natCast_add]
  refine wrapU ?_
  have := Nat.div_le_self x d
  omega
theorem pop5 {x : Nat} (hx : x < 9223372036854775808) : bAnd .i64 (IntKind.i64.wrap (x : Int)) 127 = ((x % 128 : Nat) : Int) := by
  rw [wrapI hx]
  have e : x &&& 127 = x % 128 := Nat.and_two_pow_sub_one_eq_mod x 7
  have h1 : (BitVec.ofInt 64 (x : Int) &&& BitVec.ofInt 64 127).toNat = x &&& 127 := by
    rw [BitVec.toNat_and, show BitVec.ofInt 64 (x : Int) = BitVec.ofNat 64 x from BitVec.ofInt_natCast _ _, show BitVec.ofInt 64 127 = BitVec.ofNat 64 127 from rfl, BitVec.toNat_ofNat, BitVec.toNat_ofNat, Nat.mod_eq_of_lt (by omega), Nat.mod_eq_of_lt (by decide)]
  show IntKind.i64.wrap (((BitVec.ofInt 64 (x : Int) &&& BitVec.ofInt 64 127).toNat : Nat) : Int) = _
  rw [h1, e]
  exact wrapI (by omega)
theorem tz_ix {x k : Nat} (hx : x < 18446744073709551616) (h0 : x ≠ 0) (hk : k < 64) (hl : x &&& (18446744073709551616 - x) = 2 ^ k) : bShr .u64 (IntKind.u64.wrap (bAnd .u64 (x : Int) (IntKind.u64.wrap (0 - (x : Int))) * 285870213051353865)) 58 = (((2 ^ k * 285870213051353865 % 18446744073709551616) >>> 58 : Nat) : Int) := by
  have e1 : IntKind.u64.wrap (0 - (x : Int)) = ((18446744073709551616 - x : Nat) : Int) := by
    simp [IntKind.wrap, IntKind.signed, IntKind.bits]; omega
  rw [e1, bAnd_nat hx (by omega), hl]
  have e2 : IntKind.u64.wrap (((2 ^ k : Nat) : Int) * 285870213051353865) = ((2 ^ k * 285870213051353865 % 18446744073709551616 : Nat) : Int) := by
    generalize 2 ^ k = p
    simp [IntKind.wrap, IntKind.signed, IntKind.bits]
  rw [e2]
  exact shrN _ 58 (by decide)
end Go.AM

/- The members of a set, word by word. -/
namespace Go.AM
def memK (W : List Int) (k : Nat) : List Nat := (bitsW (W.getD k 0).toNat).map fun j => 64 * k + j
def memT (W : List Int) (k : Nat) : List Nat := (List.range k).flatMap (memK W)
theorem memT_succ (W : List Int) (k : Nat) : memT W (k + 1) = memT W k ++ memK W k := by
  unfold memT; rw [List.range_succ, List.flatMap_append]; simp
theorem memT_len (W : List Int) : ∀ k, (memT W k).length ≤ 64 * k
  | 0 => by simp [memT]
  | k + 1 => by
    rw [memT_succ, List.length_append]
    have := memT_len W k
    have h2 : (memK W k).length ≤ 64 := by
      unfold memK bitsW; rw [List.length_map]
      exact Nat.le_trans (List.length_filter_le _ _) (by simp)
    omega
theorem range_add (p : Nat → Bool) (a : Nat) : ∀ b, (List.range (a + b)).filter p = (List.range a).filter p ++ ((List.range b).filter fun j => p (a + j)).map fun j => a + j
  | 0 => by simp
  | b + 1 => by
    rw [← Nat.add_assoc, List.range_succ, List.filter_append, range_add p a b, List.range_succ, List.filter_append, List.map_append, List.append_assoc]
    congr 2
    simp only [List.filter_cons, List.filter_nil]
    split <;> simp
/-- The members are the places that have their bit. -/
theorem memT_filter {W : List Int} (hW : okW W) : ∀ k, memT W k = (List.range (64 * k)).filter fun (i : Nat) => hasW W (i : Int)
  | 0 => by simp [memT]
  | k + 1 => by
    rw [memT_succ, memT_filter hW k, Nat.mul_succ, range_add]
    congr 1
    unfold memK bitsW
    congr 1
    refine List.filter_congr fun j hj => ?_
    have hj := List.mem_range.1 hj
    rw [hasW_nat hW, show (64 * k + j) / 64 = k by omega, show (64 * k + j) % 64 = j by omega]
end Go.AM

/- Strict orders as tables of truths. -/
namespace Go.AM
/-! ### Members of a row. -/
def memB (b : List Bool) : List Nat := (List.range b.length).filter fun i => b.getD i false
theorem memB_mem {b : List Bool} {i : Nat} : i ∈ memB b ↔ i < b.length ∧ b.getD i false = true := by
  unfold memB; simp [List.mem_filter]
theorem memB_le (b : List Bool) : (memB b).length ≤ b.length := by
  unfold memB; have := List.length_filter_le (fun i => b.getD i false) (List.range b.length); simpa using this
def subB (a b : List Bool) : Bool := (List.range a.length).all fun i => !a.getD i false || b.getD i false
theorem subB_iff {a b : List Bool} : subB a b = true ↔ ∀ i, i < a.length → a.getD i false = true → b.getD i false = true := by
  unfold subB
  rw [List.all_eq_true]
  constructor
  · intro h i hi ha
    have := h i (List.mem_range.2 hi)
    rw [ha] at this
    simpa using this
  · intro h i hi
    have := h i (List.mem_range.1 hi)
    cases ha : a.getD i false
    · rfl
    · rw [this ha]; rfl
/-! ### Orders. -/
def poB (n : Nat) (t : List (List Bool)) : Bool := (List.range n).all fun i => (memB (rowT t i)).all fun j => !decide (j = i) && subB (rowT t j) (rowT t i)
structure IsPo (n : Nat) (t : List (List Bool)) : Prop where
  irr : ∀ i, i < n → atT t i i = false
  trans : ∀ i j k, i < n → j < n → k < n → atT t i j = true → atT t j k = true → atT t i k = true
theorem poB_iff {n : Nat} {t : List (List Bool)} (h : Sq n t) : poB n t = true ↔ IsPo n t := by
  unfold poB
  simp only [List.all_eq_true, List.mem_range, memB_mem, Bool.and_eq_true, Bool.not_eq_true', decide_eq_false_iff_not]
  constructor
  · intro H
    refine ⟨fun i hi => ?_, fun i j k hi hj hk h1 h2 => ?_⟩
    · cases e : atT t i i
      · rfl
      · exact absurd rfl (H i hi i ⟨by rw [h.rowLen hi]; exact hi, e⟩).1
    · exact subB_iff.1 (H i hi j ⟨by rw [h.rowLen hi]; exact hj, h1⟩).2 k (by rw [h.rowLen hj]; exact hk) h2
  · intro H i hi j hj
    have hjn : j < n := by rw [h.rowLen hi] at hj; exact hj.1
    refine ⟨fun e => ?_, subB_iff.2 fun k hk ha => ?_⟩
    · subst e
      have := H.irr _ hi
      unfold atT at this
      rw [this] at hj
      exact absurd hj.2 (by simp)
    · rw [h.rowLen hjn] at hk
      exact H.trans i j k hi hjn hk hj.2 ha
theorem IsPo.inv {n : Nat} {t : List (List Bool)} (h : IsPo n t) : IsPo n (invT n t) := by
  refine ⟨fun i hi => by rw [atT_inv hi hi]; exact h.irr i hi, fun i j k hi hj hk h1 h2 => ?_⟩
  rw [atT_inv hi hj] at h1
  rw [atT_inv hj hk] at h2
  rw [atT_inv hi hk]
  exact h.trans k j i hk hj hi h2 h1
theorem IsPo.warsh {n : Nat} {t : List (List Bool)} (hs : Sq n t) (h : IsPo n t) : warsh n t = t := by
  refine tab_ext hs.warsh hs fun i j hi hj => bool_ext ⟨fun hw => ?_, fun hw => warsh_sub hs hi hj hw⟩
  exact warsh_least hs (S := fun a b => atT t a b = true) (fun a b _ _ h => h) (fun a c b ha hc hb h1 h2 => h.trans a c b ha hc hb h1 h2) hi hj hw
theorem IsPo.acyc {n : Nat} {t : List (List Bool)} (hs : Sq n t) (h : IsPo n t) : acyc n t = true := by
  rw [acyc_iff]
  intro i hi
  rw [h.warsh hs]
  exact h.irr i hi
/-! ### Covers. -/
def covT (n : Nat) (t : List (List Bool)) : List (List Bool) := redT n t (compT n t (warsh n t))
theorem Sq.cov {n : Nat} {t : List (List Bool)} (hs : Sq n t) : Sq n (covT n t) := Sq.red hs (Sq.comp hs.warsh)
def covB (n : Nat) (t : List (List Bool)) (i j : Nat) : Bool := atT t i j && !(List.range n).any fun k => atT t i k && atT t k j
theorem atT_cov {n : Nat} {t : List (List Bool)} (hs : Sq n t) (h : IsPo n t) {i j : Nat} (hi : i < n) (hj : j < n) : atT (covT n t) i j = covB n t i j := by
  unfold covT covB
  rw [atT_red hs (Sq.comp hs.warsh) hi hj, h.warsh hs]
  congr 2
  refine bool_ext ?_
  rw [atT_comp hs hi hj, List.any_eq_true]
  simp
/-! ### Sets of elements. -/
def setR (n : Nat) (f : Nat → Bool) : List Bool := (List.range n).map f
theorem setR_len (n : Nat) (f : Nat → Bool) : (setR n f).length = n := by simp [setR]
theorem setR_get {n : Nat} {f : Nat → Bool} {i : Nat} (h : i < n) : (setR n f).getD i false = f i := by
  unfold setR; simp [List.getD_eq_getElem?_getD, h]
theorem setR_ext {n : Nat} {f g : Nat → Bool} (h : ∀ i, i < n → f i = g i) : setR n f = setR n g := List.map_congr_left fun i hi => h i (List.mem_range.1 hi)
/-- The elements above a member. -/
def abvF (n : Nat) (t : List (List Bool)) (b : List Bool) (j : Nat) : Bool := (List.range n).any fun i => b.getD i false && atT t i j
def upT (n : Nat) (t : List (List Bool)) (b : List Bool) : List Bool := setR n fun j => b.getD j false || abvF n t b j
end Go.AM

/- Levels of an order; tables filled pair by pair. -/
namespace Go.AM
structure IsLev (n : Nat) (t : List (List Bool)) (o : List Int) : Prop where
  len : o.length = n
  pos : ∀ j, j < n → 0 ≤ o.getD j 0
  up : ∀ i j, i < n → j < n → atT t i j = true → o.getD i 0 + 1 ≤ o.getD j 0
  att : ∀ j, j < n → o.getD j 0 = 0 ∨ ∃ i, i < n ∧ atT t i j = true ∧ o.getD j 0 = o.getD i 0 + 1
theorem lev_le {n : Nat} {t : List (List Bool)} {o o' : List Int} (h : IsLev n t o) (hp : ∀ j, j < n → 0 ≤ o'.getD j 0) (hu : ∀ i j, i < n → j < n → atT t i j = true → o'.getD i 0 + 1 ≤ o'.getD j 0) :
    ∀ (m : Nat) (j : Nat), j < n → o.getD j 0 ≤ m → o.getD j 0 ≤ o'.getD j 0
  | 0, j, hj, hm => by have := hp j hj; omega
  | m + 1, j, hj, hm => by
    rcases h.att j hj with h0 | ⟨i, hi, ha, he⟩
    · have := hp j hj; omega
    · have := lev_le h hp hu m i hi (by omega)
      have := hu i j hi hj ha
      omega
/-! ### The program: along an order. -/
def levJ (i : Nat) (o : List Int) (j : Nat) : List Int := o.set j (max (o.getD j 0) (o.getD i 0 + 1))
def levS (t : List (List Bool)) (o : List Int) (i : Nat) : List Int := (memB (rowT t i)).foldl (levJ i) o
theorem levJ_len (i : Nat) (l : List Nat) : ∀ o : List Int, (l.foldl (levJ i) o).length = o.length := by
  induction l with
  | nil => intro o; rfl
  | cons a l ih => intro o; rw [List.foldl_cons, ih]; simp [levJ]
theorem levJ_get (i : Nat) : ∀ (l : List Nat) (o : List Int), l.Nodup → (∀ j ∈ l, j < o.length ∧ j ≠ i) → ∀ k, (l.foldl (levJ i) o).getD k 0 = if k ∈ l then max (o.getD k 0) (o.getD i 0 + 1) else o.getD k 0
  | [], o, _, _, k => by simp
  | a :: l, o, hn, hl, k => by
    have ha := hl a (List.mem_cons_self ..)
    have hn2 := List.nodup_cons.1 hn
    rw [List.foldl_cons, levJ_get i l _ hn2.2 (fun j hj => by have := hl j (List.mem_cons_of_mem _ hj); simpa [levJ] using this) k]
    have hi : (levJ i o a).getD i 0 = o.getD i 0 := Go.AM.getD_set_ne ha.2 ..
    rw [hi]
    by_cases e : a = k
    · subst e
      rw [if_neg hn2.1, if_pos (List.mem_cons_self ..)]
      exact Go.AM.getD_set_eq ha.1 _ _
    · have : (levJ i o a).getD k 0 = o.getD k 0 := Go.AM.getD_set_ne e ..
      rw [this]
      have e2 : (k ∈ a :: l) = (k ∈ l) := by
        apply propext; rw [List.mem_cons]; exact ⟨fun h => h.resolve_left (fun h => e h.symm), .inr⟩
      simp only [e2]
theorem memB_nodup (b : List Bool) : (memB b).Nodup := List.Pairwise.sublist List.filter_sublist List.nodup_range
theorem levS_len (t : List (List Bool)) (o : List Int) (i : Nat) : (levS t o i).length = o.length := levJ_len i _ o
theorem levS_get {n : Nat} {t : List (List Bool)} (hs : Sq n t) (hp : IsPo n t) {o : List Int} (ho : o.length = n) {i : Nat} (hi : i < n) {k : Nat} (hk : k < n) : (levS t o i).getD k 0 = if atT t i k = true then max (o.getD k 0) (o.getD i 0 + 1) else o.getD k 0 := by
  unfold levS
  rw [levJ_get i _ _ (memB_nodup _) (fun j hj => by
    have := memB_mem.1 hj
    rw [hs.rowLen hi] at this
    refine ⟨by omega, fun e => ?_⟩
    subst e
    have h2 := hp.irr _ hi
    unfold atT at h2
    rw [h2] at this
    exact absurd this.2 (by simp)) k]
  have e : (k ∈ memB (rowT t i)) = (atT t i k = true) := by
    apply propext; rw [memB_mem, hs.rowLen hi]; exact ⟨fun h => h.2, fun h => ⟨hk, h⟩⟩
  simp only [e]
structure LevI (n : Nat) (t : List (List Bool)) (pre : List Nat) (o : List Int) : Prop where
  len : o.length = n
  pos : ∀ j, j < n → 0 ≤ o.getD j 0
  up : ∀ i j, i ∈ pre → j < n → atT t i j = true → o.getD i 0 + 1 ≤ o.getD j 0
  att : ∀ j, j < n → o.getD j 0 = 0 ∨ ∃ i, i ∈ pre ∧ atT t i j = true ∧ o.getD j 0 = o.getD i 0 + 1
  bnd : ∀ j, j < n → o.getD j 0 ≤ pre.length
theorem LevI.nil (n : Nat) (t : List (List Bool)) : LevI n t [] (List.replicate n 0) := by
  have e : ∀ j, (List.replicate n (0 : Int)).getD j 0 = 0 := fun j => by rw [List.getD_eq_getElem?_getD, List.getElem?_replicate]; split <;> rfl
  exact ⟨by simp, fun j _ => by rw [e]; exact Int.le_refl _, (fun i j h => absurd h List.not_mem_nil), fun j _ => Or.inl (e j), fun j _ => by rw [e]; simp⟩
theorem nodup_ix {l : List Nat} (h : l.Nodup) {p q : Nat} (hp : p < l.length) (hq : q < l.length) (e : l[p] = l[q]) : p = q := (List.getElem_inj h).1 e
/-- What stands before: the elements of a list that is closed downwards. -/
theorem LevI.snoc {n : Nat} {t : List (List Bool)} (hs : Sq n t) (hp : IsPo n t) {pre : List Nat} {o : List Int} (h : LevI n t pre o) {i : Nat} (hi : i < n) (hin : i ∉ pre) (hpr : ∀ k ∈ pre, k < n) (hcl : ∀ k, k ∈ pre → atT t i k = false) : LevI n t (pre ++ [i]) (levS t o i) := by
  have hg := fun k hk => levS_get (k := k) hs hp h.len hi hk
  have hgi : (levS t o i).getD i 0 = o.getD i 0 := by rw [hg i hi, hp.irr i hi]; simp
  have hgp : ∀ k, k ∈ pre → (levS t o i).getD k 0 = o.getD k 0 := fun k hk => by rw [hg k (hpr k hk), hcl k hk]; simp
  have hge : ∀ k, k < n → o.getD k 0 ≤ (levS t o i).getD k 0 := fun k hk => by rw [hg k hk]; split <;> omega
  refine ⟨by rw [levS_len, h.len], fun j hj => Int.le_trans (h.pos j hj) (hge j hj), fun k j hk hj ha => ?_, fun j hj => ?_, fun j hj => ?_⟩
  · rcases List.mem_append.1 hk with hk | hk
    · rw [hgp k hk]
      exact Int.le_trans (h.up k j hk hj ha) (hge j hj)
    · obtain rfl := List.mem_singleton.1 hk
      rw [hgi, hg j hj, if_pos ha]
      omega
  · rw [hg j hj]
    have hold : o.getD j 0 = 0 ∨ ∃ k, k ∈ pre ++ [i] ∧ atT t k j = true ∧ o.getD j 0 = (levS t o i).getD k 0 + 1 := by
      rcases h.att j hj with h0 | ⟨k, hk, ha, he⟩
      · exact .inl h0
      · exact .inr ⟨k, List.mem_append_left _ hk, ha, by rw [hgp k hk]; exact he⟩
    split
    · rename_i ha
      by_cases hm : o.getD i 0 + 1 ≤ o.getD j 0
      · rw [Int.max_eq_left hm]; exact hold
      · rw [Int.max_eq_right (by omega)]
        exact .inr ⟨i, List.mem_append_right _ (List.mem_singleton.2 rfl), ha, by rw [hgi]⟩
    · exact hold
  · rw [hg j hj, List.length_append]
    have h1 := h.bnd j hj
    have h2 := h.bnd i hi
    simp only [List.length_singleton, Int.natCast_add, Int.natCast_one]
    split <;> omega
theorem LevI.all {n : Nat} {t : List (List Bool)} (hs : Sq n t) (hp : IsPo n t) {l : List Nat} (ho : OrdI n t l) : ∀ k, k ≤ l.length → LevI n t (l.take k) ((l.take k).foldl (levS t) (List.replicate n 0))
  | 0, _ => by simpa using LevI.nil n t
  | k + 1, hk => by
    have ih := LevI.all hs hp ho k (by omega)
    have e : l.take (k + 1) = l.take k ++ [l[k]] := by rw [List.take_succ_eq_append_getElem (by omega)]
    rw [e, List.foldl_append]
    have hm : l[k] ∈ l := List.getElem_mem ..
    have hin : ∀ x ∈ l, x < n := ho.rng
    refine LevI.snoc hs hp ih (hin _ hm) ?_ (fun x hx => hin x (List.mem_of_mem_take hx)) fun x hx => ?_
    · intro hx
      obtain ⟨q, hq, hqe⟩ := List.mem_iff_getElem.1 hx
      have hql : q < k := by simp at hq; omega
      rw [List.getElem_take] at hqe
      exact absurd (nodup_ix ho.nd (by omega) (by omega) hqe) (by omega)
    · cases ea : atT t l[k] x
      · rfl
      · exfalso
        obtain ⟨q, hq, hqe⟩ := List.mem_iff_getElem.1 hx
        have hql : q < k := by simp at hq; omega
        rw [List.getElem_take] at hqe
        obtain ⟨p, hp1, hp2⟩ := ho.top q x l[k] (by rw [List.getElem?_eq_getElem (by omega), hqe]) (hin _ hm) ea
        rw [List.getElem?_eq_getElem (by omega)] at hp2
        exact absurd (nodup_ix ho.nd (by omega) (by omega) (Option.some.inj hp2)) (by omega)
/-! ### The reference: rounds. -/
def relJ (t : List (List Bool)) (i j : Nat) (o : List Int) : List Int := if atT t i j = true ∧ o.getD j 0 ≤ o.getD i 0 then o.set j (o.getD i 0 + 1) else o
structure RndI (n : Nat) (t : List (List Bool)) (L : List Int) (r : Nat) (vis : Nat → Nat → Prop) (c : Bool) (o : List Int) : Prop where
  len : o.length = n
  pos : ∀ j, j < n → 0 ≤ o.getD j 0
  le : ∀ j, j < n → o.getD j 0 ≤ L.getD j 0
  low : ∀ j, j < n → min (L.getD j 0) r ≤ o.getD j 0
  nxt : ∀ i j, i < n → j < n → vis i j → atT t i j = true → min (L.getD i 0) r + 1 ≤ o.getD j 0
  same : c = false → ∀ i j, i < n → j < n → vis i j → atT t i j = true → o.getD i 0 < o.getD j 0
theorem RndI.start {n : Nat} {t : List (List Bool)} {L : List Int} (hL : IsLev n t L) : RndI n t L 0 (fun _ _ => False) false (List.replicate n 0) := by
  have e : ∀ j, (List.replicate n (0 : Int)).getD j 0 = 0 := fun j => by rw [List.getD_eq_getElem?_getD, List.getElem?_replicate]; split <;> rfl
  refine ⟨by simp, fun j _ => by rw [e]; exact Int.le_refl _, fun j hj => by rw [e]; exact hL.pos j hj, fun j hj => ?_, fun _ _ _ _ h => h.elim, fun _ _ _ _ _ h => h.elim⟩
  rw [e]; have := hL.pos j hj; omega
theorem RndI.step {n : Nat} {t : List (List Bool)} {L : List Int} (hL : IsLev n t L) (hp : IsPo n t) {r : Nat} {vis vis' : Nat → Nat → Prop} {c : Bool} {o : List Int} (h : RndI n t L r vis c o) {i j : Nat} (hi : i < n) (hj : j < n)
    (hv : ∀ a b, vis' a b → vis a b ∨ (a = i ∧ b = j)) :
    RndI n t L r vis' (c || (atT t i j && decide (o.getD j 0 ≤ o.getD i 0))) (relJ t i j o) := by
  unfold relJ
  by_cases hc : atT t i j = true ∧ o.getD j 0 ≤ o.getD i 0
  · have hne : i ≠ j := fun e => by subst e; have := hp.irr _ hi; rw [this] at hc; exact absurd hc.1 (by simp)
    rw [if_pos hc]
    have hg : ∀ k, (o.set j (o.getD i 0 + 1)).getD k 0 = if k = j then o.getD i 0 + 1 else o.getD k 0 := fun k => by
      by_cases e : k = j
      · subst e; rw [if_pos rfl]; exact Go.AM.getD_set_eq (by rw [h.len]; exact hj) _ _
      · rw [if_neg e]; exact Go.AM.getD_set_ne (fun q => e q.symm) ..
    have hge : ∀ k, k < n → o.getD k 0 ≤ (o.set j (o.getD i 0 + 1)).getD k 0 := fun k _ => by rw [hg]; split; (rename_i e; subst e; omega); exact Int.le_refl _
    refine ⟨by simp [h.len], fun k hk => Int.le_trans (h.pos k hk) (hge k hk), fun k hk => ?_, fun k hk => Int.le_trans (h.low k hk) (hge k hk), fun a b ha hb hab hat => ?_, fun hf => ?_⟩
    · rw [hg]
      split
      · rename_i e; subst e
        have := h.le i hi
        have := hL.up i _ hi hj hc.1
        omega
      · exact h.le k hk
    · rcases hv a b hab with h1 | ⟨rfl, rfl⟩
      · exact Int.le_trans (h.nxt a b ha hb h1 hat) (hge b hb)
      · rw [hg, if_pos rfl]
        have := h.low a ha
        omega
    · exfalso; rw [hc.1, decide_eq_true hc.2] at hf; simp at hf
  · rw [if_neg hc]
    refine ⟨h.len, h.pos, h.le, h.low, fun a b ha hb hab hat => ?_, fun hf a b ha hb hab hat => ?_⟩
    · rcases hv a b hab with h1 | ⟨rfl, rfl⟩
      · exact h.nxt a b ha hb h1 hat
      · have := h.low a ha
        have : ¬ o.getD b 0 ≤ o.getD a 0 := fun q => hc ⟨hat, q⟩
        omega
    · rcases hv a b hab with h1 | ⟨rfl, rfl⟩
      · exact h.same (by rw [Bool.or_eq_false_iff] at hf; exact hf.1) a b ha hb h1 hat
      · have : ¬ o.getD b 0 ≤ o.getD a 0 := fun q => hc ⟨hat, q⟩
        omega
theorem RndI.next {n : Nat} {t : List (List Bool)} {L : List Int} (hL : IsLev n t L) {r : Nat} {vis vis' : Nat → Nat → Prop} {c : Bool} {o : List Int} (h : RndI n t L r vis c o) (hv : ∀ i j, i < n → j < n → vis i j) (hv' : ∀ i j, ¬ vis' i j) : RndI n t L (r + 1) vis' false o := by
  refine ⟨h.len, h.pos, h.le, fun j hj => ?_, fun i j _ _ hh => (hv' i j hh).elim, fun _ i j _ _ hh => (hv' i j hh).elim⟩
  rcases hL.att j hj with h0 | ⟨i, hi, ha, he⟩
  · have := h.pos j hj; omega
  · have := h.nxt i j hi hj (hv i j hi hj) ha; omega
theorem RndI.stop {n : Nat} {t : List (List Bool)} {L : List Int} (hL : IsLev n t L) {r : Nat} {vis : Nat → Nat → Prop} {o : List Int} (h : RndI n t L r vis false o) (hv : ∀ i j, i < n → j < n → vis i j) : o = L := by
  refine getD_ext (by rw [h.len, hL.len]) fun k hk => ?_
  rw [h.len] at hk
  have h1 := lev_le hL h.pos (fun i j hi hj ha => by have := h.same rfl i j hi hj (hv i j hi hj) ha; omega) (L.getD k 0).toNat k hk (by have := hL.pos k hk; omega)
  have h2 := h.le k hk
  omega
/-! ### Tables filled pair by pair. -/
def tabF (n : Nat) (f : Nat → Nat → Bool) : List (List Bool) := (List.range n).map fun i => setR n (f i)
theorem tabF_sq (n : Nat) (f : Nat → Nat → Bool) : Sq n (tabF n f) := ⟨by simp [tabF], fun b hb => by obtain ⟨i, _, rfl⟩ := List.mem_map.1 hb; exact setR_len _ _⟩
theorem rowT_tabF {n : Nat} {f : Nat → Nat → Bool} {i : Nat} (hi : i < n) : rowT (tabF n f) i = setR n (f i) := rowT_of (by simp [tabF, hi])
theorem atT_tabF {n : Nat} {f : Nat → Nat → Bool} {i j : Nat} (hi : i < n) (hj : j < n) : atT (tabF n f) i j = f i j := by unfold atT; rw [rowT_tabF hi, setR_get hj]
end Go.AM

/- Rows made of lists of members. -/
namespace Go.AM
def rowL (n : Nat) (l : List Int) : List Bool := setR n fun i => decide ((i : Int) ∈ l)
theorem rowL_len (n : Nat) (l : List Int) : (rowL n l).length = n := setR_len _ _
theorem rowL_get {n : Nat} {l : List Int} {i : Nat} (h : i < n) : (rowL n l).getD i false = decide ((i : Int) ∈ l) := setR_get h
theorem fold_setBit {n : Nat} : ∀ (l : List Int) (b : List Bool), b.length = n → (∀ x ∈ l, 0 ≤ x ∧ x < n) → l.foldl setBit (setW b n) = setW (l.foldl (fun b x => b.set x.toNat true) b) n
  | [], _, _, _ => rfl
  | x :: l, b, hb, hl => by
    have hx := hl x (List.mem_cons_self ..)
    have h1 := setBit_setW b (i := x.toNat) (by omega)
    rw [hb, Int.toNat_of_nonneg hx.1] at h1
    rw [List.foldl_cons, List.foldl_cons, h1]
    exact fold_setBit l _ (by simp [hb]) fun y hy => hl y (List.mem_cons_of_mem _ hy)
theorem fold_set_get {n : Nat} : ∀ (l : List Int) (b : List Bool), b.length = n → (∀ x ∈ l, 0 ≤ x ∧ x < n) → (l.foldl (fun b x => b.set x.toNat true) b).length = n ∧ ∀ i, i < n → (l.foldl (fun b x => b.set x.toNat true) b).getD i false = (b.getD i false || decide ((i : Int) ∈ l))
  | [], b, hb, _ => ⟨hb, fun i _ => by simp⟩
  | x :: l, b, hb, hl => by
    have hx := hl x (List.mem_cons_self ..)
    obtain ⟨h1, h2⟩ := fold_set_get l (b.set x.toNat true) (by simp [hb]) fun y hy => hl y (List.mem_cons_of_mem _ hy)
    refine ⟨h1, fun i hi => ?_⟩
    rw [List.foldl_cons, h2 i hi, getD_setB]
    by_cases e : x = (i : Int)
    · rw [if_pos ⟨by omega, by omega⟩, decide_eq_true (show (i : Int) ∈ x :: l by rw [e]; exact List.mem_cons_self ..)]; simp
    · rw [if_neg (by omega)]
      congr 1
      refine decide_eq_decide.2 ?_
      rw [List.mem_cons]
      exact ⟨.inr, fun h => h.resolve_left fun h => e h.symm⟩
theorem ofW_row {n : Nat} {l : List Int} (hl : ∀ x ∈ l, 0 ≤ x ∧ x < n) : ofW n l = setW (rowL n l) n := by
  have hz := setW_zero n
  have h1 := fold_setBit l (List.replicate n false) (by simp) hl
  rw [hz] at h1
  have h2 := fold_set_get l (List.replicate n false) (by simp) hl
  unfold ofW
  rw [h1]
  congr 1
  refine getD_extB (by rw [h2.1, rowL_len]) fun i hi => ?_
  rw [h2.1] at hi
  rw [h2.2 i hi, rowL_get hi]
  have e : (List.replicate n false).getD i false = false := by rw [List.getD_eq_getElem?_getD, List.getElem?_replicate]; split <;> rfl
  rw [e, Bool.false_or]
theorem rowL_nil (n : Nat) : rowL n [] = List.replicate n false := by
  refine getD_extB (by simp [rowL_len]) fun i hi => ?_
  rw [rowL_len] at hi
  rw [rowL_get hi, List.getD_eq_getElem?_getD, List.getElem?_replicate]; simp [hi]
theorem rowL_nats {n : Nat} {l : List Nat} : rowL n (l.map fun (i : Nat) => (i : Int)) = setR n fun i => decide (i ∈ l) := by
  refine setR_ext fun i hi => decide_eq_decide.2 ?_
  rw [List.mem_map]
  exact ⟨fun ⟨a, h1, h2⟩ => by rw [← (by omega : a = i)]; exact h1, fun h => ⟨i, h, rfl⟩⟩
/-- The members of a set given by its truths. -/
theorem memB_setR (n : Nat) (f : Nat → Bool) : memB (setR n f) = (List.range n).filter f := by
  unfold memB
  rw [setR_len]
  refine List.filter_congr fun i hi => ?_
  rw [setR_get (List.mem_range.1 hi)]
end Go.AM

/- The restriction of an order. -/
namespace Go.AM
def resT (t : List (List Bool)) (M : List Nat) : List (List Bool) := tabF M.length fun a c => atT t (M.getD a 0) (M.getD c 0)
theorem resT_sq (t : List (List Bool)) (M : List Nat) : Sq M.length (resT t M) := tabF_sq _ _
theorem resT_at {t : List (List Bool)} {M : List Nat} {a c : Nat} (ha : a < M.length) (hc : c < M.length) : atT (resT t M) a c = atT t (M.getD a 0) (M.getD c 0) := atT_tabF ha hc
theorem memB_lt {n : Nat} {b : List Bool} (hb : b.length = n) {a : Nat} (ha : a < (memB b).length) : (memB b).getD a 0 < n := by
  have := (memB_mem.1 (mem_getD ha 0)).1; omega
theorem getD_inj {l : List Nat} (h : l.Nodup) {a c : Nat} (ha : a < l.length) (hc : c < l.length) (e : l.getD a 0 = l.getD c 0) : a = c := by
  have e1 : l.getD a 0 = l[a] := by simp [List.getD_eq_getElem?_getD, ha]
  have e2 : l.getD c 0 = l[c] := by simp [List.getD_eq_getElem?_getD, hc]
  rw [e1, e2] at e
  exact nodup_ix h ha hc e
theorem IsPo.res {n : Nat} {t : List (List Bool)} (h : IsPo n t) {M : List Nat} (hM : ∀ i ∈ M, i < n) : IsPo M.length (resT t M) := by
  have hl : ∀ a, a < M.length → M.getD a 0 < n := fun a ha => hM _ (mem_getD ha 0)
  refine ⟨fun i hi => by rw [resT_at hi hi]; exact h.irr _ (hl i hi), fun i j k hi hj hk h1 h2 => ?_⟩
  rw [resT_at hi hj] at h1
  rw [resT_at hj hk] at h2
  rw [resT_at hi hk]
  exact h.trans _ _ _ (hl i hi) (hl j hj) (hl k hk) h1 h2
end Go.AM

/- Matchings: the search for an alternating path, as a function of lists. -/
namespace Go.AM

/-- The rows name right nodes, the partners are left nodes. -/
structure MOk (n m : Nat) (nb : List (List Int)) (s : List Bool) (L R : List Int) : Prop where
  hnb : nb.length = n ∧ ∀ row ∈ nb, ∀ r ∈ row, 0 ≤ r ∧ r < (m : Int)
  hs : s.length = m
  hL : L.length = n ∧ ∀ x ∈ L, x < (m : Int)
  hR : R.length = m ∧ ∀ x ∈ R, x < (n : Int)

theorem mem_set_or {α : Type} {l : List α} {i : Nat} {a x : α} (h : x ∈ l.set i a) : x ∈ l ∨ x = a := List.mem_or_eq_of_mem_set h

theorem MOk.seen {n m : Nat} {nb : List (List Int)} {s : List Bool} {L R : List Int} (h : MOk n m nb s L R) (i : Nat) : MOk n m nb (s.set i true) L R :=
  ⟨h.hnb, by simp [h.hs], h.hL, h.hR⟩
theorem MOk.join {n m : Nat} {nb : List (List Int)} {s : List Bool} {L R : List Int} (h : MOk n m nb s L R) {l r : Int} (hl : l < (n : Int)) (hr : r < (m : Int)) : MOk n m nb s (L.set l.toNat r) (R.set r.toNat l) :=
  ⟨h.hnb, h.hs, ⟨by simp [h.hL.1], fun x hx => by rcases mem_set_or hx with h1 | h1; exact h.hL.2 x h1; omega⟩, ⟨by simp [h.hR.1], fun x hx => by rcases mem_set_or hx with h1 | h1; exact h.hR.2 x h1; omega⟩⟩

end Go.AM

namespace Go.Proofs.B
open Go.AM
set_option maxRecDepth 100000
@[go_sem] theorem tyd1 : tyd Tryz.prog 1 = some (1, false) := by kernel_rfl
@[go_sem] theorem zeC1 : zeC Tryz.prog 1 = some [.any] := by kernel_rfl
@[go_sem] theorem byD1 : byD Tryz.prog 1 = some 8 := by kernel_rfl
@[go_sem] theorem tyd2 : tyd Tryz.prog 2 = some (1, false) := by kernel_rfl
@[go_sem] theorem zeC2 : zeC Tryz.prog 2 = some [.int .i64 0] := by kernel_rfl
@[go_sem] theorem byD2 : byD Tryz.prog 2 = some 8 := by kernel_rfl
@[go_sem] theorem inD2 : inD Tryz.prog 2 = some .i64 := by kernel_rfl
@[go_sem] theorem und2 : Tryz.prog.underlying 2 = some (.int .i64) := by kernel_rfl
@[go_sem] theorem valD2 : valD Tryz.prog 2 = some (some .i64) := by kernel_rfl
@[go_sem] theorem tyd3 : tyd Tryz.prog 3 = some (1, false) := by kernel_rfl
@[go_sem] theorem zeC3 : zeC Tryz.prog 3 = some [.int .i64 0] := by kernel_rfl
@[go_sem] theorem byD3 : byD Tryz.prog 3 = some 8 := by kernel_rfl
@[go_sem] theorem inD3 : inD Tryz.prog 3 = some .i64 := by kernel_rfl
@[go_sem] theorem und3 : Tryz.prog.underlying 3 = some (.int .i64) := by kernel_rfl
@[go_sem] theorem valD3 : valD Tryz.prog 3 = some (some .i64) := by kernel_rfl
@[go_sem] theorem tyd4 : tyd Tryz.prog 4 = some (1, false) := by kernel_rfl
@[go_sem] theorem zeC4 : zeC Tryz.prog 4 = some [.bool false] := by kernel_rfl
@[go_sem] theorem byD4 : byD Tryz.prog 4 = some 1 := by kernel_rfl
@[go_sem] theorem valD4 : valD Tryz.prog 4 = some none := by kernel_rfl
@[go_sem] theorem und4 : Tryz.prog.underlying 4 = some .bool := by kernel_rfl
@[go_sem] theorem tyd5 : tyd Tryz.prog 5 = some (1, false) := by kernel_rfl
@[go_sem] theorem zeC5 : zeC Tryz.prog 5 = some [.int .u8 0] := by kernel_rfl
@[go_sem] theorem byD5 : byD Tryz.prog 5 = some 1 := by kernel_rfl
@[go_sem] theorem inD5 : inD Tryz.prog 5 = some .u8 := by kernel_rfl
@[go_sem] theorem und5 : Tryz.prog.underlying 5 = some (.int .u8) := by kernel_rfl
@[go_sem] theorem valD5 : valD Tryz.prog 5 = some (some .u8) := by kernel_rfl
@[go_sem] theorem tyd6 : tyd Tryz.prog 6 = some (1, false) := by kernel_rfl
@[go_sem] theorem zeC6 : zeC Tryz.prog 6 = some [.int .u8 0] := by kernel_rfl
@[go_sem] theorem byD6 : byD Tryz.prog 6 = some 1 := by kernel_rfl
@[go_sem] theorem inD6 : inD Tryz.prog 6 = some .u8 := by kernel_rfl
@[go_sem] theorem und6 : Tryz.prog.underlying 6 = some (.int .u8) := by kernel_rfl
@[go_sem] theorem valD6 : valD Tryz.prog 6 = some (some .u8) := by kernel_rfl
@[go_sem] theorem tyd7 : tyd Tryz.prog 7 = some (4, true) := by kernel_rfl
@[go_sem] theorem flD7_0 : flD Tryz.prog 7 0 = some (2, 0, 1) := by kernel_rfl
@[go_sem] theorem flD7_1 : flD Tryz.prog 7 1 = some (3, 1, 1) := by kernel_rfl
@[go_sem] theorem flD7_2 : flD Tryz.prog 7 2 = some (4, 2, 1) := by kernel_rfl
@[go_sem] theorem flD7_3 : flD Tryz.prog 7 3 = some (6, 3, 1) := by kernel_rfl
@[go_sem] theorem stD7 : stD Tryz.prog 7 = some [(0, 1), (1, 1), (2, 1), (3, 1)] := by kernel_rfl
@[go_sem] theorem zeC7 : zeC Tryz.prog 7 = some [.int .i64 0, .int .i64 0, .bool false, .int .u8 0] := by kernel_rfl
@[go_sem] theorem byD7 : byD Tryz.prog 7 = some 24 := by kernel_rfl
@[go_sem] theorem tyd8 : tyd Tryz.prog 8 = some (4, true) := by kernel_rfl
@[go_sem] theorem flD8_0 : flD Tryz.prog 8 0 = some (2, 0, 1) := by kernel_rfl
@[go_sem] theorem flD8_1 : flD Tryz.prog 8 1 = some (3, 1, 1) := by kernel_rfl
@[go_sem] theorem flD8_2 : flD Tryz.prog 8 2 = some (4, 2, 1) := by kernel_rfl
@[go_sem] theorem flD8_3 : flD Tryz.prog 8 3 = some (6, 3, 1) := by kernel_rfl
@[go_sem] theorem stD8 : stD Tryz.prog 8 = some [(0, 1), (1, 1), (2, 1), (3, 1)] := by kernel_rfl
@[go_sem] theorem zeC8 : zeC Tryz.prog 8 = some [.int .i64 0, .int .i64 0, .bool false, .int .u8 0] := by kernel_rfl
@[go_sem] theorem byD8 : byD Tryz.prog 8 = some 24 := by kernel_rfl
@[go_sem] theorem tyd9 : tyd Tryz.prog 9 = some (1, false) := by kernel_rfl
@[go_sem] theorem zeC9 : zeC Tryz.prog 9 = some [.str ByteArray.empty] := by kernel_rfl
@[go_sem] theorem byD9 : byD Tryz.prog 9 = some 16 := by kernel_rfl
@[go_sem] theorem und9 : Tryz.prog.underlying 9 = some .string := by kernel_rfl
@[go_sem] theorem tyd10 : tyd Tryz.prog 10 = some (1, false) := by kernel_rfl
@[go_sem] theorem zeC10 : zeC Tryz.prog 10 = some [.str ByteArray.empty] := by kernel_rfl
@[go_sem] theorem byD10 : byD Tryz.prog 10 = some 16 := by kernel_rfl
@[go_sem] theorem und10 : Tryz.prog.underlying 10 = some .string := by kernel_rfl
@[go_sem] theorem tyd11 : tyd Tryz.prog 11 = some (1, false) := by kernel_rfl
@[go_sem] theorem zeC11 : zeC Tryz.prog 11 = some [.str ByteArray.empty] := by kernel_rfl
@[go_sem] theorem byD11 : byD Tryz.prog 11 = some 16 := by kernel_rfl
@[go_sem] theorem und11 : Tryz.prog.underlying 11 = some .string := by kernel_rfl
@[go_sem] theorem tyd12 : tyd Tryz.prog 12 = some (1, false) := by kernel_rfl
@[go_sem] theorem zeC12 : zeC Tryz.prog 12 = some [.int .u64 0] := by kernel_rfl
@[go_sem] theorem byD12 : byD Tryz.prog 12 = some 8 := by kernel_rfl
@[go_sem] theorem inD12 : inD Tryz.prog 12 = some .u64 := by kernel_rfl
@[go_sem] theorem und12 : Tryz.prog.underlying 12 = some (.int .u64) := by kernel_rfl
@[go_sem] theorem valD12 : valD Tryz.prog 12 = some (some .u64) := by kernel_rfl
@[go_sem] theorem tyd13 : tyd Tryz.prog 13 = some (2, true) := by kernel_rfl
@[go_sem] theorem flD13_0 : flD Tryz.prog 13 0 = some (9, 0, 1) := by kernel_rfl
@[go_sem] theorem flD13_1 : flD Tryz.prog 13 1 = some (12, 1, 1) := by kernel_rfl
@[go_sem] theorem stD13 : stD Tryz.prog 13 = some [(0, 1), (1, 1)] := by kernel_rfl
@[go_sem] theorem zeC13 : zeC Tryz.prog 13 = some [.str ByteArray.empty, .int .u64 0] := by kernel_rfl
@[go_sem] theorem byD13 : byD Tryz.prog 13 = some 24 := by kernel_rfl
@[go_sem] theorem tyd14 : tyd Tryz.prog 14 = some (2, true) := by kernel_rfl
@[go_sem] theorem flD14_0 : flD Tryz.prog 14 0 = some (9, 0, 1) := by kernel_rfl
@[go_sem] theorem flD14_1 : flD Tryz.prog 14 1 = some (12, 1, 1) := by kernel_rfl
@[go_sem] theorem stD14 : stD Tryz.prog 14 = some [(0, 1), (1, 1)] := by kernel_rfl
@[go_sem] theorem zeC14 : zeC Tryz.prog 14 = some [.str ByteArray.empty, .int .u64 0] := by kernel_rfl
@[go_sem] theorem byD14 : byD Tryz.prog 14 = some 24 := by kernel_rfl
@[go_sem] theorem tyd15 : tyd Tryz.prog 15 = some (1, false) := by kernel_rfl
@[go_sem] theorem zeC15 : zeC Tryz.prog 15 = some [.nilp] := by kernel_rfl
@[go_sem] theorem byD15 : byD Tryz.prog 15 = some 8 := by kernel_rfl
@[go_sem] theorem tyd16 : tyd Tryz.prog 16 = some (1, false) := by kernel_rfl
@[go_sem] theorem zeC16 : zeC Tryz.prog 16 = some [.nilp] := by kernel_rfl
@[go_sem] theorem byD16 : byD Tryz.prog 16 = some 8 := by kernel_rfl
@[go_sem] theorem tyd17 : tyd Tryz.prog 17 = some (1, false) := by kernel_rfl
@[go_sem] theorem zeC17 : zeC Tryz.prog 17 = some [.nilp] := by kernel_rfl
@[go_sem] theorem byD17 : byD Tryz.prog 17 = some 8 := by kernel_rfl
@[go_sem] theorem tyd18 : tyd Tryz.prog 18 = some (1, true) := by kernel_rfl
@[go_sem] theorem flD18_0 : flD Tryz.prog 18 0 = some (17, 0, 1) := by kernel_rfl
@[go_sem] theorem stD18 : stD Tryz.prog 18 = some [(0, 1)] := by kernel_rfl
@[go_sem] theorem zeC18 : zeC Tryz.prog 18 = some [.nilp] := by kernel_rfl
@[go_sem] theorem byD18 : byD Tryz.prog 18 = some 8 := by kernel_rfl
@[go_sem] theorem tyd19 : tyd Tryz.prog 19 = some (1, true) := by kernel_rfl
@[go_sem] theorem flD19_0 : flD Tryz.prog 19 0 = some (17, 0, 1) := by kernel_rfl
@[go_sem] theorem stD19 : stD Tryz.prog 19 = some [(0, 1)] := by kernel_rfl
@[go_sem] theorem zeC19 : zeC Tryz.prog 19 = some [.nilp] := by kernel_rfl
@[go_sem] theorem byD19 : byD Tryz.prog 19 = some 8 := by kernel_rfl
@[go_sem] theorem tyd21 : tyd Tryz.prog 21 = some (1, false) := by kernel_rfl
@[go_sem] theorem zeC21 : zeC Tryz.prog 21 = some [.int .i32 0] := by kernel_rfl
@[go_sem] theorem byD21 : byD Tryz.prog 21 = some 4 := by kernel_rfl
@[go_sem] theorem inD21 : inD Tryz.prog 21 = some .i32 := by kernel_rfl
@[go_sem] theorem und21 : Tryz.prog.underlying 21 = some (.int .i32) := by kernel_rfl
@[go_sem] theorem valD21 : valD Tryz.prog 21 = some (some .i32) := by kernel_rfl
@[go_sem] theorem tyd22 : tyd Tryz.prog 22 = some (1, false) := by kernel_rfl
@[go_sem] theorem slD22 : slD Tryz.prog 22 = some (41, 2) := by kernel_rfl
@[go_sem] theorem zeC22 : zeC Tryz.prog 22 = some [.nilsl] := by kernel_rfl
@[go_sem] theorem byD22 : byD Tryz.prog 22 = some 24 := by kernel_rfl
@[go_sem] theorem tyd23 : tyd Tryz.prog 23 = some (1, true) := by kernel_rfl
@[go_sem] theorem flD23_0 : flD Tryz.prog 23 0 = some (22, 0, 1) := by kernel_rfl
@[go_sem] theorem stD23 : stD Tryz.prog 23 = some [(0, 1)] := by kernel_rfl
@[go_sem] theorem zeC23 : zeC Tryz.prog 23 = some [.nilsl] := by kernel_rfl
@[go_sem] theorem byD23 : byD Tryz.prog 23 = some 24 := by kernel_rfl
@[go_sem] theorem tyd24 : tyd Tryz.prog 24 = some (1, true) := by kernel_rfl
@[go_sem] theorem flD24_0 : flD Tryz.prog 24 0 = some (22, 0, 1) := by kernel_rfl
@[go_sem] theorem stD24 : stD Tryz.prog 24 = some [(0, 1)] := by kernel_rfl
@[go_sem] theorem zeC24 : zeC Tryz.prog 24 = some [.nilsl] := by kernel_rfl
@[go_sem] theorem byD24 : byD Tryz.prog 24 = some 24 := by kernel_rfl
@[go_sem] theorem tyd25 : tyd Tryz.prog 25 = some (1, false) := by kernel_rfl
@[go_sem] theorem zeC25 : zeC Tryz.prog 25 = some [.int .u16 0] := by kernel_rfl
@[go_sem] theorem byD25 : byD Tryz.prog 25 = some 2 := by kernel_rfl
@[go_sem] theorem inD25 : inD Tryz.prog 25 = some .u16 := by kernel_rfl
@[go_sem] theorem und25 : Tryz.prog.underlying 25 = some (.int .u16) := by kernel_rfl
@[go_sem] theorem valD25 : valD Tryz.prog 25 = some (some .u16) := by kernel_rfl
@[go_sem] theorem tyd26 : tyd Tryz.prog 26 = some (1, false) := by kernel_rfl
@[go_sem] theorem zeC26 : zeC Tryz.prog 26 = some [.any] := by kernel_rfl
@[go_sem] theorem byD26 : byD Tryz.prog 26 = some 8 := by kernel_rfl
@[go_sem] theorem tyd27 : tyd Tryz.prog 27 = some (1, false) := by kernel_rfl
@[go_sem] theorem zeC27 : zeC Tryz.prog 27 = some [.any] := by kernel_rfl
@[go_sem] theorem byD27 : byD Tryz.prog 27 = some 8 := by kernel_rfl
@[go_sem] theorem tyd28 : tyd Tryz.prog 28 = some (1, false) := by kernel_rfl
@[go_sem] theorem zeC28 : zeC Tryz.prog 28 = some [.int .i64 0] := by kernel_rfl
@[go_sem] theorem byD28 : byD Tryz.prog 28 = some 8 := by kernel_rfl
@[go_sem] theorem inD28 : inD Tryz.prog 28 = some .i64 := by kernel_rfl
@[go_sem] theorem und28 : Tryz.prog.underlying 28 = some (.int .i64) := by kernel_rfl
@[go_sem] theorem valD28 : valD Tryz.prog 28 = some (some .i64) := by kernel_rfl
@[go_sem] theorem tyd30 : tyd Tryz.prog 30 = some (1, false) := by kernel_rfl
@[go_sem] theorem zeC30 : zeC Tryz.prog 30 = some [.any] := by kernel_rfl
@[go_sem] theorem byD30 : byD Tryz.prog 30 = some 8 := by kernel_rfl
@[go_sem] theorem tyd31 : tyd Tryz.prog 31 = some (3, true) := by kernel_rfl
@[go_sem] theorem gdD31 : gdD Tryz.prog 31 = false := by kernel_rfl
@[go_sem] theorem arD31 : arD Tryz.prog 31 = some (3, 3, 1) := by kernel_rfl
@[go_sem] theorem stD31 : stD Tryz.prog 31 = none := by kernel_rfl
@[go_sem] theorem zeC31 : zeC Tryz.prog 31 = some [.int .i64 0, .int .i64 0, .int .i64 0] := by kernel_rfl
@[go_sem] theorem byD31 : byD Tryz.prog 31 = some 24 := by kernel_rfl
@[go_sem] theorem tyd33 : tyd Tryz.prog 33 = some (1, false) := by kernel_rfl
@[go_sem] theorem zeC33 : zeC Tryz.prog 33 = some [.any] := by kernel_rfl
@[go_sem] theorem byD33 : byD Tryz.prog 33 = some 8 := by kernel_rfl
@[go_sem] theorem tyd34 : tyd Tryz.prog 34 = some (1, false) := by kernel_rfl
@[go_sem] theorem slD34 : slD Tryz.prog 34 = some (3, 1) := by kernel_rfl
@[go_sem] theorem zeC34 : zeC Tryz.prog 34 = some [.nilsl] := by kernel_rfl
@[go_sem] theorem byD34 : byD Tryz.prog 34 = some 24 := by kernel_rfl
@[go_sem] theorem tyd36 : tyd Tryz.prog 36 = some (1, false) := by kernel_rfl
@[go_sem] theorem zeC36 : zeC Tryz.prog 36 = some [.any] := by kernel_rfl
@[go_sem] theorem byD36 : byD Tryz.prog 36 = some 8 := by kernel_rfl
@[go_sem] theorem tyd38 : tyd Tryz.prog 38 = some (1, false) := by kernel_rfl
@[go_sem] theorem zeC38 : zeC Tryz.prog 38 = some [.any] := by kernel_rfl
@[go_sem] theorem byD38 : byD Tryz.prog 38 = some 8 := by kernel_rfl
@[go_sem] theorem tyd39 : tyd Tryz.prog 39 = some (1, false) := by kernel_rfl
@[go_sem] theorem slD39 : slD Tryz.prog 39 = some (45, 1) := by kernel_rfl
@[go_sem] theorem zeC39 : zeC Tryz.prog 39 = some [.nilsl] := by kernel_rfl
@[go_sem] theorem byD39 : byD Tryz.prog 39 = some 24 := by kernel_rfl
@[go_sem] theorem tyd40 : tyd Tryz.prog 40 = some (2, true) := by kernel_rfl
@[go_sem] theorem flD40_0 : flD Tryz.prog 40 0 = some (3, 0, 1) := by kernel_rfl
@[go_sem] theorem flD40_1 : flD Tryz.prog 40 1 = some (39, 1, 1) := by kernel_rfl
@[go_sem] theorem stD40 : stD Tryz.prog 40 = some [(0, 1), (1, 1)] := by kernel_rfl
@[go_sem] theorem zeC40 : zeC Tryz.prog 40 = some [.int .i64 0, .nilsl] := by kernel_rfl
@[go_sem] theorem byD40 : byD Tryz.prog 40 = some 32 := by kernel_rfl
@[go_sem] theorem tyd41 : tyd Tryz.prog 41 = some (2, true) := by kernel_rfl
@[go_sem] theorem flD41_0 : flD Tryz.prog 41 0 = some (3, 0, 1) := by kernel_rfl
@[go_sem] theorem flD41_1 : flD Tryz.prog 41 1 = some (39, 1, 1) := by kernel_rfl
@[go_sem] theorem stD41 : stD Tryz.prog 41 = some [(0, 1), (1, 1)] := by kernel_rfl
@[go_sem] theorem zeC41 : zeC Tryz.prog 41 = some [.int .i64 0, .nilsl] := by kernel_rfl
@[go_sem] theorem byD41 : byD Tryz.prog 41 = some 32 := by kernel_rfl
@[go_sem] theorem tyd43 : tyd Tryz.prog 43 = some (1, false) := by kernel_rfl
@[go_sem] theorem zeC43 : zeC Tryz.prog 43 = some [.any] := by kernel_rfl
@[go_sem] theorem byD43 : byD Tryz.prog 43 = some 8 := by kernel_rfl
@[go_sem] theorem tyd44 : tyd Tryz.prog 44 = some (1, false) := by kernel_rfl
@[go_sem] theorem zeC44 : zeC Tryz.prog 44 = some [.any] := by kernel_rfl
@[go_sem] theorem byD44 : byD Tryz.prog 44 = some 8 := by kernel_rfl
@[go_sem] theorem tyd45 : tyd Tryz.prog 45 = some (1, false) := by kernel_rfl
@[go_sem] theorem zeC45 : zeC Tryz.prog 45 = some [.int .u64 0] := by kernel_rfl
@[go_sem] theorem byD45 : byD Tryz.prog 45 = some 8 := by kernel_rfl
@[go_sem] theorem inD45 : inD Tryz.prog 45 = some .u64 := by kernel_rfl
@[go_sem] theorem und45 : Tryz.prog.underlying 45 = some (.int .u64) := by kernel_rfl
@[go_sem] theorem valD45 : valD Tryz.prog 45 = some (some .u64) := by kernel_rfl
@[go_sem] theorem tyd46 : tyd Tryz.prog 46 = some (1, false) := by kernel_rfl
@[go_sem] theorem slD46 : slD Tryz.prog 46 = some (48, 1) := by kernel_rfl
@[go_sem] theorem zeC46 : zeC Tryz.prog 46 = some [.nilsl] := by kernel_rfl
@[go_sem] theorem byD46 : byD Tryz.prog 46 = some 24 := by kernel_rfl
@[go_sem] theorem tyd47 : tyd Tryz.prog 47 = some (1, false) := by kernel_rfl
@[go_sem] theorem zeC47 : zeC Tryz.prog 47 = some [.any] := by kernel_rfl
@[go_sem] theorem byD47 : byD Tryz.prog 47 = some 8 := by kernel_rfl
@[go_sem] theorem tyd48 : tyd Tryz.prog 48 = some (1, false) := by kernel_rfl
@[go_sem] theorem slD48 : slD Tryz.prog 48 = some (4, 1) := by kernel_rfl
@[go_sem] theorem zeC48 : zeC Tryz.prog 48 = some [.nilsl] := by kernel_rfl
@[go_sem] theorem byD48 : byD Tryz.prog 48 = some 24 := by kernel_rfl
@[go_sem] theorem tyd49 : tyd Tryz.prog 49 = some (1, false) := by kernel_rfl
@[go_sem] theorem zeC49 : zeC Tryz.prog 49 = some [.any] := by kernel_rfl
@[go_sem] theorem byD49 : byD Tryz.prog 49 = some 8 := by kernel_rfl
@[go_sem] theorem tyd50 : tyd Tryz.prog 50 = some (1, false) := by kernel_rfl
@[go_sem] theorem zeC50 : zeC Tryz.prog 50 = some [.any] := by kernel_rfl
@[go_sem] theorem byD50 : byD Tryz.prog 50 = some 8 := by kernel_rfl
@[go_sem] theorem tyd51 : tyd Tryz.prog 51 = some (1, false) := by kernel_rfl
@[go_sem] theorem zeC51 : zeC Tryz.prog 51 = some [.any] := by kernel_rfl
@[go_sem] theorem byD51 : byD Tryz.prog 51 = some 8 := by kernel_rfl
@[go_sem] theorem tyd52 : tyd Tryz.prog 52 = some (1, false) := by kernel_rfl
@[go_sem] theorem zeC52 : zeC Tryz.prog 52 = some [.any] := by kernel_rfl
@[go_sem] theorem byD52 : byD Tryz.prog 52 = some 8 := by kernel_rfl
@[go_sem] theorem tyd54 : tyd Tryz.prog 54 = some (1, false) := by kernel_rfl
@[go_sem] theorem zeC54 : zeC Tryz.prog 54 = some [.any] := by kernel_rfl
@[go_sem] theorem byD54 : byD Tryz.prog 54 = some 8 := by kernel_rfl
@[go_sem] theorem tyd56 : tyd Tryz.prog 56 = some (1, false) := by kernel_rfl
@[go_sem] theorem zeC56 : zeC Tryz.prog 56 = some [.any] := by kernel_rfl
@[go_sem] theorem byD56 : byD Tryz.prog 56 = some 8 := by kernel_rfl
@[go_sem] theorem tyd57 : tyd Tryz.prog 57 = some (1, false) := by kernel_rfl
@[go_sem] theorem zeC57 : zeC Tryz.prog 57 = some [.any] := by kernel_rfl
@[go_sem] theorem byD57 : byD Tryz.prog 57 = some 8 := by kernel_rfl
@[go_sem] theorem tyd58 : tyd Tryz.prog 58 = some (1, false) := by kernel_rfl
@[go_sem] theorem zeC58 : zeC Tryz.prog 58 = some [.any] := by kernel_rfl
@[go_sem] theorem byD58 : byD Tryz.prog 58 = some 8 := by kernel_rfl
@[go_sem] theorem tyd59 : tyd Tryz.prog 59 = some (1, false) := by kernel_rfl
@[go_sem] theorem zeC59 : zeC Tryz.prog 59 = some [.any] := by kernel_rfl
@[go_sem] theorem byD59 : byD Tryz.prog 59 = some 8 := by kernel_rfl
@[go_sem] theorem tyd60 : tyd Tryz.prog 60 = some (1, false) := by kernel_rfl
@[go_sem] theorem zeC60 : zeC Tryz.prog 60 = some [.any] := by kernel_rfl
@[go_sem] theorem byD60 : byD Tryz.prog 60 = some 8 := by kernel_rfl
@[go_sem] theorem tyd62 : tyd Tryz.prog 62 = some (1, false) := by kernel_rfl
@[go_sem] theorem zeC62 : zeC Tryz.prog 62 = some [.any] := by kernel_rfl
@[go_sem] theorem byD62 : byD Tryz.prog 62 = some 8 := by kernel_rfl
@[go_sem] theorem tyd63 : tyd Tryz.prog 63 = some (1, false) := by kernel_rfl
@[go_sem] theorem zeC63 : zeC Tryz.prog 63 = some [.any] := by kernel_rfl
@[go_sem] theorem byD63 : byD Tryz.prog 63 = some 8 := by kernel_rfl
@[go_sem] theorem tyd64 : tyd Tryz.prog 64 = some (1, false) := by kernel_rfl
@[go_sem] theorem zeC64 : zeC Tryz.prog 64 = some [.any] := by kernel_rfl
@[go_sem] theorem byD64 : byD Tryz.prog 64 = some 8 := by kernel_rfl
@[go_sem] theorem tyd65 : tyd Tryz.prog 65 = some (1, false) := by kernel_rfl
@[go_sem] theorem zeC65 : zeC Tryz.prog 65 = some [.any] := by kernel_rfl
@[go_sem] theorem byD65 : byD Tryz.prog 65 = some 8 := by kernel_rfl
@[go_sem] theorem tyd66 : tyd Tryz.prog 66 = some (1, false) := by kernel_rfl
@[go_sem] theorem zeC66 : zeC Tryz.prog 66 = some [.any] := by kernel_rfl
@[go_sem] theorem byD66 : byD Tryz.prog 66 = some 8 := by kernel_rfl
@[go_sem] theorem tyd68 : tyd Tryz.prog 68 = some (1, false) := by kernel_rfl
@[go_sem] theorem zeC68 : zeC Tryz.prog 68 = some [.any] := by kernel_rfl
@[go_sem] theorem byD68 : byD Tryz.prog 68 = some 8 := by kernel_rfl
@[go_sem] theorem tyd69 : tyd Tryz.prog 69 = some (1, false) := by kernel_rfl
@[go_sem] theorem zeC69 : zeC Tryz.prog 69 = some [.any] := by kernel_rfl
@[go_sem] theorem byD69 : byD Tryz.prog 69 = some 8 := by kernel_rfl
@[go_sem] theorem tyd70 : tyd Tryz.prog 70 = some (1, false) := by kernel_rfl
@[go_sem] theorem zeC70 : zeC Tryz.prog 70 = some [.any] := by kernel_rfl
@[go_sem] theorem byD70 : byD Tryz.prog 70 = some 8 := by kernel_rfl
@[go_sem] theorem tyd71 : tyd Tryz.prog 71 = some (1, false) := by kernel_rfl
@[go_sem] theorem zeC71 : zeC Tryz.prog 71 = some [.any] := by kernel_rfl
@[go_sem] theorem byD71 : byD Tryz.prog 71 = some 8 := by kernel_rfl
@[go_sem] theorem tyd72 : tyd Tryz.prog 72 = some (1, false) := by kernel_rfl
@[go_sem] theorem zeC72 : zeC Tryz.prog 72 = some [.any] := by kernel_rfl
@[go_sem] theorem byD72 : byD Tryz.prog 72 = some 8 := by kernel_rfl
@[go_sem] theorem tyd73 : tyd Tryz.prog 73 = some (1, false) := by kernel_rfl
@[go_sem] theorem zeC73 : zeC Tryz.prog 73 = some [.any] := by kernel_rfl
@[go_sem] theorem byD73 : byD Tryz.prog 73 = some 8 := by kernel_rfl
@[go_sem] theorem tyd74 : tyd Tryz.prog 74 = some (1, false) := by kernel_rfl
@[go_sem] theorem zeC74 : zeC Tryz.prog 74 = some [.any] := by kernel_rfl
@[go_sem] theorem byD74 : byD Tryz.prog 74 = some 8 := by kernel_rfl
@[go_sem] theorem tyd75 : tyd Tryz.prog 75 = some (1, false) := by kernel_rfl
@[go_sem] theorem zeC75 : zeC Tryz.prog 75 = some [.any] := by kernel_rfl
@[go_sem] theorem byD75 : byD Tryz.prog 75 = some 8 := by kernel_rfl
@[go_sem] theorem tyd77 : tyd Tryz.prog 77 = some (1, false) := by kernel_rfl
@[go_sem] theorem zeC77 : zeC Tryz.prog 77 = some [.any] := by kernel_rfl
@[go_sem] theorem byD77 : byD Tryz.prog 77 = some 8 := by kernel_rfl
@[go_sem] theorem tyd78 : tyd Tryz.prog 78 = some (2, true) := by kernel_rfl
@[go_sem] theorem gdD78 : gdD Tryz.prog 78 = false := by kernel_rfl
@[go_sem] theorem arD78 : arD Tryz.prog 78 = some (2, 3, 1) := by kernel_rfl
@[go_sem] theorem stD78 : stD Tryz.prog 78 = none := by kernel_rfl
@[go_sem] theorem zeC78 : zeC Tryz.prog 78 = some [.int .i64 0, .int .i64 0] := by kernel_rfl
@[go_sem] theorem byD78 : byD Tryz.prog 78 = some 16 := by kernel_rfl
@[go_sem] theorem tyd79 : tyd Tryz.prog 79 = some (1, false) := by kernel_rfl
@[go_sem] theorem slD79 : slD Tryz.prog 79 = some (78, 2) := by kernel_rfl
@[go_sem] theorem zeC79 : zeC Tryz.prog 79 = some [.nilsl] := by kernel_rfl
@[go_sem] theorem byD79 : byD Tryz.prog 79 = some 24 := by kernel_rfl
@[go_sem] theorem tyd80 : tyd Tryz.prog 80 = some (1, false) := by kernel_rfl
@[go_sem] theorem zeC80 : zeC Tryz.prog 80 = some [.any] := by kernel_rfl
@[go_sem] theorem byD80 : byD Tryz.prog 80 = some 8 := by kernel_rfl
@[go_sem] theorem tyd81 : tyd Tryz.prog 81 = some (1, false) := by kernel_rfl
@[go_sem] theorem zeC81 : zeC Tryz.prog 81 = some [.any] := by kernel_rfl
@[go_sem] theorem byD81 : byD Tryz.prog 81 = some 8 := by kernel_rfl
@[go_sem] theorem tyd83 : tyd Tryz.prog 83 = some (1, false) := by kernel_rfl
@[go_sem] theorem zeC83 : zeC Tryz.prog 83 = some [.any] := by kernel_rfl
@[go_sem] theorem byD83 : byD Tryz.prog 83 = some 8 := by kernel_rfl
@[go_sem] theorem tyd84 : tyd Tryz.prog 84 = some (1, false) := by kernel_rfl
@[go_sem] theorem slD84 : slD Tryz.prog 84 = some (34, 1) := by kernel_rfl
@[go_sem] theorem zeC84 : zeC Tryz.prog 84 = some [.nilsl] := by kernel_rfl
@[go_sem] theorem byD84 : byD Tryz.prog 84 = some 24 := by kernel_rfl
@[go_sem] theorem tyd85 : tyd Tryz.prog 85 = some (2, true) := by kernel_rfl
@[go_sem] theorem flD85_0 : flD Tryz.prog 85 0 = some (84, 0, 1) := by kernel_rfl
@[go_sem] theorem flD85_1 : flD Tryz.prog 85 1 = some (84, 1, 1) := by kernel_rfl
@[go_sem] theorem stD85 : stD Tryz.prog 85 = some [(0, 1), (1, 1)] := by kernel_rfl
@[go_sem] theorem zeC85 : zeC Tryz.prog 85 = some [.nilsl, .nilsl] := by kernel_rfl
@[go_sem] theorem byD85 : byD Tryz.prog 85 = some 48 := by kernel_rfl
@[go_sem] theorem tyd86 : tyd Tryz.prog 86 = some (2, true) := by kernel_rfl
@[go_sem] theorem flD86_0 : flD Tryz.prog 86 0 = some (84, 0, 1) := by kernel_rfl
@[go_sem] theorem flD86_1 : flD Tryz.prog 86 1 = some (84, 1, 1) := by kernel_rfl
@[go_sem] theorem stD86 : stD Tryz.prog 86 = some [(0, 1), (1, 1)] := by kernel_rfl
@[go_sem] theorem zeC86 : zeC Tryz.prog 86 = some [.nilsl, .nilsl] := by kernel_rfl
@[go_sem] theorem byD86 : byD Tryz.prog 86 = some 48 := by kernel_rfl
@[go_sem] theorem tyd88 : tyd Tryz.prog 88 = some (1, false) := by kernel_rfl
@[go_sem] theorem zeC88 : zeC Tryz.prog 88 = some [.any] := by kernel_rfl
@[go_sem] theorem byD88 : byD Tryz.prog 88 = some 8 := by kernel_rfl
@[go_sem] theorem tyd89 : tyd Tryz.prog 89 = some (1, false) := by kernel_rfl
@[go_sem] theorem zeC89 : zeC Tryz.prog 89 = some [.any] := by kernel_rfl
@[go_sem] theorem byD89 : byD Tryz.prog 89 = some 8 := by kernel_rfl
@[go_sem] theorem tyd90 : tyd Tryz.prog 90 = some (1, false) := by kernel_rfl
@[go_sem] theorem zeC90 : zeC Tryz.prog 90 = some [.any] := by kernel_rfl
@[go_sem] theorem byD90 : byD Tryz.prog 90 = some 8 := by kernel_rfl
@[go_sem] theorem tyd91 : tyd Tryz.prog 91 = some (1, false) := by kernel_rfl
@[go_sem] theorem zeC91 : zeC Tryz.prog 91 = some [.any] := by kernel_rfl
@[go_sem] theorem byD91 : byD Tryz.prog 91 = some 8 := by kernel_rfl
@[go_sem] theorem tyd92 : tyd Tryz.prog 92 = some (1, false) := by kernel_rfl
@[go_sem] theorem zeC92 : zeC Tryz.prog 92 = some [.any] := by kernel_rfl
@[go_sem] theorem byD92 : byD Tryz.prog 92 = some 8 := by kernel_rfl
@[go_sem] theorem tyd93 : tyd Tryz.prog 93 = some (1, false) := by kernel_rfl
@[go_sem] theorem zeC93 : zeC Tryz.prog 93 = some [.any] := by kernel_rfl
@[go_sem] theorem byD93 : byD Tryz.prog 93 = some 8 := by kernel_rfl
@[go_sem] theorem tyd94 : tyd Tryz.prog 94 = some (1, false) := by kernel_rfl
@[go_sem] theorem zeC94 : zeC Tryz.prog 94 = some [.any] := by kernel_rfl
@[go_sem] theorem byD94 : byD Tryz.prog 94 = some 8 := by kernel_rfl
@[go_sem] theorem tyd95 : tyd Tryz.prog 95 = some (1, false) := by kernel_rfl
@[go_sem] theorem zeC95 : zeC Tryz.prog 95 = some [.int .u64 0] := by kernel_rfl
@[go_sem] theorem byD95 : byD Tryz.prog 95 = some 8 := by kernel_rfl
@[go_sem] theorem inD95 : inD Tryz.prog 95 = some .u64 := by kernel_rfl
@[go_sem] theorem und95 : Tryz.prog.underlying 95 = some (.int .u64) := by kernel_rfl
@[go_sem] theorem valD95 : valD Tryz.prog 95 = some (some .u64) := by kernel_rfl
@[go_sem] theorem tyd96 : tyd Tryz.prog 96 = some (1, false) := by kernel_rfl
@[go_sem] theorem zeC96 : zeC Tryz.prog 96 = some [.any] := by kernel_rfl
@[go_sem] theorem byD96 : byD Tryz.prog 96 = some 8 := by kernel_rfl
@[go_sem] theorem tyd97 : tyd Tryz.prog 97 = some (1, false) := by kernel_rfl
@[go_sem] theorem zeC97 : zeC Tryz.prog 97 = some [.any] := by kernel_rfl
@[go_sem] theorem byD97 : byD Tryz.prog 97 = some 8 := by kernel_rfl
@[go_sem] theorem tyd98 : tyd Tryz.prog 98 = some (1, false) := by kernel_rfl
@[go_sem] theorem zeC98 : zeC Tryz.prog 98 = some [.any] := by kernel_rfl
@[go_sem] theorem byD98 : byD Tryz.prog 98 = some 8 := by kernel_rfl
@[go_sem] theorem tyd99 : tyd Tryz.prog 99 = some (1, false) := by kernel_rfl
@[go_sem] theorem zeC99 : zeC Tryz.prog 99 = some [.any] := by kernel_rfl
@[go_sem] theorem byD99 : byD Tryz.prog 99 = some 8 := by kernel_rfl
@[go_sem] theorem tyd100 : tyd Tryz.prog 100 = some (1, false) := by kernel_rfl
@[go_sem] theorem zeC100 : zeC Tryz.prog 100 = some [.any] := by kernel_rfl
@[go_sem] theorem byD100 : byD Tryz.prog 100 = some 8 := by kernel_rfl
@[go_sem] theorem tyd101 : tyd Tryz.prog 101 = some (1, false) := by kernel_rfl
@[go_sem] theorem zeC101 : zeC Tryz.prog 101 = some [.any] := by kernel_rfl
@[go_sem] theorem byD101 : byD Tryz.prog 101 = some 8 := by kernel_rfl
@[go_sem] theorem tyd102 : tyd Tryz.prog 102 = some (1, false) := by kernel_rfl
@[go_sem] theorem zeC102 : zeC Tryz.prog 102 = some [.any] := by kernel_rfl
@[go_sem] theorem byD102 : byD Tryz.prog 102 = some 8 := by kernel_rfl
@[go_sem] theorem tyd103 : tyd Tryz.prog 103 = some (1, false) := by kernel_rfl
@[go_sem] theorem zeC103 : zeC Tryz.prog 103 = some [.any] := by kernel_rfl
@[go_sem] theorem byD103 : byD Tryz.prog 103 = some 8 := by kernel_rfl
@[go_sem] theorem tyd104 : tyd Tryz.prog 104 = some (1, false) := by kernel_rfl
@[go_sem] theorem zeC104 : zeC Tryz.prog 104 = some [.any] := by kernel_rfl
@[go_sem] theorem byD104 : byD Tryz.prog 104 = some 8 := by kernel_rfl
@[go_sem] theorem tyd105 : tyd Tryz.prog 105 = some (1, false) := by kernel_rfl
@[go_sem] theorem zeC105 : zeC Tryz.prog 105 = some [.any] := by kernel_rfl
@[go_sem] theorem byD105 : byD Tryz.prog 105 = some 8 := by kernel_rfl
@[go_sem] theorem tyd106 : tyd Tryz.prog 106 = some (1, false) := by kernel_rfl
@[go_sem] theorem zeC106 : zeC Tryz.prog 106 = some [.any] := by kernel_rfl
@[go_sem] theorem byD106 : byD Tryz.prog 106 = some 8 := by kernel_rfl
@[go_sem] theorem tyd107 : tyd Tryz.prog 107 = some (1, false) := by kernel_rfl
@[go_sem] theorem zeC107 : zeC Tryz.prog 107 = some [.any] := by kernel_rfl
@[go_sem] theorem byD107 : byD Tryz.prog 107 = some 8 := by kernel_rfl
@[go_sem] theorem tyd108 : tyd Tryz.prog 108 = some (1, false) := by kernel_rfl
@[go_sem] theorem zeC108 : zeC Tryz.prog 108 = some [.any] := by kernel_rfl
@[go_sem] theorem byD108 : byD Tryz.prog 108 = some 8 := by kernel_rfl
@[go_sem] theorem tyd109 : tyd Tryz.prog 109 = some (1, false) := by kernel_rfl
@[go_sem] theorem zeC109 : zeC Tryz.prog 109 = some [.any] := by kernel_rfl
@[go_sem] theorem byD109 : byD Tryz.prog 109 = some 8 := by kernel_rfl
@[go_sem] theorem tyd110 : tyd Tryz.prog 110 = some (1, false) := by kernel_rfl
@[go_sem] theorem zeC110 : zeC Tryz.prog 110 = some [.any] := by kernel_rfl
@[go_sem] theorem byD110 : byD Tryz.prog 110 = some 8 := by kernel_rfl
@[go_sem] theorem tyd111 : tyd Tryz.prog 111 = some (1, false) := by kernel_rfl
@[go_sem] theorem zeC111 : zeC Tryz.prog 111 = some [.any] := by kernel_rfl
@[go_sem] theorem byD111 : byD Tryz.prog 111 = some 8 := by kernel_rfl
@[go_sem] theorem tyd112 : tyd Tryz.prog 112 = some (1, false) := by kernel_rfl
@[go_sem] theorem zeC112 : zeC Tryz.prog 112 = some [.any] := by kernel_rfl
@[go_sem] theorem byD112 : byD Tryz.prog 112 = some 8 := by kernel_rfl
@[go_sem] theorem tyd113 : tyd Tryz.prog 113 = some (1, false) := by kernel_rfl
@[go_sem] theorem zeC113 : zeC Tryz.prog 113 = some [.any] := by kernel_rfl
@[go_sem] theorem byD113 : byD Tryz.prog 113 = some 8 := by kernel_rfl
@[go_sem] theorem tyd114 : tyd Tryz.prog 114 = some (1, false) := by kernel_rfl
@[go_sem] theorem zeC114 : zeC Tryz.prog 114 = some [.any] := by kernel_rfl
@[go_sem] theorem byD114 : byD Tryz.prog 114 = some 8 := by kernel_rfl
@[go_sem] theorem tyd115 : tyd Tryz.prog 115 = some (1, false) := by kernel_rfl
@[go_sem] theorem zeC115 : zeC Tryz.prog 115 = some [.any] := by kernel_rfl
@[go_sem] theorem byD115 : byD Tryz.prog 115 = some 8 := by kernel_rfl
@[go_sem] theorem tyd116 : tyd Tryz.prog 116 = some (1, false) := by kernel_rfl
@[go_sem] theorem zeC116 : zeC Tryz.prog 116 = some [.any] := by kernel_rfl
@[go_sem] theorem byD116 : byD Tryz.prog 116 = some 8 := by kernel_rfl
@[go_sem] theorem tyd117 : tyd Tryz.prog 117 = some (1, false) := by kernel_rfl
@[go_sem] theorem zeC117 : zeC Tryz.prog 117 = some [.any] := by kernel_rfl
@[go_sem] theorem byD117 : byD Tryz.prog 117 = some 8 := by kernel_rfl
@[go_sem] theorem tyd118 : tyd Tryz.prog 118 = some (1, false) := by kernel_rfl
@[go_sem] theorem zeC118 : zeC Tryz.prog 118 = some [.any] := by kernel_rfl
@[go_sem] theorem byD118 : byD Tryz.prog 118 = some 8 := by kernel_rfl
@[go_sem] theorem tyd119 : tyd Tryz.prog 119 = some (1, false) := by kernel_rfl
@[go_sem] theorem zeC119 : zeC Tryz.prog 119 = some [.any] := by kernel_rfl
@[go_sem] theorem byD119 : byD Tryz.prog 119 = some 8 := by kernel_rfl
@[go_sem] theorem tyd120 : tyd Tryz.prog 120 = some (1, false) := by kernel_rfl
@[go_sem] theorem zeC120 : zeC Tryz.prog 120 = some [.any] := by kernel_rfl
@[go_sem] theorem byD120 : byD Tryz.prog 120 = some 8 := by kernel_rfl
@[go_sem] theorem tyd121 : tyd Tryz.prog 121 = some (1, false) := by kernel_rfl
@[go_sem] theorem zeC121 : zeC Tryz.prog 121 = some [.any] := by kernel_rfl
@[go_sem] theorem byD121 : byD Tryz.prog 121 = some 8 := by kernel_rfl
@[go_sem] theorem tyd122 : tyd Tryz.prog 122 = some (1, false) := by kernel_rfl
@[go_sem] theorem zeC122 : zeC Tryz.prog 122 = some [.any] := by kernel_rfl
@[go_sem] theorem byD122 : byD Tryz.prog 122 = some 8 := by kernel_rfl
@[go_sem] theorem tyd123 : tyd Tryz.prog 123 = some (1, false) := by kernel_rfl
@[go_sem] theorem zeC123 : zeC Tryz.prog 123 = some [.any] := by kernel_rfl
@[go_sem] theorem byD123 : byD Tryz.prog 123 = some 8 := by kernel_rfl
@[go_sem] theorem und123 : Tryz.prog.underlying 123 = some (.map 9 41) := by kernel_rfl
@[go_sem] theorem tyd124 : tyd Tryz.prog 124 = some (1, false) := by kernel_rfl
@[go_sem] theorem zeC124 : zeC Tryz.prog 124 = some [.any] := by kernel_rfl
@[go_sem] theorem byD124 : byD Tryz.prog 124 = some 8 := by kernel_rfl
@[go_sem] theorem tyd125 : tyd Tryz.prog 125 = some (1, false) := by kernel_rfl
@[go_sem] theorem zeC125 : zeC Tryz.prog 125 = some [.any] := by kernel_rfl
@[go_sem] theorem byD125 : byD Tryz.prog 125 = some 8 := by kernel_rfl
@[go_sem] theorem tyd126 : tyd Tryz.prog 126 = some (1, false) := by kernel_rfl
@[go_sem] theorem zeC126 : zeC Tryz.prog 126 = some [.any] := by kernel_rfl
@[go_sem] theorem byD126 : byD Tryz.prog 126 = some 8 := by kernel_rfl
@[go_sem] theorem tyd127 : tyd Tryz.prog 127 = some (1, false) := by kernel_rfl
@[go_sem] theorem zeC127 : zeC Tryz.prog 127 = some [.any] := by kernel_rfl
@[go_sem] theorem byD127 : byD Tryz.prog 127 = some 8 := by kernel_rfl
@[go_sem] theorem tyd128 : tyd Tryz.prog 128 = some (1, false) := by kernel_rfl
@[go_sem] theorem zeC128 : zeC Tryz.prog 128 = some [.any] := by kernel_rfl
@[go_sem] theorem byD128 : byD Tryz.prog 128 = some 8 := by kernel_rfl
@[go_sem] theorem tyd129 : tyd Tryz.prog 129 = some (1, false) := by kernel_rfl
@[go_sem] theorem zeC129 : zeC Tryz.prog 129 = some [.any] := by kernel_rfl
@[go_sem] theorem byD129 : byD Tryz.prog 129 = some 8 := by kernel_rfl
@[go_sem] theorem tyd130 : tyd Tryz.prog 130 = some (1, false) := by kernel_rfl
@[go_sem] theorem zeC130 : zeC Tryz.prog 130 = some [.any] := by kernel_rfl
@[go_sem] theorem byD130 : byD Tryz.prog 130 = some 8 := by kernel_rfl
@[go_sem] theorem tyd131 : tyd Tryz.prog 131 = some (1, false) := by kernel_rfl
@[go_sem] theorem zeC131 : zeC Tryz.prog 131 = some [.any] := by kernel_rfl
@[go_sem] theorem byD131 : byD Tryz.prog 131 = some 8 := by kernel_rfl
@[go_sem] theorem tyd132 : tyd Tryz.prog 132 = some (1, false) := by kernel_rfl
@[go_sem] theorem zeC132 : zeC Tryz.prog 132 = some [.any] := by kernel_rfl
@[go_sem] theorem byD132 : byD Tryz.prog 132 = some 8 := by kernel_rfl
@[go_sem] theorem tyd133 : tyd Tryz.prog 133 = some (1, false) := by kernel_rfl
@[go_sem] theorem zeC133 : zeC Tryz.prog 133 = some [.any] := by kernel_rfl
@[go_sem] theorem byD133 : byD Tryz.prog 133 = some 8 := by kernel_rfl
@[go_sem] theorem tyd134 : tyd Tryz.prog 134 = some (1, false) := by kernel_rfl
@[go_sem] theorem zeC134 : zeC Tryz.prog 134 = some [.any] := by kernel_rfl
@[go_sem] theorem byD134 : byD Tryz.prog 134 = some 8 := by kernel_rfl
@[go_sem] theorem tyd135 : tyd Tryz.prog 135 = some (1, false) := by kernel_rfl
@[go_sem] theorem zeC135 : zeC Tryz.prog 135 = some [.any] := by kernel_rfl
@[go_sem] theorem byD135 : byD Tryz.prog 135 = some 8 := by kernel_rfl
@[go_sem] theorem tyd136 : tyd Tryz.prog 136 = some (64, true) := by kernel_rfl
@[go_sem] theorem gdD136 : gdD Tryz.prog 136 = false := by kernel_rfl
@[go_sem] theorem arD136 : arD Tryz.prog 136 = some (64, 5, 1) := by kernel_rfl
@[go_sem] theorem stD136 : stD Tryz.prog 136 = none := by kernel_rfl
@[go_sem] theorem byD136 : byD Tryz.prog 136 = some 64 := by kernel_rfl
@[go_sem] theorem tyd137 : tyd Tryz.prog 137 = some (1, false) := by kernel_rfl
@[go_sem] theorem zeC137 : zeC Tryz.prog 137 = some [.any] := by kernel_rfl
@[go_sem] theorem byD137 : byD Tryz.prog 137 = some 8 := by kernel_rfl
@[go_sem] theorem tyd138 : tyd Tryz.prog 138 = some (1, false) := by kernel_rfl
@[go_sem] theorem zeC138 : zeC Tryz.prog 138 = some [.nilp] := by kernel_rfl
@[go_sem] theorem byD138 : byD Tryz.prog 138 = some 8 := by kernel_rfl
@[go_sem] theorem tyd139 : tyd Tryz.prog 139 = some (1, false) := by kernel_rfl
@[go_sem] theorem slD139 : slD Tryz.prog 139 = some (5, 1) := by kernel_rfl
@[go_sem] theorem zeC139 : zeC Tryz.prog 139 = some [.nilsl] := by kernel_rfl
@[go_sem] theorem byD139 : byD Tryz.prog 139 = some 24 := by kernel_rfl
@[go_sem] theorem tyd140 : tyd Tryz.prog 140 = some (2, true) := by kernel_rfl
@[go_sem] theorem flD140_0 : flD Tryz.prog 140 0 = some (138, 0, 1) := by kernel_rfl
@[go_sem] theorem flD140_1 : flD Tryz.prog 140 1 = some (139, 1, 1) := by kernel_rfl
@[go_sem] theorem stD140 : stD Tryz.prog 140 = some [(0, 1), (1, 1)] := by kernel_rfl
@[go_sem] theorem zeC140 : zeC Tryz.prog 140 = some [.nilp, .nilsl] := by kernel_rfl
@[go_sem] theorem byD140 : byD Tryz.prog 140 = some 32 := by kernel_rfl
@[go_sem] theorem tyd141 : tyd Tryz.prog 141 = some (2, true) := by kernel_rfl
@[go_sem] theorem flD141_0 : flD Tryz.prog 141 0 = some (138, 0, 1) := by kernel_rfl
@[go_sem] theorem flD141_1 : flD Tryz.prog 141 1 = some (139, 1, 1) := by kernel_rfl
@[go_sem] theorem stD141 : stD Tryz.prog 141 = some [(0, 1), (1, 1)] := by kernel_rfl
@[go_sem] theorem zeC141 : zeC Tryz.prog 141 = some [.nilp, .nilsl] := by kernel_rfl
@[go_sem] theorem byD141 : byD Tryz.prog 141 = some 32 := by kernel_rfl
@[go_sem] theorem tyd145 : tyd Tryz.prog 145 = some (1, false) := by kernel_rfl
@[go_sem] theorem zeC145 : zeC Tryz.prog 145 = some [.any] := by kernel_rfl
@[go_sem] theorem byD145 : byD Tryz.prog 145 = some 8 := by kernel_rfl
@[go_sem] theorem tyd146 : tyd Tryz.prog 146 = some (1, false) := by kernel_rfl
@[go_sem] theorem zeC146 : zeC Tryz.prog 146 = some [.any] := by kernel_rfl
@[go_sem] theorem byD146 : byD Tryz.prog 146 = some 8 := by kernel_rfl
@[go_sem] theorem tyd147 : tyd Tryz.prog 147 = some (1, false) := by kernel_rfl
@[go_sem] theorem zeC147 : zeC Tryz.prog 147 = some [.any] := by kernel_rfl
@[go_sem] theorem byD147 : byD Tryz.prog 147 = some 8 := by kernel_rfl
@[go_sem] theorem tyd148 : tyd Tryz.prog 148 = some (1, false) := by kernel_rfl
@[go_sem] theorem zeC148 : zeC Tryz.prog 148 = some [.any] := by kernel_rfl
@[go_sem] theorem byD148 : byD Tryz.prog 148 = some 8 := by kernel_rfl
@[go_sem] theorem tyd149 : tyd Tryz.prog 149 = some (1, false) := by kernel_rfl
@[go_sem] theorem zeC149 : zeC Tryz.prog 149 = some [.any] := by kernel_rfl
@[go_sem] theorem byD149 : byD Tryz.prog 149 = some 8 := by kernel_rfl
@[go_sem] theorem tyd150 : tyd Tryz.prog 150 = some (1, false) := by kernel_rfl
@[go_sem] theorem zeC150 : zeC Tryz.prog 150 = some [.any] := by kernel_rfl
@[go_sem] theorem byD150 : byD Tryz.prog 150 = some 8 := by kernel_rfl
@[go_sem] theorem tyd151 : tyd Tryz.prog 151 = some (1, false) := by kernel_rfl
@[go_sem] theorem zeC151 : zeC Tryz.prog 151 = some [.nilp] := by kernel_rfl
@[go_sem] theorem byD151 : byD Tryz.prog 151 = some 8 := by kernel_rfl
@[go_sem] theorem tyd152 : tyd Tryz.prog 152 = some (1, false) := by kernel_rfl
@[go_sem] theorem zeC152 : zeC Tryz.prog 152 = some [.any] := by kernel_rfl
@[go_sem] theorem byD152 : byD Tryz.prog 152 = some 8 := by kernel_rfl
@[go_sem] theorem tyd153 : tyd Tryz.prog 153 = some (1, false) := by kernel_rfl
@[go_sem] theorem zeC153 : zeC Tryz.prog 153 = some [.any] := by kernel_rfl
@[go_sem] theorem byD153 : byD Tryz.prog 153 = some 8 := by kernel_rfl
@[go_sem] theorem tyd154 : tyd Tryz.prog 154 = some (1, false) := by kernel_rfl
@[go_sem] theorem zeC154 : zeC Tryz.prog 154 = some [.any] := by kernel_rfl
@[go_sem] theorem byD154 : byD Tryz.prog 154 = some 8 := by kernel_rfl
@[go_sem] theorem tyd156 : tyd Tryz.prog 156 = some (1, false) := by kernel_rfl
@[go_sem] theorem zeC156 : zeC Tryz.prog 156 = some [.any] := by kernel_rfl
@[go_sem] theorem byD156 : byD Tryz.prog 156 = some 8 := by kernel_rfl
@[go_sem] theorem tyd157 : tyd Tryz.prog 157 = some (1, false) := by kernel_rfl
@[go_sem] theorem zeC157 : zeC Tryz.prog 157 = some [.any] := by kernel_rfl
@[go_sem] theorem byD157 : byD Tryz.prog 157 = some 8 := by kernel_rfl
@[go_sem] theorem tyd158 : tyd Tryz.prog 158 = some (24, true) := by kernel_rfl
@[go_sem] theorem gdD158 : gdD Tryz.prog 158 = false := by kernel_rfl
@[go_sem] theorem arD158 : arD Tryz.prog 158 = some (24, 5, 1) := by kernel_rfl
@[go_sem] theorem stD158 : stD Tryz.prog 158 = none := by kernel_rfl
@[go_sem] theorem byD158 : byD Tryz.prog 158 = some 24 := by kernel_rfl
@[go_sem] theorem tyd159 : tyd Tryz.prog 159 = some (1, false) := by kernel_rfl
@[go_sem] theorem zeC159 : zeC Tryz.prog 159 = some [.any] := by kernel_rfl
@[go_sem] theorem byD159 : byD Tryz.prog 159 = some 8 := by kernel_rfl
@[go_sem] theorem tyd161 : tyd Tryz.prog 161 = some (1, false) := by kernel_rfl
@[go_sem] theorem zeC161 : zeC Tryz.prog 161 = some [.any] := by kernel_rfl
@[go_sem] theorem byD161 : byD Tryz.prog 161 = some 8 := by kernel_rfl
@[go_sem] theorem tyd162 : tyd Tryz.prog 162 = some (1, false) := by kernel_rfl
@[go_sem] theorem zeC162 : zeC Tryz.prog 162 = some [.any] := by kernel_rfl
@[go_sem] theorem byD162 : byD Tryz.prog 162 = some 8 := by kernel_rfl
@[go_sem] theorem tyd163 : tyd Tryz.prog 163 = some (1, false) := by kernel_rfl
@[go_sem] theorem zeC163 : zeC Tryz.prog 163 = some [.int .i64 0] := by kernel_rfl
@[go_sem] theorem byD163 : byD Tryz.prog 163 = some 8 := by kernel_rfl
@[go_sem] theorem inD163 : inD Tryz.prog 163 = some .i64 := by kernel_rfl
@[go_sem] theorem und163 : Tryz.prog.underlying 163 = some (.int .i64) := by kernel_rfl
@[go_sem] theorem valD163 : valD Tryz.prog 163 = some (some .i64) := by kernel_rfl
@[go_sem] theorem tyd165 : tyd Tryz.prog 165 = some (1, false) := by kernel_rfl
@[go_sem] theorem zeC165 : zeC Tryz.prog 165 = some [.any] := by kernel_rfl
@[go_sem] theorem byD165 : byD Tryz.prog 165 = some 8 := by kernel_rfl
@[go_sem] theorem tyd166 : tyd Tryz.prog 166 = some (1, false) := by kernel_rfl
@[go_sem] theorem zeC166 : zeC Tryz.prog 166 = some [.any] := by kernel_rfl
@[go_sem] theorem byD166 : byD Tryz.prog 166 = some 8 := by kernel_rfl
@[go_sem] theorem tyd167 : tyd Tryz.prog 167 = some (1, false) := by kernel_rfl
@[go_sem] theorem zeC167 : zeC Tryz.prog 167 = some [.any] := by kernel_rfl
@[go_sem] theorem byD167 : byD Tryz.prog 167 = some 8 := by kernel_rfl
@[go_sem] theorem tyd169 : tyd Tryz.prog 169 = some (1, false) := by kernel_rfl
@[go_sem] theorem zeC169 : zeC Tryz.prog 169 = some [.any] := by kernel_rfl
@[go_sem] theorem byD169 : byD Tryz.prog 169 = some 8 := by kernel_rfl
@[go_sem] theorem tyd170 : tyd Tryz.prog 170 = some (1, false) := by kernel_rfl
@[go_sem] theorem zeC170 : zeC Tryz.prog 170 = some [.any] := by kernel_rfl
@[go_sem] theorem byD170 : byD Tryz.prog 170 = some 8 := by kernel_rfl
@[go_sem] theorem tyd171 : tyd Tryz.prog 171 = some (1, false) := by kernel_rfl
@[go_sem] theorem zeC171 : zeC Tryz.prog 171 = some [.int .u32 0] := by kernel_rfl
@[go_sem] theorem byD171 : byD Tryz.prog 171 = some 4 := by kernel_rfl
@[go_sem] theorem inD171 : inD Tryz.prog 171 = some .u32 := by kernel_rfl
@[go_sem] theorem und171 : Tryz.prog.underlying 171 = some (.int .u32) := by kernel_rfl
@[go_sem] theorem valD171 : valD Tryz.prog 171 = some (some .u32) := by kernel_rfl
@[go_sem] theorem tyd172 : tyd Tryz.prog 172 = some (1, false) := by kernel_rfl
@[go_sem] theorem zeC172 : zeC Tryz.prog 172 = some [.any] := by kernel_rfl
@[go_sem] theorem byD172 : byD Tryz.prog 172 = some 8 := by kernel_rfl
@[go_sem] theorem tyd173 : tyd Tryz.prog 173 = some (20, true) := by kernel_rfl
@[go_sem] theorem gdD173 : gdD Tryz.prog 173 = false := by kernel_rfl
@[go_sem] theorem arD173 : arD Tryz.prog 173 = some (20, 45, 1) := by kernel_rfl
@[go_sem] theorem stD173 : stD Tryz.prog 173 = none := by kernel_rfl
@[go_sem] theorem byD173 : byD Tryz.prog 173 = some 160 := by kernel_rfl
@[go_sem] theorem tyd174 : tyd Tryz.prog 174 = some (65, true) := by kernel_rfl
@[go_sem] theorem gdD174 : gdD Tryz.prog 174 = false := by kernel_rfl
@[go_sem] theorem arD174 : arD Tryz.prog 174 = some (65, 5, 1) := by kernel_rfl
@[go_sem] theorem stD174 : stD Tryz.prog 174 = none := by kernel_rfl
@[go_sem] theorem byD174 : byD Tryz.prog 174 = some 65 := by kernel_rfl
@[go_sem] theorem tyd175 : tyd Tryz.prog 175 = some (1, false) := by kernel_rfl
@[go_sem] theorem zeC175 : zeC Tryz.prog 175 = some [.int .u64 0] := by kernel_rfl
@[go_sem] theorem byD175 : byD Tryz.prog 175 = some 8 := by kernel_rfl
@[go_sem] theorem inD175 : inD Tryz.prog 175 = some .u64 := by kernel_rfl
@[go_sem] theorem und175 : Tryz.prog.underlying 175 = some (.int .u64) := by kernel_rfl
@[go_sem] theorem valD175 : valD Tryz.prog 175 = some (some .u64) := by kernel_rfl
@[go_sem] theorem tyd176 : tyd Tryz.prog 176 = some (1, false) := by kernel_rfl
@[go_sem] theorem zeC176 : zeC Tryz.prog 176 = some [.any] := by kernel_rfl
@[go_sem] theorem byD176 : byD Tryz.prog 176 = some 8 := by kernel_rfl
@[go_sem] theorem tyd177 : tyd Tryz.prog 177 = some (1, false) := by kernel_rfl
@[go_sem] theorem zeC177 : zeC Tryz.prog 177 = some [.any] := by kernel_rfl
@[go_sem] theorem byD177 : byD Tryz.prog 177 = some 8 := by kernel_rfl
@[go_sem] theorem tyd178 : tyd Tryz.prog 178 = some (1, false) := by kernel_rfl
@[go_sem] theorem zeC178 : zeC Tryz.prog 178 = some [.any] := by kernel_rfl
@[go_sem] theorem byD178 : byD Tryz.prog 178 = some 8 := by kernel_rfl
@[go_sem] theorem tyd179 : tyd Tryz.prog 179 = some (1, false) := by kernel_rfl
@[go_sem] theorem zeC179 : zeC Tryz.prog 179 = some [.nilp] := by kernel_rfl
@[go_sem] theorem byD179 : byD Tryz.prog 179 = some 8 := by kernel_rfl
@[go_sem] theorem tyd180 : tyd Tryz.prog 180 = some (1, false) := by kernel_rfl
@[go_sem] theorem zeC180 : zeC Tryz.prog 180 = some [.any] := by kernel_rfl
@[go_sem] theorem byD180 : byD Tryz.prog 180 = some 8 := by kernel_rfl
@[go_sem] theorem tyd181 : tyd Tryz.prog 181 = some (1, false) := by kernel_rfl
@[go_sem] theorem zeC181 : zeC Tryz.prog 181 = some [.nilp] := by kernel_rfl
@[go_sem] theorem byD181 : byD Tryz.prog 181 = some 8 := by kernel_rfl
@[go_sem] theorem tyd183 : tyd Tryz.prog 183 = some (1, false) := by kernel_rfl
@[go_sem] theorem zeC183 : zeC Tryz.prog 183 = some [.any] := by kernel_rfl
@[go_sem] theorem byD183 : byD Tryz.prog 183 = some 8 := by kernel_rfl
@[go_sem] theorem tyd184 : tyd Tryz.prog 184 = some (32, true) := by kernel_rfl
@[go_sem] theorem gdD184 : gdD Tryz.prog 184 = false := by kernel_rfl
@[go_sem] theorem arD184 : arD Tryz.prog 184 = some (32, 5, 1) := by kernel_rfl
@[go_sem] theorem stD184 : stD Tryz.prog 184 = none := by kernel_rfl
@[go_sem] theorem byD184 : byD Tryz.prog 184 = some 32 := by kernel_rfl
@[go_sem] theorem tyd185 : tyd Tryz.prog 185 = some (4, true) := by kernel_rfl
@[go_sem] theorem flD185_0 : flD Tryz.prog 185 0 = some (17, 0, 1) := by kernel_rfl
@[go_sem] theorem flD185_1 : flD Tryz.prog 185 1 = some (17, 1, 1) := by kernel_rfl
@[go_sem] theorem flD185_2 : flD Tryz.prog 185 2 = some (17, 2, 1) := by kernel_rfl
@[go_sem] theorem flD185_3 : flD Tryz.prog 185 3 = some (9, 3, 1) := by kernel_rfl
@[go_sem] theorem stD185 : stD Tryz.prog 185 = some [(0, 1), (1, 1), (2, 1), (3, 1)] := by kernel_rfl
@[go_sem] theorem zeC185 : zeC Tryz.prog 185 = some [.nilp, .nilp, .nilp, .str ByteArray.empty] := by kernel_rfl
@[go_sem] theorem byD185 : byD Tryz.prog 185 = some 40 := by kernel_rfl
@[go_sem] theorem tyd186 : tyd Tryz.prog 186 = some (4, true) := by kernel_rfl
@[go_sem] theorem flD186_0 : flD Tryz.prog 186 0 = some (17, 0, 1) := by kernel_rfl
@[go_sem] theorem flD186_1 : flD Tryz.prog 186 1 = some (17, 1, 1) := by kernel_rfl
@[go_sem] theorem flD186_2 : flD Tryz.prog 186 2 = some (17, 2, 1) := by kernel_rfl
@[go_sem] theorem flD186_3 : flD Tryz.prog 186 3 = some (9, 3, 1) := by kernel_rfl
@[go_sem] theorem stD186 : stD Tryz.prog 186 = some [(0, 1), (1, 1), (2, 1), (3, 1)] := by kernel_rfl
@[go_sem] theorem zeC186 : zeC Tryz.prog 186 = some [.nilp, .nilp, .nilp, .str ByteArray.empty] := by kernel_rfl
@[go_sem] theorem byD186 : byD Tryz.prog 186 = some 40 := by kernel_rfl
@[go_sem] theorem tyd187 : tyd Tryz.prog 187 = some (0, true) := by kernel_rfl
@[go_sem] theorem arD187 : arD Tryz.prog 187 = some (0, 16, 1) := by kernel_rfl
@[go_sem] theorem stD187 : stD Tryz.prog 187 = none := by kernel_rfl
@[go_sem] theorem byD187 : byD Tryz.prog 187 = some 0 := by kernel_rfl
@[go_sem] theorem tyd188 : tyd Tryz.prog 188 = some (0, true) := by kernel_rfl
@[go_sem] theorem flD188_0 : flD Tryz.prog 188 0 = some (187, 0, 0) := by kernel_rfl
@[go_sem] theorem stD188 : stD Tryz.prog 188 = some [(0, 0)] := by kernel_rfl
@[go_sem] theorem byD188 : byD Tryz.prog 188 = some 0 := by kernel_rfl
@[go_sem] theorem tyd189 : tyd Tryz.prog 189 = some (0, true) := by kernel_rfl
@[go_sem] theorem flD189_0 : flD Tryz.prog 189 0 = some (187, 0, 0) := by kernel_rfl
@[go_sem] theorem stD189 : stD Tryz.prog 189 = some [(0, 0)] := by kernel_rfl
@[go_sem] theorem byD189 : byD Tryz.prog 189 = some 0 := by kernel_rfl
@[go_sem] theorem tyd190 : tyd Tryz.prog 190 = some (1, false) := by kernel_rfl
@[go_sem] theorem zeC190 : zeC Tryz.prog 190 = some [.any] := by kernel_rfl
@[go_sem] theorem byD190 : byD Tryz.prog 190 = some 8 := by kernel_rfl
@[go_sem] theorem tyd191 : tyd Tryz.prog 191 = some (1, false) := by kernel_rfl
@[go_sem] theorem zeC191 : zeC Tryz.prog 191 = some [.int .u8 0] := by kernel_rfl
@[go_sem] theorem byD191 : byD Tryz.prog 191 = some 1 := by kernel_rfl
@[go_sem] theorem inD191 : inD Tryz.prog 191 = some .u8 := by kernel_rfl
@[go_sem] theorem und191 : Tryz.prog.underlying 191 = some (.int .u8) := by kernel_rfl
@[go_sem] theorem valD191 : valD Tryz.prog 191 = some (some .u8) := by kernel_rfl
@[go_sem] theorem tyd192 : tyd Tryz.prog 192 = some (1, false) := by kernel_rfl
@[go_sem] theorem zeC192 : zeC Tryz.prog 192 = some [.int .u8 0] := by kernel_rfl
@[go_sem] theorem byD192 : byD Tryz.prog 192 = some 1 := by kernel_rfl
@[go_sem] theorem inD192 : inD Tryz.prog 192 = some .u8 := by kernel_rfl
@[go_sem] theorem und192 : Tryz.prog.underlying 192 = some (.int .u8) := by kernel_rfl
@[go_sem] theorem valD192 : valD Tryz.prog 192 = some (some .u8) := by kernel_rfl
@[go_sem] theorem tyd193 : tyd Tryz.prog 193 = some (1, false) := by kernel_rfl
@[go_sem] theorem zeC193 : zeC Tryz.prog 193 = some [.any] := by kernel_rfl
@[go_sem] theorem byD193 : byD Tryz.prog 193 = some 8 := by kernel_rfl
@[go_sem] theorem tyd194 : tyd Tryz.prog 194 = some (1, false) := by kernel_rfl
@[go_sem] theorem zeC194 : zeC Tryz.prog 194 = some [.int .i32 0] := by kernel_rfl
@[go_sem] theorem byD194 : byD Tryz.prog 194 = some 4 := by kernel_rfl
@[go_sem] theorem inD194 : inD Tryz.prog 194 = some .i32 := by kernel_rfl
@[go_sem] theorem und194 : Tryz.prog.underlying 194 = some (.int .i32) := by kernel_rfl
@[go_sem] theorem valD194 : valD Tryz.prog 194 = some (some .i32) := by kernel_rfl
@[go_sem] theorem tyd195 : tyd Tryz.prog 195 = some (1, false) := by kernel_rfl
@[go_sem] theorem zeC195 : zeC Tryz.prog 195 = some [.int .i32 0] := by kernel_rfl
@[go_sem] theorem byD195 : byD Tryz.prog 195 = some 4 := by kernel_rfl
@[go_sem] theorem inD195 : inD Tryz.prog 195 = some .i32 := by kernel_rfl
@[go_sem] theorem und195 : Tryz.prog.underlying 195 = some (.int .i32) := by kernel_rfl
@[go_sem] theorem valD195 : valD Tryz.prog 195 = some (some .i32) := by kernel_rfl
@[go_sem] theorem tyd196 : tyd Tryz.prog 196 = some (11, true) := by kernel_rfl
@[go_sem] theorem flD196_0 : flD Tryz.prog 196 0 = some (12, 0, 1) := by kernel_rfl
@[go_sem] theorem flD196_1 : flD Tryz.prog 196 1 = some (12, 1, 1) := by kernel_rfl
@[go_sem] theorem flD196_2 : flD Tryz.prog 196 2 = some (171, 2, 1) := by kernel_rfl
@[go_sem] theorem flD196_3 : flD Tryz.prog 196 3 = some (191, 3, 1) := by kernel_rfl
@[go_sem] theorem flD196_4 : flD Tryz.prog 196 4 = some (5, 4, 1) := by kernel_rfl
@[go_sem] theorem flD196_5 : flD Tryz.prog 196 5 = some (5, 5, 1) := by kernel_rfl
@[go_sem] theorem flD196_6 : flD Tryz.prog 196 6 = some (192, 6, 1) := by kernel_rfl
@[go_sem] theorem flD196_7 : flD Tryz.prog 196 7 = some (193, 7, 1) := by kernel_rfl
@[go_sem] theorem flD196_8 : flD Tryz.prog 196 8 = some (151, 8, 1) := by kernel_rfl
@[go_sem] theorem flD196_9 : flD Tryz.prog 196 9 = some (194, 9, 1) := by kernel_rfl
@[go_sem] theorem flD196_10 : flD Tryz.prog 196 10 = some (195, 10, 1) := by kernel_rfl
@[go_sem] theorem stD196 : stD Tryz.prog 196 = some [(0, 1), (1, 1), (2, 1), (3, 1), (4, 1), (5, 1), (6, 1), (7, 1), (8, 1), (9, 1), (10, 1)] := by kernel_rfl
@[go_sem] theorem zeC196 : zeC Tryz.prog 196 = some [.int .u64 0, .int .u64 0, .int .u32 0, .int .u8 0, .int .u8 0, .int .u8 0, .int .u8 0, .any, .nilp, .int .i32 0, .int .i32 0] := by kernel_rfl
@[go_sem] theorem byD196 : byD Tryz.prog 196 = some 48 := by kernel_rfl
@[go_sem] theorem tyd197 : tyd Tryz.prog 197 = some (11, true) := by kernel_rfl
@[go_sem] theorem flD197_0 : flD Tryz.prog 197 0 = some (12, 0, 1) := by kernel_rfl
@[go_sem] theorem flD197_1 : flD Tryz.prog 197 1 = some (12, 1, 1) := by kernel_rfl
@[go_sem] theorem flD197_2 : flD Tryz.prog 197 2 = some (171, 2, 1) := by kernel_rfl
@[go_sem] theorem flD197_3 : flD Tryz.prog 197 3 = some (191, 3, 1) := by kernel_rfl
@[go_sem] theorem flD197_4 : flD Tryz.prog 197 4 = some (5, 4, 1) := by kernel_rfl
@[go_sem] theorem flD197_5 : flD Tryz.prog 197 5 = some (5, 5, 1) := by kernel_rfl
@[go_sem] theorem flD197_6 : flD Tryz.prog 197 6 = some (192, 6, 1) := by kernel_rfl
@[go_sem] theorem flD197_7 : flD Tryz.prog 197 7 = some (193, 7, 1) := by kernel_rfl
@[go_sem] theorem flD197_8 : flD Tryz.prog 197 8 = some (151, 8, 1) := by kernel_rfl
@[go_sem] theorem flD197_9 : flD Tryz.prog 197 9 = some (194, 9, 1) := by kernel_rfl
@[go_sem] theorem flD197_10 : flD Tryz.prog 197 10 = some (195, 10, 1) := by kernel_rfl
@[go_sem] theorem stD197 : stD Tryz.prog 197 = some [(0, 1), (1, 1), (2, 1), (3, 1), (4, 1), (5, 1), (6, 1), (7, 1), (8, 1), (9, 1), (10, 1)] := by kernel_rfl
@[go_sem] theorem zeC197 : zeC Tryz.prog 197 = some [.int .u64 0, .int .u64 0, .int .u32 0, .int .u8 0, .int .u8 0, .int .u8 0, .int .u8 0, .any, .nilp, .int .i32 0, .int .i32 0] := by kernel_rfl
@[go_sem] theorem byD197 : byD Tryz.prog 197 = some 48 := by kernel_rfl
@[go_sem] theorem ent2 : enters Tryz.prog 2 = true := by kernel_rfl
@[go_sem] theorem ent3 : enters Tryz.prog 3 = true := by kernel_rfl
@[go_sem] theorem ent4 : enters Tryz.prog 4 = true := by kernel_rfl
@[go_sem] theorem ent5 : enters Tryz.prog 5 = true := by kernel_rfl
@[go_sem] theorem ent6 : enters Tryz.prog 6 = true := by kernel_rfl
@[go_sem] theorem ent7 : enters Tryz.prog 7 = true := by kernel_rfl
@[go_sem] theorem ent8 : enters Tryz.prog 8 = true := by kernel_rfl
@[go_sem] theorem ent9 : enters Tryz.prog 9 = true := by kernel_rfl
@[go_sem] theorem ent10 : enters Tryz.prog 10 = true := by kernel_rfl
@[go_sem] theorem ent11 : enters Tryz.prog 11 = true := by kernel_rfl
@[go_sem] theorem ent12 : enters Tryz.prog 12 = true := by kernel_rfl
@[go_sem] theorem ent13 : enters Tryz.prog 13 = true := by kernel_rfl
@[go_sem] theorem ent14 : enters Tryz.prog 14 = true := by kernel_rfl
@[go_sem] theorem ent15 : enters Tryz.prog 15 = true := by kernel_rfl
@[go_sem] theorem ent16 : enters Tryz.prog 16 = true := by kernel_rfl
@[go_sem] theorem ent17 : enters Tryz.prog 17 = true := by kernel_rfl
@[go_sem] theorem ent18 : enters Tryz.prog 18 = true := by kernel_rfl
@[go_sem] theorem ent19 : enters Tryz.prog 19 = true := by kernel_rfl
@[go_sem] theorem ent20 : enters Tryz.prog 20 = true := by kernel_rfl
@[go_sem] theorem ent21 : enters Tryz.prog 21 = true := by kernel_rfl
@[go_sem] theorem ent22 : enters Tryz.prog 22 = true := by kernel_rfl
@[go_sem] theorem ent23 : enters Tryz.prog 23 = true := by kernel_rfl
@[go_sem] theorem ent24 : enters Tryz.prog 24 = true := by kernel_rfl
@[go_sem] theorem ent25 : enters Tryz.prog 25 = true := by kernel_rfl
@[go_sem] theorem ent26 : enters Tryz.prog 26 = true := by kernel_rfl
@[go_sem] theorem ent27 : enters Tryz.prog 27 = true := by kernel_rfl
@[go_sem] theorem ent28 : enters Tryz.prog 28 = true := by kernel_rfl
@[go_sem] theorem ent29 : enters Tryz.prog 29 = true := by kernel_rfl
@[go_sem] theorem ent30 : enters Tryz.prog 30 = true := by kernel_rfl
@[go_sem] theorem ent31 : enters Tryz.prog 31 = true := by kernel_rfl
@[go_sem] theorem ent32 : enters Tryz.prog 32 = true := by kernel_rfl
@[go_sem] theorem ent33 : enters Tryz.prog 33 = true := by kernel_rfl
@[go_sem] theorem ent34 : enters Tryz.prog 34 = true := by kernel_rfl
@[go_sem] theorem ent35 : enters Tryz.prog 35 = true := by kernel_rfl
@[go_sem] theorem ent36 : enters Tryz.prog 36 = true := by kernel_rfl
@[go_sem] theorem ent37 : enters Tryz.prog 37 = true := by kernel_rfl
@[go_sem] theorem ent38 : enters Tryz.prog 38 = true := by kernel_rfl
@[go_sem] theorem ent39 : enters Tryz.prog 39 = true := by kernel_rfl
@[go_sem] theorem ent40 : enters Tryz.prog 40 = true := by kernel_rfl
@[go_sem] theorem ent41 : enters Tryz.prog 41 = true := by kernel_rfl
@[go_sem] theorem ent42 : enters Tryz.prog 42 = true := by kernel_rfl
@[go_sem] theorem ent43 : enters Tryz.prog 43 = true := by kernel_rfl
@[go_sem] theorem ent44 : enters Tryz.prog 44 = true := by kernel_rfl
@[go_sem] theorem ent45 : enters Tryz.prog 45 = true := by kernel_rfl
@[go_sem] theorem ent46 : enters Tryz.prog 46 = true := by kernel_rfl
@[go_sem] theorem ent47 : enters Tryz.prog 47 = true := by kernel_rfl
@[go_sem] theorem ent48 : enters Tryz.prog 48 = true := by kernel_rfl
@[go_sem] theorem ent49 : enters Tryz.prog 49 = true := by kernel_rfl
@[go_sem] theorem ent50 : enters Tryz.prog 50 = true := by kernel_rfl
@[go_sem] theorem ent51 : enters Tryz.prog 51 = true := by kernel_rfl
@[go_sem] theorem ent52 : enters Tryz.prog 52 = true := by kernel_rfl
@[go_sem] theorem ent53 : enters Tryz.prog 53 = true := by kernel_rfl
@[go_sem] theorem ent54 : enters Tryz.prog 54 = true := by kernel_rfl
@[go_sem] theorem ent55 : enters Tryz.prog 55 = true := by kernel_rfl
@[go_sem] theorem ent56 : enters Tryz.prog 56 = true := by kernel_rfl
@[go_sem] theorem ent57 : enters Tryz.prog 57 = true := by kernel_rfl
@[go_sem] theorem ent58 : enters Tryz.prog 58 = true := by kernel_rfl
@[go_sem] theorem ent59 : enters Tryz.prog 59 = true := by kernel_rfl
@[go_sem] theorem ent60 : enters Tryz.prog 60 = true := by kernel_rfl
@[go_sem] theorem ent61 : enters Tryz.prog 61 = true := by kernel_rfl
@[go_sem] theorem ent62 : enters Tryz.prog 62 = true := by kernel_rfl
@[go_sem] theorem ent63 : enters Tryz.prog 63 = true := by kernel_rfl
@[go_sem] theorem ent64 : enters Tryz.prog 64 = true := by kernel_rfl
@[go_sem] theorem ent65 : enters Tryz.prog 65 = true := by kernel_rfl
@[go_sem] theorem ent66 : enters Tryz.prog 66 = true := by kernel_rfl
@[go_sem] theorem ent67 : enters Tryz.prog 67 = true := by kernel_rfl
@[go_sem] theorem ent68 : enters Tryz.prog 68 = true := by kernel_rfl
@[go_sem] theorem ent69 : enters Tryz.prog 69 = true := by kernel_rfl
@[go_sem] theorem ent70 : enters Tryz.prog 70 = true := by kernel_rfl
@[go_sem] theorem ent71 : enters Tryz.prog 71 = true := by kernel_rfl
@[go_sem] theorem ent72 : enters Tryz.prog 72 = true := by kernel_rfl
@[go_sem] theorem ent73 : enters Tryz.prog 73 = true := by kernel_rfl
@[go_sem] theorem ent74 : enters Tryz.prog 74 = true := by kernel_rfl
@[go_sem] theorem ent75 : enters Tryz.prog 75 = true := by kernel_rfl
@[go_sem] theorem ent76 : enters Tryz.prog 76 = true := by kernel_rfl
@[go_sem] theorem ent77 : enters Tryz.prog 77 = true := by kernel_rfl
@[go_sem] theorem ent78 : enters Tryz.prog 78 = true := by kernel_rfl
@[go_sem] theorem ent79 : enters Tryz.prog 79 = true := by kernel_rfl
@[go_sem] theorem ent80 : enters Tryz.prog 80 = true := by kernel_rfl
@[go_sem] theorem ent81 : enters Tryz.prog 81 = true := by kernel_rfl
@[go_sem] theorem ent82 : enters Tryz.prog 82 = true := by kernel_rfl
@[go_sem] theorem ent83 : enters Tryz.prog 83 = true := by kernel_rfl
@[go_sem] theorem ent84 : enters Tryz.prog 84 = true := by kernel_rfl
@[go_sem] theorem ent85 : enters Tryz.prog 85 = true := by kernel_rfl
@[go_sem] theorem ent86 : enters Tryz.prog 86 = true := by kernel_rfl
@[go_sem] theorem ent87 : enters Tryz.prog 87 = true := by kernel_rfl
@[go_sem] theorem ent88 : enters Tryz.prog 88 = true := by kernel_rfl
@[go_sem] theorem ent89 : enters Tryz.prog 89 = true := by kernel_rfl
@[go_sem] theorem ent90 : enters Tryz.prog 90 = true := by kernel_rfl
@[go_sem] theorem ent91 : enters Tryz.prog 91 = true := by kernel_rfl
@[go_sem] theorem ent92 : enters Tryz.prog 92 = true := by kernel_rfl
@[go_sem] theorem ent93 : enters Tryz.prog 93 = true := by kernel_rfl
@[go_sem] theorem ent94 : enters Tryz.prog 94 = true := by kernel_rfl
@[go_sem] theorem ent95 : enters Tryz.prog 95 = true := by kernel_rfl
@[go_sem] theorem ent96 : enters Tryz.prog 96 = true := by kernel_rfl
@[go_sem] theorem ent97 : enters Tryz.prog 97 = true := by kernel_rfl
@[go_sem] theorem ent98 : enters Tryz.prog 98 = true := by kernel_rfl
@[go_sem] theorem ent99 : enters Tryz.prog 99 = true := by kernel_rfl
@[go_sem] theorem ent100 : enters Tryz.prog 100 = true := by kernel_rfl
@[go_sem] theorem ent101 : enters Tryz.prog 101 = true := by kernel_rfl
@[go_sem] theorem ent102 : enters Tryz.prog 102 = true := by kernel_rfl
@[go_sem] theorem ent103 : enters Tryz.prog 103 = true := by kernel_rfl
@[go_sem] theorem ent104 : enters Tryz.prog 104 = true := by kernel_rfl
@[go_sem] theorem ent105 : enters Tryz.prog 105 = true := by kernel_rfl
@[go_sem] theorem ent106 : enters Tryz.prog 106 = true := by kernel_rfl
@[go_sem] theorem ent107 : enters Tryz.prog 107 = true := by kernel_rfl
@[go_sem] theorem ent108 : enters Tryz.prog 108 = true := by kernel_rfl
@[go_sem] theorem ent109 : enters Tryz.prog 109 = true := by kernel_rfl
@[go_sem] theorem ent110 : enters Tryz.prog 110 = true := by kernel_rfl
@[go_sem] theorem ent111 : enters Tryz.prog 111 = true := by kernel_rfl
@[go_sem] theorem ent112 : enters Tryz.prog 112 = true := by kernel_rfl
@[go_sem] theorem ent113 : enters Tryz.prog 113 = true := by kernel_rfl
@[go_sem] theorem ent114 : enters Tryz.prog 114 = true := by kernel_rfl
@[go_sem] theorem ent115 : enters Tryz.prog 115 = true := by kernel_rfl
@[go_sem] theorem ent116 : enters Tryz.prog 116 = true := by kernel_rfl
@[go_sem] theorem ent117 : enters Tryz.prog 117 = true := by kernel_rfl
@[go_sem] theorem ent118 : enters Tryz.prog 118 = true := by kernel_rfl
@[go_sem] theorem ent119 : enters Tryz.prog 119 = true := by kernel_rfl
@[go_sem] theorem ent120 : enters Tryz.prog 120 = true := by kernel_rfl
@[go_sem] theorem ent121 : enters Tryz.prog 121 = true := by kernel_rfl
@[go_sem] theorem ent122 : enters Tryz.prog 122 = true := by kernel_rfl
@[go_sem] theorem ent123 : enters Tryz.prog 123 = true := by kernel_rfl
@[go_sem] theorem ent124 : enters Tryz.prog 124 = true := by kernel_rfl
@[go_sem] theorem ent125 : enters Tryz.prog 125 = true := by kernel_rfl
@[go_sem] theorem ent126 : enters Tryz.prog 126 = true := by kernel_rfl
@[go_sem] theorem ent127 : enters Tryz.prog 127 = true := by kernel_rfl
@[go_sem] theorem ent128 : enters Tryz.prog 128 = true := by kernel_rfl
@[go_sem] theorem ent129 : enters Tryz.prog 129 = true := by kernel_rfl
@[go_sem] theorem ent130 : enters Tryz.prog 130 = true := by kernel_rfl
@[go_sem] theorem ent131 : enters Tryz.prog 131 = true := by kernel_rfl
@[go_sem] theorem ent132 : enters Tryz.prog 132 = true := by kernel_rfl
@[go_sem] theorem ent133 : enters Tryz.prog 133 = true := by kernel_rfl
@[go_sem] theorem ent134 : enters Tryz.prog 134 = true := by kernel_rfl
@[go_sem] theorem ent135 : enters Tryz.prog 135 = true := by kernel_rfl
@[go_sem] theorem ent136 : enters Tryz.prog 136 = true := by kernel_rfl
@[go_sem] theorem ent137 : enters Tryz.prog 137 = true := by kernel_rfl
@[go_sem] theorem ent138 : enters Tryz.prog 138 = true := by kernel_rfl
@[go_sem] theorem ent139 : enters Tryz.prog 139 = true := by kernel_rfl
@[go_sem] theorem ent141 : enters Tryz.prog 141 = true := by kernel_rfl
@[go_sem] theorem ent142 : enters Tryz.prog 142 = true := by kernel_rfl
@[go_sem] theorem ent143 : enters Tryz.prog 143 = true := by kernel_rfl
@[go_sem] theorem ent144 : enters Tryz.prog 144 = true := by kernel_rfl
@[go_sem] theorem ent145 : enters Tryz.prog 145 = true := by kernel_rfl
@[go_sem] theorem ent146 : enters Tryz.prog 146 = true := by kernel_rfl
@[go_sem] theorem ent147 : enters Tryz.prog 147 = true := by kernel_rfl
@[go_sem] theorem ent148 : enters Tryz.prog 148 = true := by kernel_rfl
@[go_sem] theorem ent149 : enters Tryz.prog 149 = true := by kernel_rfl
@[go_sem] theorem ent150 : enters Tryz.prog 150 = true := by kernel_rfl
@[go_sem] theorem ent151 : enters Tryz.prog 151 = true := by kernel_rfl
@[go_sem] theorem ent152 : enters Tryz.prog 152 = true := by kernel_rfl
@[go_sem] theorem ent153 : enters Tryz.prog 153 = true := by kernel_rfl
@[go_sem] theorem ent154 : enters Tryz.prog 154 = true := by kernel_rfl
@[go_sem] theorem ent155 : enters Tryz.prog 155 = true := by kernel_rfl
@[go_sem] theorem ent156 : enters Tryz.prog 156 = true := by kernel_rfl
@[go_sem] theorem ent157 : enters Tryz.prog 157 = true := by kernel_rfl
@[go_sem] theorem ent158 : enters Tryz.prog 158 = true := by kernel_rfl
@[go_sem] theorem ent159 : enters Tryz.prog 159 = true := by kernel_rfl
@[go_sem] theorem ent160 : enters Tryz.prog 160 = true := by kernel_rfl
@[go_sem] theorem ent161 : enters Tryz.prog 161 = true := by kernel_rfl
@[go_sem] theorem ent162 : enters Tryz.prog 162 = true := by kernel_rfl
@[go_sem] theorem ent163 : enters Tryz.prog 163 = true := by kernel_rfl
@[go_sem] theorem ent164 : enters Tryz.prog 164 = true := by kernel_rfl
@[go_sem] theorem ent165 : enters Tryz.prog 165 = true := by kernel_rfl
@[go_sem] theorem ent188 : enters Tryz.prog 188 = true := by kernel_rfl
end Go.Proofs.B

/- The ideal seat. -/
namespace Go.AM
def tzA : List AV := tzTab.map (AV.int .u8)
theorem globA_aux : globA 0 = some tzA := rfl
@[go_sem] theorem globA_0 : globA 0 = some tzA := Eq.trans globA_aux (Eq.refl _)
theorem tzA_len (q : Nat) : (List.drop q tzA).length = 64 - q := by rw [List.length_drop]; rfl
theorem tzA_get {q k : Nat} (hq : q < 64) (h : tzTab.getD q 0 = (k : Int)) : (List.drop q tzA).getD 0 .any = .int .u8 (k : Int) := by
  have hl : tzTab.length = 64 := rfl
  rw [← h]
  unfold tzA
  simp only [List.getD_eq_getElem?_getD, List.getElem?_drop, List.getElem?_map, Nat.add_zero]
  rw [List.getElem?_eq_getElem (by omega)]
  simp only [Option.map_some, Option.getD_some]
end Go.AM
namespace Go.Proofs.B
open Go.AM Go
theorem mixed : Tryz.prog.follows .mixedOrders = true := by kernel_rfl
end Go.Proofs.B

namespace Go.Proofs.B
open Go.AM Go
set_option maxRecDepth 100000
set_option maxHeartbeats 1000000
theorem bwords_r (n : Int) (h0 : 0 ≤ n) (h1 : n ≤ 1000000) : Reads Tryz.prog 64 false [.int .i64 n] (.int .i64 (wordsN n)) := by
 have hd : 0 ≤ (n + 64 - 1).tdiv 64 ∧ (n + 64 - 1).tdiv 64 ≤ 1000064 := by rw [Int.tdiv_eq_ediv_of_nonneg (by omega)]; omega
 refine Reads.body (rs := [.tmp 2]) Tryz.func64 rfl Tryz.ntmps64 rfl (by simp) ?_
 generalize hQr : retQ _ _ _ = Qr
 refine AW.sg [0] [] trivial ?_
 refine AW.sg [2] [] trivial ?_
 rw [← hQr]
 refine AW.rt trivial ?_
 exact Wk.of_eq (by simp [wordsN])
theorem rwords_r (n : Int) (h0 : 0 ≤ n) (h1 : n ≤ 1000000) : Reads Tryz.prog 103 false [.int .i64 n] (.int .i64 (wordsN n)) := by
 have hw := wordsN_ref n
 have hd : 0 ≤ (n + 63).tdiv 64 ∧ (n + 63).tdiv 64 ≤ 1000064 := by rw [Int.tdiv_eq_ediv_of_nonneg (by omega)]; omega
 refine Reads.body (rs := [.tmp 2]) Tryz.func103 rfl Tryz.ntmps103 rfl (by simp) ?_
 generalize hQr : retQ _ _ _ = Qr
 refine AW.sg [0] [] trivial ?_
 refine AW.sg [2] [] trivial ?_
 rw [← hQr]
 refine AW.rt trivial ?_
 exact Wk.of_eq (by rw [hw])
theorem bvalid_b (N : Int) (W : List Int) (hl : W.length ≤ 9223372036854775807) (hz : 0 < W.length) : Reads Tryz.prog 87 false [.agg [.int .i64 N, .rsl 1 (words W)]] (.bool (validS N W)) := by
 have hwr := bwords_r N
 refine Reads.body (rs := [.tmp 2]) Tryz.func87 rfl Tryz.ntmps87 rfl (by simp) ?_
 generalize hQr : retQ _ _ _ = Qr
 refine AW.sg [1] [1] trivial ?_
 refine AW.seq fun K1 hK1 => ?_
 refine AW.sd mixed 0 (fun ii => if ii = 14 then some (.reads false (.int .i64 (wordsN N))) else none) [1,20] [1] trivial ?_
 repeat with_reducible refine cj ?_ ?_
 all_goals try first | ((intro hh; refine ⟨hh, ?_⟩; simp at hh; exact hwr (by omega) (by omega))) | (intros; (repeat' apply And.intro) <;> first | assumption | ((intro hh; refine ⟨hh, ?_⟩; simp at hh; exact hwr (by omega) (by omega)))) | omega | exact chk (by kernel_rfl) | exact ent (by kernel_rfl) | (intro hgd; exact absurd hgd (by decide)) | rfl | exact gD | (intro _hgd; simp_all [go_sem]; done)
 refine AW.cn ?_ ?_
 ·intro hb
  refine AW.sg [2] [] trivial ?_
  rw [← hQr]
  refine AW.rt trivial ?_
  exact Wk.of_eq (by congr 1; symm; simp [validS]; intros; omega)
 ·intro hb
  have hwn := wordsN_rng (n := N) (by omega)
  have hmod : 0 ≤ N.tmod 64 ∧ N.tmod 64 < 64 := by rw [Int.tmod_eq_emod_of_nonneg (by omega)]; omega
  have hpre : 0 ≤ N ∧ N ≤ 512 ∧ (W.length : Int) = wordsN N := by omega
  have hgw : (words W).getD ((W.length : Int) - 1).toNat [] = [.int .u64 (W.getD (W.length - 1) 0)] := by rw [show ((W.length : Int) - 1).toNat = W.length - 1 by omega]; exact words_getD (by omega)
  refine AW.skip ?_
  refine hK1 _ _ _ ?_; clear hK1
  refine AW.sg [1,3] [1] trivial ?_
  refine AW.sg [2] [] (@hgw) ?_
  repeat with_reducible refine cj ?_ ?_
  all_goals try first | ((intro hh; (repeat' apply And.intro) <;> first | exact hh | omega)) | (intros; (repeat' apply And.intro) <;> first | assumption | ((intro hh; (repeat' apply And.intro) <;> first | exact hh | omega))) | omega | (intro hgd; exact absurd hgd (by decide)) | rfl | (simp only [go_sem, reduceIte, reduceCtorEq, zA, zM, zE, zL, zD, zS, zP, zB, zI, zR, hgw]; done) | (intro _hgd; simp_all [go_sem]; done)
  rw [← hQr]
  refine AW.rt trivial ?_
  exact Wk.of_eq (by simp [validS, topB, hpre.1, hpre.2.1, hpre.2.2])
theorem words_nil_get (i : Nat) : (words []).getD i [] = [] := rfl
theorem words_nil_len : (words []).length = 0 := rfl
theorem bvalid_a (N : Int) : Reads Tryz.prog 87 false [.agg [.int .i64 N, .rsl 1 (words [])]] (.bool (validS N [])) := by
 have hwr := bwords_r N
 refine Reads.body (rs := [.tmp 2]) Tryz.func87 rfl Tryz.ntmps87 rfl (by simp) ?_
 generalize hQr : retQ _ _ _ = Qr
 refine AW.sg [1] [1] trivial ?_
 refine AW.seq fun K1 hK1 => ?_
 refine AW.sd mixed 0 (fun ii => if ii = 14 then some (.reads false (.int .i64 (wordsN N))) else none) [1,20] [1] (@words_nil_len) ?_
 repeat with_reducible refine cj ?_ ?_
 all_goals try first | ((intro hh; refine ⟨hh, ?_⟩; simp at hh; exact hwr (by omega) (by omega))) | (intros; (repeat' apply And.intro) <;> first | assumption | ((intro hh; refine ⟨hh, ?_⟩; simp at hh; exact hwr (by omega) (by omega)))) | omega | exact chk (by kernel_rfl) | exact ent (by kernel_rfl) | (intro hgd; exact absurd hgd (by decide)) | rfl | (simp only [go_sem, reduceIte, reduceCtorEq, zA, zM, zE, zL, zD, zS, zP, zB, zI, zR, words_nil_len]; done) | (intro _hgd; simp_all [go_sem]; done)
 refine AW.cn ?_ ?_
 ·intro hb
  refine AW.sg [2] [] trivial ?_
  rw [← hQr]
  refine AW.rt trivial ?_
  exact Wk.of_eq (by congr 1; symm; simp [validS]; intros; omega)
 ·intro hb
  have hwn := wordsN_rng (n := N) (by omega)
  obtain rfl : N = 0 := by omega
  refine AW.skip ?_
  refine hK1 _ _ _ ?_; clear hK1
  refine AW.sg [1,3] [1] (@Int.zero_tmod) ?_
  refine AW.seq fun K2 hK2 => ?_
  refine AW.regionK 0 (fun _ => none) [2] [] ?_
  simp only [go_sem, reduceIte, reduceCtorEq, zA, zM, zE, zL, zD, zS, zP, zB, zI, zR, words_nil_get, words_nil_len, List.getD_nil]
  repeat with_reducible refine cj ?_ ?_
  all_goals try first | omega | (intros; (repeat' apply And.intro) <;> first | assumption | omega | decide) | (intro hgd; exact absurd hgd (by decide)) | rfl | (simp only [go_sem, reduceIte, reduceCtorEq, zA, zM, zE, zL, zD, zS, zP, zB, zI, zR, words_nil_get, words_nil_len, List.getD_nil]; done) | (intro _hgd; simp_all [go_sem]; done)
  refine hK2 _ _ _ ?_; clear hK2
  rw [← hQr]
  refine AW.rt trivial ?_
  exact Wk.of_eq (by rfl)
theorem bvalid_r (N : Int) (W : List Int) (hl : W.length ≤ 9223372036854775807) : Reads Tryz.prog 87 false [.agg [.int .i64 N, .rsl 1 (words W)]] (.bool (validS N W)) := by
 cases W with
 | nil => exact bvalid_a N
 | cons w l => exact bvalid_b N (w :: l) hl (by simp)
def badRow (n : Nat) (x : USet) : Bool := !(decide (x.N = n) && validS x.N x.W)
theorem vrow_r (rs : List USet) (x : USet) (hl : rs.length ≤ 9223372036854775807) (hx : x.W.length ≤ 9223372036854775807) : Reads Tryz.prog 119 false [.agg (rowV x), .rptr [.rsl 2 (rs.map rowV)]] (.bool (badRow rs.length x)) := by
 have hv := bvalid_r x.N x.W hx
 unfold rowV
 refine Reads.body (rs := [.tmp 3]) Tryz.func119 rfl Tryz.ntmps119 rfl (by simp) ?_
 generalize hQr : retQ _ _ _ = Qr
 refine AW.sg [1,2] [2] trivial ?_
 refine AW.so 0 (fun ii => if ii = 8 then some (.reads false (.bool (validS x.N x.W))) else none) [3] [] trivial ?_
 repeat with_reducible refine cj ?_ ?_
 all_goals try first | ((intro hh; exact ⟨hh, hv⟩)) | (intros; (repeat' apply And.intro) <;> first | assumption | ((intro hh; exact ⟨hh, hv⟩))) | omega | exact ent (by kernel_rfl) | (intro hgd; exact absurd hgd (by decide)) | rfl | exact gD | (intro _hgd; simp_all [go_sem]; done)
 rw [← hQr]
 refine AW.rt trivial ?_
 exact Wk.of_eq (by simp [badRow])
theorem ixrow_r (rs : List USet) (hl : rs.length ≤ 9223372036854775807) (hx : ∀ x ∈ rs, x.W.length ≤ 9223372036854775807) : Reads Tryz.prog 29 false [.rsl 2 (rs.map rowV), .fn 119 [.rptr [.rsl 2 (rs.map rowV)]]] (.int .i64 (ixf (badRow rs.length) rs)) := by
 have hbp := fun x hxm => vrow_r rs x hl (hx x hxm)
 refine Reads.body (rs := [.tmp 4]) Tryz.func29 rfl Tryz.ntmps29 rfl (by simp) ?_
 generalize hQr : retQ _ _ _ = Qr
 refine AW.sg [0,1] [] trivial ?_
 refine AW.seq fun K1 hK1 => ?_
 refine AW.sg [0,1,7,8] [] trivial ?_
 refine AW.block ?_
 refine AW.loopE (fun mm ee ss kk => ∃ (j : Nat), rs.length - j = mm ∧ ee = [(0, .rsl 2 (rs.map rowV)), (1, .fn 119 [.rptr [.rsl 2 (rs.map rowV)]]), (7, .int .i64 rs.length), (8, .int .i64 (j : Nat))] ∧ ss = [] ∧ (j ≤ rs.length ∧ (rs.take j).any (badRow rs.length) = false)) ?_ ?_
 ·exact ⟨_, 0, rfl, eD, eD, eT⟩
 rintro mm ee ss kk ⟨j, rfl, rfl, rfl, hI⟩
 generalize hQl1 : thenQ _ _ = Ql1
 obtain ⟨hj, hall⟩ := hI
 refine AW.sg [0,1,7,8,9] [] trivial ?_
 refine AW.seq fun K2 hK2 => ?_
 refine AW.cn ?_ ?_
 ·intro hb
  obtain ⟨x, hx⟩ := getI (l := rs) (j := j) (by omega)
  have hgx := getV (f := rowV) hx
  have hats := any_take_succ (p := badRow rs.length) hx
  have hbx := hbp x (List.mem_of_getElem? hx)
  refine AW.skip ?_
  refine hK2 _ _ _ ?_; clear hK2
  refine AW.seq fun K3 hK3 => ?_
  refine AW.block ?_
  refine AW.sg [0,1,5,7,8] [] trivial ?_
  refine AW.so 0 (fun ii => if ii = 5 then some (.reads false (.bool (badRow rs.length x))) else none) [0,1,5,7,8,16] [] (e2 @hgx @rowV.eq_1) ?_
  repeat with_reducible refine cj ?_ ?_
  all_goals try first | (exact hbx) | omega | exact ent (by kernel_rfl)
  refine AW.cn ?_ ?_
  ·intro hb
   refine AW.sg [4] [] trivial ?_
   rw [← hQl1, ← hQr]
   refine AW.rt trivial ?_
   exact Wk.of_eq (by rw [ixf_at hx hb hall])
  ·intro hb
   refine AW.skip ?_
   refine hK3 _ _ _ ?_; clear hK3
   refine AW.rg [0,1,7,8] [] trivial ?_
   rw [← hQl1]; change Exists _
   exact ⟨_, eO, j + 1, rfl, eD, eD, (⟨by omega, by rw [hats, hall, hb]; rfl⟩)⟩
 ·intro hb
  refine AW.kx [] [] ?_
  rw [← hQl1]
  refine hK1 _ _ _ ?_; clear hK1
  refine AW.sg [4] [] trivial ?_
  rw [← hQr]
  refine AW.rt trivial ?_
  exact Wk.of_eq (by rw [List.take_of_length_le (by omega)] at hall; rw [ixf_none hall])
theorem ctrow_r (rs : List USet) (hl : rs.length ≤ 9223372036854775807) (hx : ∀ x ∈ rs, x.W.length ≤ 9223372036854775807) : Reads Tryz.prog 47 false [.rsl 2 (rs.map rowV), .fn 119 [.rptr [.rsl 2 (rs.map rowV)]]] (.bool (rs.any (badRow rs.length))) := by
 have h := ixrow_r rs hl hx
 have hge := ixf_ge (badRow rs.length) rs
 refine Reads.body (rs := [.tmp 4]) Tryz.func47 rfl Tryz.ntmps47 rfl (by simp) ?_
 generalize hQr : retQ _ _ _ = Qr
 refine AW.sg [0,1] [] trivial ?_
 refine AW.so 0 (fun ii => if ii = 2 then some (.reads false (.int .i64 (ixf (badRow rs.length) rs))) else none) [4] [] trivial ?_
 repeat with_reducible refine cj ?_ ?_
 all_goals try first | (exact h) | omega | exact ent (by kernel_rfl)
 rw [← hQr]
 refine AW.rt trivial ?_
 exact Wk.of_eq (by rw [hge])
theorem not_any_all {α : Type} (p : α → Bool) (l : List α) : (!l.any fun x => !p x) = l.all p := by
 induction l with
 | nil => rfl
 | cons a l ih => simp only [List.any_cons, List.all_cons, Bool.not_or, ih, Bool.not_not]
theorem validR_any (rs : List USet) : validR rs = (decide (rs.length ≤ 512) && !rs.any (badRow rs.length)) := by
 unfold validR badRow; rw [not_any_all]
theorem rvalid_r (rs : List USet) (hl : rs.length ≤ 9223372036854775807) (hx : ∀ x ∈ rs, x.W.length ≤ 9223372036854775807) : Reads Tryz.prog 91 false [relV rs] (.bool (validR rs)) := by
 have h := Reads.flat (ctrow_r rs hl hx) rfl
 have hv := validR_any rs
 have e : ((rs.length : Int) ≤ 512) = (rs.length ≤ 512) := by apply propext; omega
 unfold relV
 refine Reads.body (rs := [.tmp 2]) Tryz.func91 rfl Tryz.ntmps91 rfl (by simp) ?_
 generalize hQr : retQ _ _ _ = Qr
 refine AW.sg [1] [1] trivial ?_
 refine AW.so 0 (fun ii => if ii = 8 then some (.reads true (.bool (rs.any (badRow rs.length)))) else none) [2] [] trivial ?_
 repeat with_reducible refine cj ?_ ?_
 all_goals try first | ((intro hh; exact ⟨hh, h⟩)) | (intros; (repeat' apply And.intro) <;> first | assumption | ((intro hh; exact ⟨hh, h⟩))) | omega | exact ent (by kernel_rfl) | (intro hgd; exact absurd hgd (by decide)) | rfl | exact gD | (intro _hgd; simp_all [go_sem]; done)
 rw [← hQr]
 refine AW.rt trivial ?_
 exact Wk.of_eq (by rw [hv]; simp [e])
end Go.Proofs.B

namespace Go.Proofs.B
open Go.AM Go
set_option maxRecDepth 100000
set_option maxHeartbeats 1000000
def goodRow (n : Nat) (x : USet) : Bool := decide (x.N = n) && validS n x.W
theorem validR_good (rs : List USet) : validR rs = (decide (rs.length ≤ 512) && rs.all (goodRow rs.length)) := by
 unfold validR
 have : (fun x : USet => decide (x.N = (rs.length : Int)) && validS x.N x.W) = goodRow rs.length := by
  funext x
  unfold goodRow
  by_cases h : x.N = (rs.length : Int)
  ·rw [h]
  ·simp [h]
 rw [this]
end Go.Proofs.B

namespace Go.Proofs.B
open Go.AM Go
set_option maxRecDepth 100000
set_option maxHeartbeats 1000000
theorem rhas_r (n : Nat) (t : List (List Bool)) (hs : Sq n t) (hn : n ≤ 512) (i j : Nat) (hi : i < n) (hj : j < n) : Reads Tryz.prog 121 false [relB t, .int .i64 i, .int .i64 j] (.bool (atT t i j)) := by
 have hrl := hs.rowLen hi
 have hgt := tabR_get (t := t) (i := i) (by rw [hs.len]; exact hi)
 have htl := tabR_len t
 have hlen := hs.len
 have hat : atT t i j = (rowT t i).getD j false := rfl
 generalize hb : rowT t i = b at *
 have hwl := setW_len' b
 have hd := div64_rng (i := (j : Int)) (n := b.length) (by omega) (by omega)
 have hwn := wordsN_rng (n := (b.length : Int)) (by omega)
 have hgw := words_getD (l := setW b b.length) (i := ((j : Int).tdiv 64).toNat) (by omega)
 have hbt := bit_hasW (setW_ok b) (i := (j : Int)) (by omega)
 rw [hasW_row (by omega), ← hat] at hbt
 unfold relB
 refine Reads.body (rs := [.tmp 6]) Tryz.func121 rfl Tryz.ntmps121 rfl (by simp) ?_
 generalize hQr : retQ _ _ _ = Qr
 refine AW.sg [1,2,3] [3] trivial ?_
 refine AW.sg [6] [] (e3 @hgt @rowB.eq_1 @hgw) ?_
 rw [← hQr]
 refine AW.rt trivial ?_
 exact Wk.of_eq (by rw [hbt])
theorem put_u (n : Nat) (t : List (List Bool)) (hs : Sq n t) (hn : n ≤ 512) (i j : Nat) (hi : i < n) (hj : j < n) (g v : Nat) (kc : Option Nat) :
  Upd Tryz.prog 79 [(0, some ⟨g, v, 2, tabO t⟩)] [.agg [.sl ⟨0, g, none⟩ 0 n kc], .int .i64 i, .int .i64 j] (fun _ => .tup []) (fun k => [(0, some ⟨g, k, 2, tabO (t.set i ((rowT t i).set j true))⟩)]) := by
 have hrl := hs.rowLen hi
 have hlen := hs.len
 have hgt := tabO_get (t := t) (i := i) (by omega)
 have htl := tabO_len t
 have hts := tabO_set t i
 generalize hb : rowT t i = b at *
 have hwl := setW_len' b
 have hd := div64_rng (i := (j : Int)) (n := b.length) (by omega) (by omega)
 have hwn := wordsN_rng (n := (b.length : Int)) (by omega)
 have hgw := words_getD (l := setW b b.length) (i := ((j : Int).tdiv 64).toNat) (by omega)
 have hsb := setBit_setW b (i := j) (by omega)
 unfold setBit at hsb
 have hro : rowO (b.set j true) = [.int .i64 b.length, .osl 1 (words (setW (b.set j true) b.length))] := by simp [rowO]
 have hts2 : (tabO t).set i [.int .i64 b.length, .osl 1 (words (setW (b.set j true) b.length))] = tabO (t.set i (b.set j true)) := by rw [← hro]; exact hts _
 refine Upd.of_body (rs := []) Tryz.func79 rfl Tryz.ntmps79 rfl (by simp) ?_
 intro k0 k hk0 hk1
 generalize hQr : retQ _ _ _ = Qr
 refine AW.so 100 (fun _ => none) [1,2,3] [0,103] trivial ?_
 refine AW.rd mixed 100 (fun _ => none) [] [0] (e5 @hgt @rowO.eq_1 @hgw @hsb @hts2) ?_
 rw [← hQr]
 simp only [go_sem, reduceIte, reduceCtorEq, zA, zM, zE, zL, zD, zS, zP, zB, zI, zR]
 refine ⟨[(0, 0, false)], ?_⟩
 simp only [go_sem, reduceIte, zE, renC_tabO]
theorem set_getD_self {α : Type} (l : List α) (i : Nat) (d : α) : l.set i (l.getD i d) = l := by
 refine List.ext_getElem? fun k => ?_
 rw [List.getElem?_set]
 split
 ·rename_i h; subst h
  split
  ·rename_i h2; simp [List.getD_eq_getElem?_getD, h2]
  ·rename_i h2; rw [List.getElem?_eq_none (by omega)]
 ·rfl
/-- A row takes the members of another one up to a word. -/
def orUpto (A B : List Int) (j : Nat) : List Int := List.zipWith (bOr .u64) (A.take j) (B.take j) ++ A.drop j
theorem orUpto_zero (A B : List Int) : orUpto A B 0 = A := by simp [orUpto]
theorem orUpto_len {A B : List Int} (h : A.length = B.length) (j : Nat) : (orUpto A B j).length = A.length := by simp [orUpto]; omega
theorem orUpto_all {A B : List Int} (h : A.length = B.length) {j : Nat} (hj : A.length ≤ j) : orUpto A B j = List.zipWith (bOr .u64) A B := by
 unfold orUpto; rw [List.take_of_length_le hj, List.take_of_length_le (by omega), List.drop_of_length_le hj]; simp
theorem orUpto_get {A B : List Int} (h : A.length = B.length) {j k : Nat} (hk : j ≤ k) : (orUpto A B j).getD k 0 = A.getD k 0 := by
 unfold orUpto
 by_cases hj : j ≤ A.length
 ·have hl : (List.zipWith (bOr .u64) (A.take j) (B.take j)).length = j := by simp; omega
  rw [List.getD_eq_getElem?_getD, List.getElem?_append_right (by omega), hl, List.getElem?_drop, List.getD_eq_getElem?_getD]
  congr 2; omega
 ·have hl : (List.zipWith (bOr .u64) (A.take j) (B.take j)).length = A.length := by simp; omega
  rw [List.drop_of_length_le (by omega), List.append_nil, Go.AM.getD_out (by omega), Go.AM.getD_out (by omega)]
theorem orUpto_succ {A B : List Int} (h : A.length = B.length) {j : Nat} (hj : j < A.length) : orUpto A B (j + 1) = (orUpto A B j).set j (bOr .u64 (A.getD j 0) (B.getD j 0)) := by
 unfold orUpto
 have hl : (List.zipWith (bOr .u64) (A.take j) (B.take j)).length = j := by simp; omega
 rw [List.set_append_right _ _ (by omega), hl, Nat.sub_self, List.drop_eq_getElem_cons hj, List.set_cons_zero, List.take_succ_eq_append_getElem hj, List.take_succ_eq_append_getElem (by omega), List.zipWith_append (by simp; omega)]
 simp [List.getD_eq_getElem?_getD, hj, show j < B.length by omega]
theorem rep_succ (n j : Nat) (b : List Bool) : List.replicate (j + 1) b = List.replicate j b ++ [b] := List.replicate_succ'
theorem empty_u (n : Nat) (hn : n ≤ 512) : Upd Tryz.prog 78 [] [.int .i64 n] (fun k => .agg [.sl ⟨0, k, none⟩ 0 n none]) (fun k => [(0, some ⟨k, k, 2, tabO (List.replicate n (List.replicate n false))⟩)]) := by
 have hwn := wordsN_rng (n := (n : Int)) (by omega)
 have hrw := rwords_r n (by omega) (by omega)
 have hro : rowO (List.replicate n false) = [.int .i64 n, .osl 1 (words (List.replicate (wordsN n).toNat 0))] := by unfold rowO; simp only [List.length_replicate]; rw [setW_zero]
 have hwz : words (List.replicate (wordsN n).toNat 0) = List.replicate (wordsN n).toNat [.int .u64 0] := by simp [words]
 refine Upd.of_body (rs := [.cell 2 24]) Tryz.func78 rfl Tryz.ntmps78 rfl (by simp) ?_
 intro k0 k hk0 hk1
 generalize hQr : retQ _ _ _ = Qr
 refine AW.so 100 (fun _ => none) [0,2] [102] trivial ?_
 refine AW.so 100 (fun _ => none) [0,2,3] [102,103] trivial ?_
 refine AW.seq fun K1 hK1 => ?_
 refine AW.so 100 (fun _ => none) [0,2,3,4,5] [102,103] trivial ?_
 refine AW.block ?_
 refine AW.nilCellK 103 0 0 200 2 ?_
 simp only [go_sem, reduceIte, zE]
 repeat refine cj ?_ ?_
 any_goals first | decide | omega
 refine AW.keep [0, 2, 3, 4, 5] [102, 103, 200] ?_
 simp only [go_sem, reduceIte, zE]
 refine AW.loopE (fun mm ee ss kk => ∃ (j g2 v2 g3 v3 g v : Nat), n - j = mm ∧ ee = [(0, .int .i64 n), (2, .ptr ⟨102, g2, none⟩ 0 0), (3, .ptr ⟨103, g3, none⟩ 0 0), (4, .int .i64 n), (5, .int .i64 (j : Nat))] ∧ ss = [(102, some ⟨g2, v2, 1, [[.nilsl]]⟩), (103, some ⟨g3, v3, 1, [[.sl ⟨200, g, none⟩ 0 j none]]⟩), (200, some ⟨g, v, 2, tabO (List.replicate j (List.replicate n false))⟩)] ∧ (j ≤ n)) ?_ ?_
 ·exact ⟨_, 0, _, _, _, _, _, _, rfl, eD, eD, eT⟩
 rintro mm ee ss kk ⟨j, g2, v2, g3, v3, g, v, rfl, rfl, rfl, hI⟩
 generalize hQl1 : thenQ _ _ = Ql1
 refine AW.so 100 (fun _ => none) [0,2,3,4,5,6] [102,103,200] trivial ?_
 refine AW.seq fun K2 hK2 => ?_
 refine AW.cn ?_ ?_
 ·intro hb
  have htl : (List.replicate j (List.replicate n false)).length = j := by simp
  have htk : (tabO (List.replicate j (List.replicate n false))).take j = tabO (List.replicate j (List.replicate n false)) := List.take_of_length_le (by rw [tabO_len, htl]; exact Nat.le_refl _)
  have hgl : ∀ x : List AV, (tabO (List.replicate j (List.replicate n false)) ++ [x]).getD j [] = x := fun x => by rw [List.getD_eq_getElem?_getD, List.getElem?_append_right (by rw [tabO_len, htl]; exact Nat.le_refl _), tabO_len, htl]; simp
  have hsl : ∀ x y : List AV, (tabO (List.replicate j (List.replicate n false)) ++ [x]).set j y = tabO (List.replicate j (List.replicate n false)) ++ [y] := fun x y => by rw [List.set_append_right _ _ (by rw [tabO_len, htl]; exact Nat.le_refl _), tabO_len, htl]; simp
  have hll : ∀ x : List AV, (tabO (List.replicate j (List.replicate n false)) ++ [x]).length = j + 1 := fun x => by simp [tabO_len]
  have hrs := rep_succ n j (List.replicate n false)
  have hta := tabO_app (List.replicate j (List.replicate n false)) (List.replicate n false)
  rw [hro, ← hrs] at hta
  refine AW.skip ?_
  refine hK2 _ _ _ ?_; clear hK2
  refine AW.seq fun K3 hK3 => ?_
  refine AW.block ?_
  refine AW.rd mixed 100 (fun ii => if ii = 4 then some (.reads false (.int .i64 (wordsN n))) else none) [0,2,3,4,5] [102,103,112,200] (e3 @htk @tabO_len @htl) ?_
  repeat with_reducible refine cj ?_ ?_
  all_goals try first | (exact hrw) | omega | exact chk (by kernel_rfl) | exact ent (by kernel_rfl) | (simp [scP, scalar]; done) | exact scP_words _ | exact scP_ints _ | exact scP_bools _
  refine hK3 _ _ _ ?_; clear hK3
  refine AW.adoptK 200 j 1 112 ?_
  simp only [go_sem, reduceIte, zE, hgl, hsl, hll]
  repeat refine cj ?_ ?_
  any_goals first | decide | (rw [← hwz]; exact noOsl_words _) | omega
  refine AW.keep [0, 2, 3, 4, 5] [102, 103, 200] ?_
  simp only [go_sem, reduceIte, zE]
  rw [← hwz, hta]
  refine AW.ro 100 (fun _ => none) [0,2,3,4,5] [102,103,200] trivial ?_
  rw [← hQl1]; change Exists _
  exact ⟨_, eO, j + 1, _, _, _, _, _, _, rfl, eD, eD, eT⟩
 ·intro hb
  refine AW.kx [2,3] [102,103,112,115,200] ?_
  rw [← hQl1]
  refine hK1 _ _ _ ?_; clear hK1
  refine AW.so 100 (fun _ => none) [2] [102,200] trivial ?_
  rw [← hQr]
  refine AW.rt trivial ?_
  have hj : j = n := by omega
  subst hj
  refine ⟨[(200, 0, true)], ?_⟩
  simp only [go_sem, reduceIte, zE, renC_tabO]
end Go.Proofs.B

