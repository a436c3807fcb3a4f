/- Lemmas and contracts, part 2: an abstract machine over the model, and the functions that the statement reaches. -/
import Derived.Test.YtppocnbagombeaaGreatDoorBirkhoffLatticesP1
import Derived.MapKept
import Derived.Laws.BytesString
import Derived.Tactics
set_option linter.unusedVariables false
set_option linter.unusedSimpArgs false
open Nat renaming reduceAdd → zA, reduceMul → zM, reduceEqDiff → zE, reduceLT → zL, reduceLeDiff → zD, reduceSub → zS, reducePow → zP, reduceBEq → zB
open Int renaming reduceToNat → zI
open List renaming reduceReplicate → zR
/- Roots under other numbers and other marks. -/
namespace Go.AM

theorem rcontent_congr {s s' : Store} {r : Ref} (h : sget s r.id = sget s' r.id) : rcontent s r = rcontent s' r := by
  unfold rcontent; rw [h]
theorem content_congr {s s' : Store} {r : Ref} (h : sget s r.id = sget s' r.id) : content s r = content s' r := by
  unfold content; rw [rcontent_congr h]
theorem mcontent_congr {s s' : Store} {r : Ref} (h : sget s r.id = sget s' r.id) : mcontent s r = mcontent s' r := by
  unfold mcontent; rw [rcontent_congr h]

theorem sget_append (u s : Store) (id : Nat) : sget (u ++ s) id = if id ∈ u.map (·.1) then sget u id else sget s id := by
  induction u with
  | nil => simp
  | cons p u ih =>
    obtain ⟨k, r⟩ := p
    simp only [List.cons_append, sget_cons, ih, List.map_cons, List.mem_cons]
    by_cases h : k = id
    · subst h; rw [if_pos rfl, if_pos (.inl rfl), if_pos rfl]
    · rw [if_neg h, if_neg h]
      by_cases h2 : id ∈ u.map (·.1)
      · rw [if_pos h2, if_pos (.inr h2)]
      · rw [if_neg h2, if_neg fun h3 => h3.elim (fun e => h e.symm) h2]

/-- The value with its references replaced; what has no new name is forgotten. -/
def ren (m : Ref → Option Ref) : Nat → AV → AV
  | _, .sl r off len kc => match m r with
    | some r' => .sl r' off len kc
    | none => .any
  | _, .ptr r i o => match m r with
    | some r' => .ptr r' i o
    | none => .any
  | _, .mp r => match m r with
    | some r' => .mp r'
    | none => .any
  | d + 1, .agg cs => .agg (cs.map (ren m d))
  | d + 1, .tup cs => .tup (cs.map (ren m d))
  | d + 1, .fn f cs => .fn f (cs.map (ren m d))
  | d + 1, .opt p v => .opt p (ren m d v)
  | _, .int k n => .int k n
  | _, .bool b => .bool b
  | _, .str s => .str s
  | _, .nilp => .nilp
  | _, .nilsl => .nilsl
  | _, .nilq b => .nilq b
  | _, .rsl sz es => .rsl sz es
  | _, .rptr cs => .rptr cs
  | _, _ => .any

def renC (m : Ref → Option Ref) (d : Nat) : AV → AV
  | .osl sz es => .osl sz (es.map fun row => row.map (ren m d))
  | v => ren m d v

theorem ren_mv {m : Ref → Option Ref} {d : Nat} {v : AV} (h : isMv v = true) : ren m (d + 1) v = v := by
  have h1 : ∀ {d : Nat} {v : AV}, isMv1 v = true → ren m d v = v := fun {d v} h => by cases v <;> first | (simp [isMv1] at h; done) | (cases d <;> rfl)
  cases v with
  | agg cs =>
    show AV.agg _ = _
    congr 1
    conv => rhs; rw [← List.map_id cs]
    exact List.map_congr_left fun c hc => h1 (List.all_eq_true.1 h c hc)
  | _ => exact h1 h

theorem ren_not_osl (m : Ref → Option Ref) (d : Nat) (v : AV) (sz : Nat) (es : List (List AV)) : ren m d v ≠ .osl sz es := by
  intro h
  cases v <;> cases d <;> simp only [ren] at h <;> first | cases h | (split at h <;> cases h)

theorem renC_osl {m : Ref → Option Ref} {d : Nat} {v : AV} {sz : Nat} {es : List (List AV)} (h : renC m d v = .osl sz es) : ∃ q, v = .osl sz q ∧ es = q.map fun row => row.map (ren m d) := by
  cases v with
  | osl sz' q => simp only [renC, AV.osl.injEq] at h; exact ⟨q, by rw [h.1], h.2.symm⟩
  | _ => exact absurd h (ren_not_osl _ _ _ _ _)

def flt (c : AV) : AV := if isMv c = true then c else .any
def mvCell (sz : Nat) (m : Ref → Option Ref) (d : Nat) : AV → AV := if sz = mapSz then flt else renC m d
theorem mvCell_osl {sz0 : Nat} {m : Ref → Option Ref} {d : Nat} {v : AV} {sz : Nat} {es : List (List AV)} (h : mvCell sz0 m d v = .osl sz es) : ∃ q, v = .osl sz q ∧ es = q.map fun row => row.map (ren m d) := by
  unfold mvCell at h
  split at h
  · unfold flt at h
    split at h
    · rename_i hf; rw [h] at hf; cases hf
    · cases h
  · exact renC_osl h
theorem mvCell_no {sz0 : Nat} (hs : sz0 ≠ mapSz) (m : Ref → Option Ref) (d : Nat) : mvCell sz0 m d = renC m d := if_neg hs
theorem mvCell_map {sz0 : Nat} (hs : sz0 = mapSz) (m : Ref → Option Ref) (d : Nat) : mvCell sz0 m d = flt := if_pos hs
theorem map_flt {es : List (List AV)} (h : ∀ row ∈ es, ∀ c ∈ row, isMv c = true) : es.map (fun row => row.map flt) = es := by
  conv => rhs; rw [← List.map_id es]
  refine List.map_congr_left fun row hr => ?_
  conv => rhs; rw [id_eq, ← List.map_id row]
  exact List.map_congr_left fun c hc => by simp [flt, h row hr c hc]

theorem ren_any (m : Ref → Option Ref) (d : Nat) : ren m d .any = .any := by cases d <;> rfl
theorem renC_any (m : Ref → Option Ref) (d : Nat) : renC m d .any = .any := ren_any m d
theorem mvCell_any (sz : Nat) (m : Ref → Option Ref) (d : Nat) : mvCell sz m d .any = .any := by
  unfold mvCell
  split
  · rfl
  · exact renC_any m d

theorem getD_map_any (f : AV → AV) (hf : f .any = .any) (l : List AV) (i : Nat) : (l.map f).getD i .any = f (l.getD i .any) := by
  simp only [List.getD_eq_getElem?_getD, List.getElem?_map]
  cases l[i]? <;> simp [hf]
theorem getD_map_nil (f : AV → AV) (es : List (List AV)) (i : Nat) : (es.map fun row => row.map f).getD i [] = (es.getD i []).map f := by
  simp only [List.getD_eq_getElem?_getD, List.getElem?_map]
  cases es[i]? <;> simp

theorem Rel.ren {x y : Cx} {m : Ref → Option Ref} (hw : y.w = x.w) (himm : ∀ b, x.imm b → y.imm b)
    (href : ∀ r r', m r = some r' → r'.ok y.c ∧ ∀ sz es', rcontent y.s r' = some (sz, es') → ∃ es, rcontent x.s r = some (sz, es) ∧ es.length = es'.length ∧ y.ρ r'.pl = x.ρ r.pl) :
    ∀ (d : Nat) (v : AV) (u : Value), Rel x v u → Rel y (ren m d v) u := by
  have hp : ∀ v u, RelP x.imm x.w v u → RelP y.imm y.w v u := fun v u h => h.mono fun b hb => ⟨himm b hb, by rw [hw]⟩
  have hsl : ∀ d r off len kc u, Rel x (.sl r off len kc) u → Rel y (AM.ren m d (.sl r off len kc)) u := by
    intro d r off len kc u h
    have : AM.ren m d (.sl r off len kc) = match m r with | some r' => .sl r' off len kc | none => .any := by cases d <;> rfl
    rw [this]
    cases hm : m r with
    | none => exact .any _
    | some r' =>
      obtain ⟨a, cap, rfl, hk, _, hc⟩ := h.sl_inv
      obtain ⟨h1, h2⟩ := href r r' hm
      refine .sl _ _ _ _ _ _ hk h1 fun sz es' he => ?_
      obtain ⟨he, hsz⟩ := content_iff.1 he
      obtain ⟨es, g1, g2, g3⟩ := h2 sz es' he
      obtain ⟨k1, k2⟩ := hc sz es (content_iff.2 ⟨g1, hsz⟩)
      exact ⟨by omega, by rw [g3, hw]; exact k2⟩
  have hptr : ∀ d r i o u, Rel x (.ptr r i o) u → Rel y (AM.ren m d (.ptr r i o)) u := by
    intro d r i o u h
    have : AM.ren m d (.ptr r i o) = match m r with | some r' => .ptr r' i o | none => .any := by cases d <;> rfl
    rw [this]
    cases hm : m r with
    | none => exact .any _
    | some r' =>
      obtain ⟨a, rfl, _, hc⟩ := h.ptr_inv
      obtain ⟨h1, h2⟩ := href r r' hm
      refine .ptr _ _ _ _ h1 fun sz es' he => ?_
      obtain ⟨he, hsz⟩ := content_iff.1 he
      obtain ⟨es, g1, g2, g3⟩ := h2 sz es' he
      obtain ⟨k1, b, base, k2, k3⟩ := hc sz es (content_iff.2 ⟨g1, hsz⟩)
      exact ⟨by omega, b, base, by rw [g3]; exact k2, k3⟩
  have hmp : ∀ d r u, Rel x (.mp r) u → Rel y (AM.ren m d (.mp r)) u := by
    intro d r u h
    have : AM.ren m d (.mp r) = match m r with | some r' => .mp r' | none => .any := by cases d <;> rfl
    rw [this]
    cases hm : m r with
    | none => exact .any _
    | some r' =>
      cases h with
      | pure _ _ h => cases h
      | mp _ _ _ hc =>
        obtain ⟨h1, h2⟩ := href r r' hm
        refine .mp _ _ h1 fun es' he => ?_
        obtain ⟨es, g1, g2, g3⟩ := h2 mapSz es' (mcontent_iff.1 he)
        obtain ⟨b, base, k2, k3⟩ := hc es (mcontent_iff.2 g1)
        exact ⟨b, base, by rw [g3]; exact k2, k3⟩
  intro d
  induction d with
  | zero =>
    intro v u h
    cases v with
    | sl => exact hsl _ _ _ _ _ _ h
    | ptr => exact hptr _ _ _ _ _ h
    | mp => exact hmp _ _ _ h
    | int | bool | str | nilp | nilsl | nilq | rsl | rptr => cases h with | pure _ _ h => exact .pure _ _ (hp _ _ h)
    | _ => exact .any _
  | succ d ih =>
    intro v u h
    have hall : ∀ (cs : List AV) (vs : List Value), (∀ i, i < cs.length → Rel x (cs.getD i .any) (vs.getD i undef)) → ∀ i, i < (cs.map (AM.ren m d)).length → Rel y ((cs.map (AM.ren m d)).getD i .any) (vs.getD i undef) := fun cs vs hr i hi => by
      rw [getD_map_any _ (ren_any m d)]
      exact ih _ _ (hr i (by simpa using hi))
    cases v with
    | sl => exact hsl _ _ _ _ _ _ h
    | ptr => exact hptr _ _ _ _ _ h
    | mp => exact hmp _ _ _ h
    | int | bool | str | nilp | nilsl | nilq | rsl | rptr => cases h with | pure _ _ h => exact .pure _ _ (hp _ _ h)
    | agg cs => obtain ⟨vs, rfl, hl, hr⟩ := h.agg_inv; exact .agg _ _ (by simpa using hl) (hall cs vs hr)
    | tup cs => obtain ⟨vs, rfl, hl, hr⟩ := h.tup_inv; exact .tup _ _ (by simpa using hl) (hall cs vs hr)
    | fn f cs => obtain ⟨vs, rfl, hl, hr⟩ := h.fn_inv; exact .fn _ _ _ (by simpa using hl) (hall cs vs hr)
    | opt p v =>
      cases h with
      | pure _ _ h => cases h
      | opt _ _ _ h1 h2 => exact .opt _ _ _ (fun hp => ih _ _ (h1 hp)) h2
    | osl => exact .any _
    | any => exact .any _

/-- A root's move: from the number src to dst, with new marks. -/
structure Mv where
  src : Nat
  R : Root
  dst : Nat
  gen : Nat
  ver : Nat

def findS : List Mv → Nat → Option Mv
  | [], _ => none
  | e :: l, i => if e.src = i then some e else findS l i
def findD : List Mv → Nat → Option Mv
  | [], _ => none
  | e :: l, i => if e.dst = i then some e else findD l i

theorem findS_some : ∀ {M : List Mv} {i : Nat} {e : Mv}, findS M i = some e → e ∈ M ∧ e.src = i
  | [], _, _, h => by cases h
  | a :: M, i, e, h => by
    unfold findS at h
    split at h
    · rename_i hs; obtain rfl := Option.some.inj h; exact ⟨by simp, hs⟩
    · have := findS_some h; exact ⟨by simp [this.1], this.2⟩
theorem findD_some : ∀ {M : List Mv} {i : Nat} {e : Mv}, findD M i = some e → e ∈ M ∧ e.dst = i
  | [], _, _, h => by cases h
  | a :: M, i, e, h => by
    unfold findD at h
    split at h
    · rename_i hs; obtain rfl := Option.some.inj h; exact ⟨by simp, hs⟩
    · have := findD_some h; exact ⟨by simp [this.1], this.2⟩
theorem findD_mem : ∀ {M : List Mv} {e : Mv}, (M.map (·.dst)).Nodup → e ∈ M → findD M e.dst = some e
  | [], _, _, h => by cases h
  | a :: M, e, hn, h => by
    unfold findD
    rw [List.map_cons, List.nodup_cons] at hn
    rcases List.mem_cons.1 h with rfl | h
    · rw [if_pos rfl]
    · have : a.dst ≠ e.dst := fun he => hn.1 (he ▸ List.mem_map.2 ⟨e, h, rfl⟩)
      rw [if_neg this]; exact findD_mem hn.2 h

def mvRef (M : List Mv) (r : Ref) : Option Ref :=
  match findS M r.id with
  | none => none
  | some e => if r.gen = e.R.gen then match r.sub with
      | none => some ⟨e.dst, e.gen, none⟩
      | some (i, o, v) => if v = e.R.ver then some ⟨e.dst, e.gen, some (i, o, e.ver)⟩ else none
    else none

def mvRoot (M : List Mv) (d : Nat) (e : Mv) : Root := ⟨e.gen, e.ver, e.R.sz, e.R.es.map fun row => row.map (mvCell e.R.sz (mvRef M) d)⟩
def mvStore (M : List Mv) (d : Nat) : List Mv → Store
  | [] => []
  | e :: l => (e.dst, some (mvRoot M d e)) :: mvStore M d l

theorem sget_mvStore (M : List Mv) (d : Nat) : ∀ (l : List Mv) (i : Nat), sget (mvStore M d l) i = (findD l i).map (mvRoot M d)
  | [], _ => rfl
  | e :: l, i => by
    simp only [mvStore, sget_cons, findD]
    split
    · rfl
    · exact sget_mvStore M d l i

def mvρ (M : List Mv) (ρ : Pl → Option (Nat × Nat)) : Pl → Option (Nat × Nat) := fun π =>
  match findD M π.1 with
  | some e => ρ (e.src, π.2)
  | none => none

theorem mv_pcontent {M : List Mv} {d : Nat} {s : Store} (hM : ∀ e ∈ M, sget s e.src = some e.R) {π : Pl} {sz : Nat} {es' : List (List AV)} (h : pcontent (mvStore M d M) π = some (sz, es')) :
    ∃ e es, findD M π.1 = some e ∧ pcontent s (e.src, π.2) = some (sz, es) ∧ (match π.2 with | none => es' = es.map fun row => row.map (mvCell sz (mvRef M) d) | some _ => es' = es.map fun row => row.map (ren (mvRef M) d)) := by
  unfold pcontent at h
  rw [sget_mvStore] at h
  cases hf : findD M π.1 with
  | none => simp [hf] at h
  | some e =>
    obtain ⟨hm, _⟩ := findD_some hf
    have hs := hM e hm
    simp only [hf, Option.map_some] at h
    obtain ⟨p1, p2⟩ := π
    cases p2 with
    | none =>
      simp only [mvRoot, Option.some.injEq, Prod.mk.injEq] at h
      exact ⟨e, e.R.es, rfl, by simp [pcontent, hs, h.1], by rw [← h.1]; exact h.2.symm⟩
    | some io =>
      obtain ⟨i, o⟩ := io
      simp only at h
      have h1 := inner_some h
      simp only [mvRoot] at h1
      rw [getD_map_nil, getD_map_any _ (mvCell_any _ _ _)] at h1
      obtain ⟨q, g1, g2⟩ := mvCell_osl h1
      exact ⟨e, q, rfl, by simp only [pcontent, hs]; exact inner_of g1, g2⟩

theorem map_rows_len (f : AV → AV) {es : List (List AV)} {sz : Nat} (h : ∀ e ∈ es, e.length = sz) : ∀ e ∈ es.map (fun row => row.map f), e.length = sz := fun e he => by
  obtain ⟨r, hr, rfl⟩ := List.mem_map.1 he
  simpa using h r hr

theorem mv_href {s : Store} {ρ : Pl → Option (Nat × Nat)} {c' : Nat → Prop} (d : Nat) {M : List Mv} (hM : ∀ e ∈ M, sget s e.src = some e.R) (hdst : (M.map (·.dst)).Nodup) (hc : ∀ e ∈ M, c' e.gen ∧ c' e.ver) {r r' : Ref} (hr : mvRef M r = some r') :
    r'.ok c' ∧ r'.id ∈ M.map (·.dst) ∧ ∀ sz es', rcontent (mvStore M d M) r' = some (sz, es') → ∃ es, rcontent s r = some (sz, es) ∧ es.length = es'.length ∧ mvρ M ρ r'.pl = ρ r.pl := by
  unfold mvRef at hr
  split at hr
  · cases hr
  · rename_i e he
    obtain ⟨hm, hs⟩ := findS_some he
    split at hr
    · rename_i hg
      have key : ∀ sz es', rcontent (mvStore M d M) r' = some (sz, es') → r'.id = e.dst → r'.sub.map (fun x => (x.1, x.2.1)) = r.sub.map (fun x => (x.1, x.2.1)) → (∀ i o v, r.sub = some (i, o, v) → v = e.R.ver) → findD M e.dst = some e →
          ∃ es, rcontent s r = some (sz, es) ∧ es.length = es'.length ∧ mvρ M ρ r'.pl = ρ r.pl := by
        intro sz es' hcon hid hsub hver hfd
        have hp := pcontent_of_rcontent hcon
        obtain ⟨e', es, g1, g2, g3⟩ := mv_pcontent hM hp
        have : e' = e := by
          simp only [Ref.pl, hid] at g1
          rw [hfd] at g1; exact (Option.some.inj g1).symm
        subst this
        refine ⟨es, ?_, ?_, ?_⟩
        · simp only [Ref.pl, hsub] at g2
          unfold rcontent
          rw [← hs, hM e' hm]
          simp only [pcontent, hM e' hm] at g2
          simp only [hg, if_true]
          cases hrs : r.sub with
          | none => simpa [hrs] using g2
          | some x =>
            obtain ⟨i, o, v⟩ := x
            simp only [hrs, Option.map_some] at g2
            simp only [hver i o v hrs, if_true]
            exact g2
        · cases hpl : r'.pl.2 <;> simp only [hpl] at g3 <;> simp [g3]
        · simp only [mvρ, Ref.pl, hsub, hid, hfd, hs]
      have hfd := findD_mem hdst hm
      have hmem : e.dst ∈ M.map (·.dst) := List.mem_map.2 ⟨e, hm, rfl⟩
      split at hr
      · rename_i hsub
        obtain rfl := Option.some.inj hr
        exact ⟨⟨(hc e hm).1, fun _ _ _ h => by cases h⟩, hmem, fun sz es' hcon => key sz es' hcon rfl (by rw [hsub]) (fun i o v h => by rw [hsub] at h; cases h) hfd⟩
      · rename_i i o v hsub
        split at hr
        · rename_i hv
          obtain rfl := Option.some.inj hr
          refine ⟨⟨(hc e hm).1, fun i' o' v' h => ?_⟩, hmem, fun sz es' hcon => key sz es' hcon rfl (by rw [hsub]; rfl) (fun i' o' v' h => ?_) hfd⟩
          · simp only [Option.some.injEq, Prod.mk.injEq] at h
            rw [← h.2.2]; exact (hc e hm).2
          · rw [hsub] at h
            simp only [Option.some.injEq, Prod.mk.injEq] at h
            rw [← h.2.2]; exact hv
        · cases hr
    · cases hr

theorem mv_len {M : List Mv} {d sz : Nat} {q es : List (List AV)} {p : Option (Nat × Nat)} (g3 : match p with | none => es = q.map fun row => row.map (mvCell sz (mvRef M) d) | some _ => es = q.map fun row => row.map (ren (mvRef M) d)) : es.length = q.length := by
  cases p <;> simp only at g3 <;> simp [g3]

theorem mv_rows {x y : Cx} (h : StOk x) {M : List Mv} {d : Nat} (hM : ∀ e ∈ M, sget x.s e.src = some e.R) (hw : y.w = x.w) (hrel : ∀ d v u, Rel x v u → Rel y (ren (mvRef M) d v) u) {π : Pl} {sz : Nat} {es : List (List AV)} {b base : Nat}
    (hp : pcontent (mvStore M d M) π = some (sz, es)) (hρ : mvρ M x.ρ π = some (b, base)) (hy : ∀ sub, y.ρ (π.1, sub) = mvρ M x.ρ (π.1, sub)) : RowOk y π sz es b base := by
  obtain ⟨e, q, g1, g2, g3⟩ := mv_pcontent hM hp
  simp only [mvρ, g1] at hρ
  have hrow := h.rows _ _ _ _ _ g2 hρ
  have hlen := mv_len g3
  refine ⟨fun hsz => ?_, fun hsz => ?_, by rw [hw]; exact hrow.lt⟩
  rotate_left
  · obtain ⟨m0, m3, l, c, m1, m2, m4⟩ := hrow.map hsz
    simp only [m0, mvCell_map hsz] at g3
    rw [map_flt m3] at g3
    simp only at m0
    rw [m0] at g3
    subst g3
    refine ⟨m0, m3, l, c, by rw [hw]; exact m1, m2.imp (fun v u hv hr => ?_) m3, m4⟩
    have := hrel 1 v u hr
    rwa [ren_mv hv] at this
  rw [mvCell_no hsz] at g3
  obtain ⟨cs, T, k1, k2, k3⟩ := hrow.cells hsz
  refine ⟨cs, T, by rw [hw]; exact k1, by rw [hlen]; exact k2, fun i j hi hj => ?_⟩
  obtain ⟨u, m1, m2⟩ := k3 i j (by omega) hj
  refine ⟨u, m1, ?_⟩
  obtain ⟨p1, p2⟩ := π
  have plain : ∀ a : AV, (∀ sz es, a ≠ .osl sz es) → CellOk x (e.src, p2) i j a u → CellOk y (p1, p2) i j (ren (mvRef M) d a) u := fun a hn hc =>
    CellOk.of_rel (ren_not_osl _ _ _) (hrel d a u (hc.rel hn))
  cases p2 with
  | none =>
    simp only at g3
    rw [g3, getD_map_nil, getD_map_any _ (renC_any _ _)]
    generalize (q.getD i []).getD j .any = a at m2
    cases a with
    | osl sz' q' =>
      refine ⟨rfl, ?_⟩
      have : y.ρ (p1, some (i, j)) = x.ρ (e.src, some (i, j)) := by
        have := hy (some (i, j))
        simp only at g1 this
        rw [this]; simp only [mvρ, g1]
      show Hdr y.w (y.ρ (p1, some (i, j))) sz' 0 (q'.map fun row => row.map (ren (mvRef M) d)).length u
      rw [this, List.length_map, hw]
      exact m2.2
    | _ => exact plain _ (fun _ _ h => by cases h) m2
  | some io =>
    simp only at g3
    rw [g3, getD_map_nil, getD_map_any _ (ren_any _ _)]
    generalize (q.getD i []).getD j .any = a at m2
    cases a with
    | osl sz' q' =>
      have : ren (mvRef M) d (.osl sz' q') = .any := by cases d <;> rfl
      rw [this]; exact Rel.any _
    | _ => exact plain _ (fun _ _ h => by cases h) m2

theorem mv_owned {s : Store} {ρ : Pl → Option (Nat × Nat)} {M : List Mv} {d : Nat} (hM : ∀ e ∈ M, sget s e.src = some e.R) {b : Nat} (h : ∃ π y base, pcontent (mvStore M d M) π = some y ∧ mvρ M ρ π = some (b, base)) :
    ∃ e ∈ M, ∃ sub y base, pcontent s (e.src, sub) = some y ∧ ρ (e.src, sub) = some (b, base) := by
  obtain ⟨π, ⟨sz, es⟩, base, h1, h2⟩ := h
  obtain ⟨e, q, g1, g2, _⟩ := mv_pcontent hM h1
  simp only [mvρ, g1] at h2
  exact ⟨e, (findD_some g1).1, π.2, _, _, g2, h2⟩

theorem StOk.rename {x : Cx} (h : StOk x) (d : Nat) {M : List Mv} {c' F' : Nat → Prop} (hM : ∀ e ∈ M, sget x.s e.src = some e.R) (hdst : (M.map (·.dst)).Nodup) (hsrc : ∀ e ∈ M, ∀ e' ∈ M, e.src = e'.src → e = e') (hc : ∀ e ∈ M, c' e.gen ∧ c' e.ver)
    (hF : ∀ b, F' b → x.F b ∨ x.owned b) (hFo : ∀ b, F' b → ¬ ∃ π y base, pcontent (mvStore M d M) π = some y ∧ mvρ M x.ρ π = some (b, base)) :
    StOk ⟨mvρ M x.ρ, mvStore M d M, c', x.w, F'⟩ ∧ (∀ b, x.imm b → (⟨mvρ M x.ρ, mvStore M d M, c', x.w, F'⟩ : Cx).imm b) ∧
    ∀ d' v u, Rel x v u → Rel ⟨mvρ M x.ρ, mvStore M d M, c', x.w, F'⟩ (ren (mvRef M) d' v) u := by
  have himm : ∀ b, x.imm b → (⟨mvρ M x.ρ, mvStore M d M, c', x.w, F'⟩ : Cx).imm b := fun b hb =>
    ⟨hb.1, fun ho => by obtain ⟨e, _, sub, y, base, h1, h2⟩ := mv_owned hM ho; exact hb.2.1 ⟨_, _, _, h1, h2⟩, fun hf => (hF b hf).elim hb.2.2 hb.2.1⟩
  have hrel : ∀ d' v u, Rel x v u → Rel ⟨mvρ M x.ρ, mvStore M d M, c', x.w, F'⟩ (ren (mvRef M) d' v) u :=
    Rel.ren rfl himm fun r r' hr => by
      obtain ⟨h1, _, h2⟩ := mv_href (ρ := x.ρ) d hM hdst hc hr
      exact ⟨h1, h2⟩
  refine ⟨⟨fun π sz es b base hp hρ => mv_rows (y := ⟨mvρ M x.ρ, mvStore M d M, c', x.w, F'⟩) h hM rfl hrel hp hρ fun _ => rfl, fun π sz es hp hρ => ?_, fun π π' y y' b base base' hp hp' hρ hρ' => ?_, fun id R hR => ?_, fun π sz es hp => ?_, fun b hb => ⟨?_, hFo b hb⟩, h.gl.mono fun b hb => ⟨himm b hb, rfl⟩⟩, himm, hrel⟩
  · obtain ⟨e, q, g1, g2, g3⟩ := mv_pcontent hM hp
    simp only [mvρ, g1] at hρ
    have := h.nils _ _ _ g2 hρ
    subst this
    cases hpl : π.2 <;> simp only [hpl] at g3 <;> simp [g3]
  · obtain ⟨sz, es⟩ := y
    obtain ⟨sz', es'⟩ := y'
    obtain ⟨e, q, g1, g2, _⟩ := mv_pcontent hM hp
    obtain ⟨e', q', g1', g2', _⟩ := mv_pcontent hM hp'
    simp only [mvρ, g1] at hρ
    simp only [mvρ, g1'] at hρ'
    have := h.inj _ _ _ _ _ _ _ g2 g2' hρ hρ'
    simp only [Prod.mk.injEq] at this
    have he := hsrc e (findD_some g1).1 e' (findD_some g1').1 this.1
    have h1 := (findD_some g1).2
    have h2 := (findD_some g1').2
    rw [← he] at h2
    exact Prod.ext (h1.symm.trans h2) this.2
  · rw [show (⟨mvρ M x.ρ, mvStore M d M, c', x.w, F'⟩ : Cx).s = mvStore M d M from rfl, sget_mvStore] at hR
    cases hf : findD M id with
    | none => simp [hf] at hR
    | some e =>
      simp only [hf, Option.map_some, Option.some.injEq] at hR
      obtain rfl := hR
      exact hc e (findD_some hf).1
  · obtain ⟨e, q, g1, g2, g3⟩ := mv_pcontent hM hp
    have := h.lens _ _ _ g2
    cases hpl : π.2 <;> simp only [hpl] at g3 <;> (intro hsz; rw [g3]; exact map_rows_len _ (this hsz))
  · rcases hF b hb with hb | hb
    · exact (h.apart b hb).1
    · obtain ⟨π, y, base, h1, h2⟩ := hb
      exact h.live_lt h1 h2

end Go.AM

/- A call among the caller's roots: the callee sees some of them under its own numbers. -/
namespace Go.AM

theorem mv_content {s : Store} {M : List Mv} {d : Nat} (hM : ∀ e ∈ M, sget s e.src = some e.R) (hk : ∀ e ∈ M, e.gen = e.R.gen ∧ e.ver = e.R.ver) {r : Ref} {sz : Nat} {es' : List (List AV)} (h : rcontent (mvStore M d M) r = some (sz, es')) :
    ∃ e es, findD M r.id = some e ∧ rcontent s ⟨e.src, r.gen, r.sub⟩ = some (sz, es) ∧ es.length = es'.length := by
  have hp := pcontent_of_rcontent h
  obtain ⟨e, es, g1, g2, g3⟩ := mv_pcontent hM hp
  refine ⟨e, es, g1, ?_, (mv_len g3).symm⟩
  have hm := (findD_some g1).1
  unfold rcontent at h ⊢
  rw [sget_mvStore] at h
  simp only [Ref.pl] at g1 g2
  simp only [g1, Option.map_some, mvRoot] at h
  simp only [hM e hm]
  simp only [pcontent, hM e hm] at g2
  obtain ⟨k1, k2⟩ := hk e hm
  rw [k1, k2] at h
  split at h
  · rename_i hg
    rw [if_pos hg]
    cases hs : r.sub with
    | none => simpa [hs] using g2
    | some v =>
      obtain ⟨i, o, v⟩ := v
      simp only [hs] at h
      simp only [hs, Option.map_some] at g2
      split at h
      · rename_i hv; simp only [hv, if_true]; exact g2
      · cases h
  · cases h

/-- What the caller holds behind the call. -/
def exitS (M M' : List Mv) (d : Nat) : Store := mvStore M' d M' ++ (M.map (·.src)).map fun id => (id, none)

theorem sget_nones (l : List Nat) (id : Nat) : sget (l.map fun id => (id, none)) id = none := by
  induction l with
  | nil => rfl
  | cons a l ih => simp only [List.map_cons, sget_cons, ih]; split <;> rfl
theorem mvStore_keys (M : List Mv) (d : Nat) : ∀ l : List Mv, (mvStore M d l).map (·.1) = l.map (·.dst)
  | [] => rfl
  | e :: l => by simp [mvStore, mvStore_keys M d l]

def takenOf (M M' : List Mv) : List Nat := M'.map (·.dst) ++ M.map (·.src)

theorem sget_exit (M M' : List Mv) (d : Nat) (s : Store) (id : Nat) : sget (exitS M M' d ++ s) id = if id ∈ takenOf M M' then sget (mvStore M' d M') id else sget s id := by
  unfold exitS takenOf
  rw [List.append_assoc, sget_append, mvStore_keys, sget_append]
  have hk : List.map (fun x => x.fst) (List.map (fun id => ((id, none) : Nat × Option Root)) (List.map (fun x => x.src) M)) = M.map (·.src) := by
    simp [Function.comp_def]
  rw [hk, sget_nones]
  simp only [List.mem_append]
  by_cases h1 : id ∈ M'.map (·.dst)
  · rw [if_pos h1, if_pos (.inl h1)]
  · rw [if_neg h1]
    by_cases h2 : id ∈ M.map (·.src)
    · rw [if_pos h2, if_pos (.inr h2), sget_mvStore]
      cases hf : findD M' id with
      | none => rfl
      | some e => exact absurd (List.mem_map.2 ⟨e, (findD_some hf).1, (findD_some hf).2⟩) h1
    · rw [if_neg h2, if_neg fun h => h.elim h1 h2]

theorem pcontent_congr {s s' : Store} {π : Pl} (h : sget s π.1 = sget s' π.1) : pcontent s π = pcontent s' π := by
  unfold pcontent; rw [h]

theorem upd_exit {x y1 : Cx} (h : StOk x) (d : Nat) {M M' : List Mv} (hM : ∀ e ∈ M, sget x.s e.src = some e.R) (hk : ∀ e ∈ M, e.gen = e.R.gen ∧ e.ver = e.R.ver) {Fy : Nat → Prop}
    (hFy : ∀ b, Fy b ↔ x.F b ∨ (x.owned b ∧ ¬ (⟨mvρ M x.ρ, mvStore M d M, x.c, x.w, Fy⟩ : Cx).owned b)) (hgo : Goes ⟨mvρ M x.ρ, mvStore M d M, x.c, x.w, Fy⟩ y1)
    (hM' : ∀ e ∈ M', sget y1.s e.src = some e.R) (hk' : ∀ e ∈ M', e.gen = e.R.gen ∧ e.ver = e.R.ver) (hdst' : (M'.map (·.dst)).Nodup) (hsrc' : ∀ e ∈ M', ∀ e' ∈ M', e.src = e'.src → e = e')
    (hτ : ∀ e ∈ M, ∀ e' ∈ M', e'.src = e.dst → e'.dst = e.src) :
    Goes x ⟨fun π => if π.1 ∈ takenOf M M' then mvρ M' y1.ρ π else x.ρ π, exitS M M' d ++ x.s, y1.c, y1.w, x.F⟩ ∧
    ∀ d' v u, Rel y1 v u → Rel ⟨fun π => if π.1 ∈ takenOf M M' then mvρ M' y1.ρ π else x.ρ π, exitS M M' d ++ x.s, y1.c, y1.w, x.F⟩ (ren (mvRef M') d' v) u := by
  generalize hx1 : (⟨fun π => if π.1 ∈ takenOf M M' then mvρ M' y1.ρ π else x.ρ π, exitS M M' d ++ x.s, y1.c, y1.w, x.F⟩ : Cx) = x1
  have e1s : x1.s = exitS M M' d ++ x.s := by rw [← hx1]
  have e1w : x1.w = y1.w := by rw [← hx1]
  have e1c : x1.c = y1.c := by rw [← hx1]
  have e1F : x1.F = x.F := by rw [← hx1]
  have e1ρ : ∀ π, x1.ρ π = if π.1 ∈ takenOf M M' then mvρ M' y1.ρ π else x.ρ π := fun π => by rw [← hx1]
  have hFy1 : y1.F = Fy := hgo.F
  have hown0 : ∀ b, (⟨mvρ M x.ρ, mvStore M d M, x.c, x.w, Fy⟩ : Cx).owned b → ∃ e ∈ M, ∃ sub y base, pcontent x.s (e.src, sub) = some y ∧ x.ρ (e.src, sub) = some (b, base) := fun b hb => mv_owned hM hb
  have tk : ∀ π : Pl, π.1 ∈ takenOf M M' → pcontent x1.s π = pcontent (mvStore M' d M') π := fun π ht => by
    rw [e1s]; exact pcontent_congr (by rw [sget_exit, if_pos ht])
  have ntk : ∀ π : Pl, π.1 ∉ takenOf M M' → pcontent x1.s π = pcontent x.s π := fun π ht => by
    rw [e1s]; exact pcontent_congr (by rw [sget_exit, if_neg ht])
  -- a place that the callee did not see
  have frame : ∀ (π : Pl) y b base, π.1 ∉ takenOf M M' → pcontent x.s π = some y → x.ρ π = some (b, base) → ¬ (⟨mvρ M x.ρ, mvStore M d M, x.c, x.w, Fy⟩ : Cx).owned b ∧ b < x.w.heap.size ∧ y1.w.heap[b]? = x.w.heap[b]? ∧ ¬ y1.owned b := by
    intro π y b base ht hp hρ
    have hn : ¬ (⟨mvρ M x.ρ, mvStore M d M, x.c, x.w, Fy⟩ : Cx).owned b := fun ho => by
      obtain ⟨e, he, sub, y', base', g1, g2⟩ := hown0 b ho
      have := h.inj _ _ _ _ _ _ _ hp g1 hρ g2
      exact ht (by rw [this]; exact List.mem_append_right _ (List.mem_map.2 ⟨e, he, rfl⟩))
    have hlt := h.live_lt hp hρ
    refine ⟨hn, hlt, hgo.ext.block b hlt hn, (hgo.ok.apart b ?_).2⟩
    rw [hFy1, hFy]; exact .inr ⟨⟨π, y, base, hp, hρ⟩, hn⟩
  have himm1 : ∀ b, y1.imm b → x1.imm b := by
    intro b ⟨b1, b2, b3⟩
    rw [hFy1, hFy] at b3
    refine ⟨by rw [e1w]; exact b1, ?_, by rw [e1F]; exact fun hf => b3 (.inl hf)⟩
    rintro ⟨π, ⟨sz, es⟩, base, g1, g2⟩
    by_cases ht : π.1 ∈ takenOf M M'
    · rw [tk π ht] at g1
      rw [e1ρ, if_pos ht] at g2
      obtain ⟨e, _, sub, y, base', k1, k2⟩ := mv_owned hM' ⟨π, _, _, g1, g2⟩
      exact b2 ⟨_, _, _, k1, k2⟩
    · rw [ntk π ht] at g1
      rw [e1ρ, if_neg ht] at g2
      exact b3 (.inr ⟨⟨π, _, _, g1, g2⟩, (frame π _ _ _ ht g1 g2).1⟩)
  have himm : ∀ b, x.imm b → x1.imm b ∧ x1.w.heap[b]? = x.w.heap[b]? := by
    intro b hb
    have h0 : (⟨mvρ M x.ρ, mvStore M d M, x.c, x.w, Fy⟩ : Cx).imm b := by
      refine ⟨hb.1, fun ho => ?_, fun hf => ((hFy b).1 hf).elim hb.2.2 fun hh => hb.2.1 hh.1⟩
      obtain ⟨e, _, sub, y, base, k1, k2⟩ := hown0 b ho
      exact hb.2.1 ⟨_, _, _, k1, k2⟩
    obtain ⟨k1, k2⟩ := hgo.le.imm b h0
    exact ⟨himm1 b k1, by rw [e1w]; exact k2⟩
  have hc1 : ∀ e ∈ M', y1.c e.gen ∧ y1.c e.ver := fun e he => by
    obtain ⟨k1, k2⟩ := hk' e he
    rw [k1, k2]; exact hgo.ok.gens _ _ (hM' e he)
  have hrel : ∀ d' v u, Rel y1 v u → Rel x1 (ren (mvRef M') d' v) u := by
    refine Rel.ren e1w himm1 fun r r' hr => ?_
    obtain ⟨k1, k2, k3⟩ := mv_href (ρ := y1.ρ) d hM' hdst' hc1 hr
    have ht : r'.id ∈ takenOf M M' := List.mem_append_left _ k2
    refine ⟨by rw [e1c]; exact k1, fun sz es' hcon => ?_⟩
    rw [e1s, rcontent_congr (s' := mvStore M' d M') (by rw [sget_exit, if_pos ht])] at hcon
    obtain ⟨es, g1, g2, g3⟩ := k3 sz es' hcon
    exact ⟨es, g1, g2, by rw [e1ρ, if_pos (show r'.pl.1 ∈ _ from ht)]; exact g3⟩
  have hle : x.le x1 := by
    refine ⟨fun g hg => by rw [e1c]; exact hgo.le.c g hg, himm, fun r hr sz es' hcon => ?_⟩
    by_cases ht : r.id ∈ takenOf M M'
    · rw [e1s, rcontent_congr (s' := mvStore M' d M') (by rw [sget_exit, if_pos ht])] at hcon
      obtain ⟨e', es2, g1, g2, g3⟩ := mv_content hM' hk' hcon
      obtain ⟨es0, k1, k2, k3, k4⟩ := hgo.le.ref ⟨e'.src, r.gen, r.sub⟩ hr sz es2 g2
      obtain ⟨e, es, j1, j2, j3⟩ := mv_content hM hk k1
      obtain ⟨m1, m2⟩ := findD_some g1
      obtain ⟨n1, n2⟩ := findD_some j1
      have hid : e.src = r.id := by rw [← hτ e n1 e' m1 n2.symm, m2]
      have hρ0 : (⟨mvρ M x.ρ, mvStore M d M, x.c, x.w, Fy⟩ : Cx).ρ (Ref.pl ⟨e'.src, r.gen, r.sub⟩) = x.ρ r.pl := by
        show mvρ M x.ρ (e'.src, _) = _
        simp only at j1
        simp only [mvρ, j1, hid]; rfl
      refine ⟨es, ?_, by omega, ?_, fun b base hb => ?_⟩
      · rw [hid] at j2; exact j2
      · rw [e1ρ, if_pos (show r.pl.1 ∈ _ from ht), ← hρ0, ← k3]
        show mvρ M' y1.ρ (r.id, _) = _
        simp only [mvρ, g1]; rfl
      · rw [e1w]; exact k4 b base (by rw [hρ0]; exact hb)
    · rw [e1s, rcontent_congr (s' := x.s) (by rw [sget_exit, if_neg ht])] at hcon
      refine ⟨es', hcon, Nat.le_refl _, by rw [e1ρ, if_neg (show r.pl.1 ∉ _ from ht)], fun b base hb => ?_⟩
      have := frame r.pl _ b base ht (pcontent_of_rcontent hcon) hb
      rw [e1w]; exact blockSize_of_heap this.2.2.1
  refine ⟨⟨e1F, hle, ⟨fun π sz es b base hp hρ => ?_, fun π sz es hp hρ => ?_, fun π π' y y' b base base' hp hp' hρ hρ' => ?_, fun id R hR => ?_, fun π sz es hp => ?_, fun b hb => ?_, h.gl.mono hle.imm⟩, ?_⟩, hrel⟩
  · by_cases ht : π.1 ∈ takenOf M M'
    · rw [tk π ht] at hp
      rw [e1ρ, if_pos ht] at hρ
      exact mv_rows hgo.ok hM' e1w hrel hp hρ fun sub => by rw [e1ρ, if_pos (show (π.1, sub).1 ∈ _ from ht)]
    · rw [ntk π ht] at hp
      rw [e1ρ, if_neg ht] at hρ
      have hrow := h.rows _ _ _ _ _ hp hρ
      obtain ⟨_, _, f3, _⟩ := frame π _ b base ht hp hρ
      refine ⟨fun hsz => ?_, fun hsz => (hrow.map hsz).mono hle (by rw [e1w, f3]), by rw [e1w]; exact Nat.lt_of_lt_of_le hrow.lt hgo.ext.size⟩
      obtain ⟨cs, T, k1, k2, k3⟩ := hrow.cells hsz
      refine ⟨cs, T, by rw [e1w, f3]; exact k1, k2, fun i j hi hj => ?_⟩
      obtain ⟨u, m1, m2⟩ := k3 i j hi hj
      refine ⟨u, m1, ?_⟩
      generalize hga : (es.getD i []).getD j .any = a at m2
      cases a with
      | osl sz' q' =>
        obtain ⟨n1, n2⟩ := m2
        obtain ⟨p1, p2⟩ := π
        simp only at n1
        subst n1
        refine ⟨rfl, ?_⟩
        rw [e1ρ, if_neg (show ((p1, none) : Pl).1 ∉ _ from ht)]
        refine n2.mono fun b' base' hb' => ?_
        have hp' : pcontent x.s (p1, some (i, j)) = some (sz', q') := by
          unfold pcontent at hp ⊢
          cases e1 : sget x.s p1 with
          | none => simp [e1] at hp
          | some R =>
            simp only [e1, Option.some.injEq, Prod.mk.injEq] at hp
            simp only [e1]
            rw [← hp.2] at hga
            exact inner_of hga
        have := frame (p1, some (i, j)) _ b' base' ht hp' hb'
        rw [e1w]; exact blockSize_of_heap this.2.2.1
      | _ => exact CellOk.of_rel (fun _ _ h => by cases h) ((CellOk.rel (fun _ _ h => by cases h) m2).mono hle)
  · by_cases ht : π.1 ∈ takenOf M M'
    · rw [tk π ht] at hp
      rw [e1ρ, if_pos ht] at hρ
      obtain ⟨e, q, g1, g2, g3⟩ := mv_pcontent hM' hp
      simp only [mvρ, g1] at hρ
      have := hgo.ok.nils _ _ _ g2 hρ
      have hl := mv_len g3
      subst this
      exact List.length_eq_zero_iff.1 (by simpa using hl)
    · rw [ntk π ht] at hp
      rw [e1ρ, if_neg ht] at hρ
      exact h.nils _ _ _ hp hρ
  · by_cases ht : π.1 ∈ takenOf M M' <;> by_cases ht' : π'.1 ∈ takenOf M M'
    · rw [tk _ ht] at hp; rw [tk _ ht'] at hp'
      rw [e1ρ, if_pos ht] at hρ; rw [e1ρ, if_pos ht'] at hρ'
      obtain ⟨sz, es⟩ := y
      obtain ⟨sz', es'⟩ := y'
      obtain ⟨e, q, g1, g2, _⟩ := mv_pcontent hM' hp
      obtain ⟨e', q', g1', g2', _⟩ := mv_pcontent hM' hp'
      simp only [mvρ, g1] at hρ
      simp only [mvρ, g1'] at hρ'
      have := hgo.ok.inj _ _ _ _ _ _ _ g2 g2' hρ hρ'
      simp only [Prod.mk.injEq] at this
      have he := hsrc' e (findD_some g1).1 e' (findD_some g1').1 this.1
      have h1 := (findD_some g1).2
      have h2 := (findD_some g1').2
      rw [← he] at h2
      exact Prod.ext (h1.symm.trans h2) this.2
    · rw [tk _ ht] at hp; rw [ntk _ ht'] at hp'
      rw [e1ρ, if_pos ht] at hρ; rw [e1ρ, if_neg ht'] at hρ'
      obtain ⟨e, _, sub, y2, base2, k1, k2⟩ := mv_owned hM' ⟨π, _, _, hp, hρ⟩
      exact absurd ⟨_, _, _, k1, k2⟩ (frame π' _ _ _ ht' hp' hρ').2.2.2
    · rw [ntk _ ht] at hp; rw [tk _ ht'] at hp'
      rw [e1ρ, if_neg ht] at hρ; rw [e1ρ, if_pos ht'] at hρ'
      obtain ⟨e, _, sub, y2, base2, k1, k2⟩ := mv_owned hM' ⟨π', _, _, hp', hρ'⟩
      exact absurd ⟨_, _, _, k1, k2⟩ (frame π _ _ _ ht hp hρ).2.2.2
    · rw [ntk _ ht] at hp; rw [ntk _ ht'] at hp'
      rw [e1ρ, if_neg ht] at hρ; rw [e1ρ, if_neg ht'] at hρ'
      exact h.inj _ _ _ _ _ _ _ hp hp' hρ hρ'
  · rw [e1s, sget_exit] at hR
    rw [e1c]
    split at hR
    · rw [sget_mvStore] at hR
      cases hf : findD M' id with
      | none => simp [hf] at hR
      | some e =>
        simp only [hf, Option.map_some, Option.some.injEq] at hR
        obtain rfl := hR
        exact hc1 e (findD_some hf).1
    · obtain ⟨k1, k2⟩ := h.gens _ _ hR
      exact ⟨hgo.le.c _ k1, hgo.le.c _ k2⟩
  · by_cases ht : π.1 ∈ takenOf M M'
    · rw [tk _ ht] at hp
      obtain ⟨e, q, g1, g2, g3⟩ := mv_pcontent hM' hp
      have := hgo.ok.lens _ _ _ g2
      cases hpl : π.2 <;> simp only [hpl] at g3 <;> (intro hsz; rw [g3]; exact map_rows_len _ (this hsz))
    · rw [ntk _ ht] at hp
      exact h.lens _ _ _ hp
  · rw [e1F] at hb
    obtain ⟨k1, k2⟩ := h.apart b hb
    refine ⟨by rw [e1w]; exact Nat.lt_of_lt_of_le k1 hgo.ext.size, ?_⟩
    rintro ⟨π, ⟨sz, es⟩, base, g1, g2⟩
    by_cases ht : π.1 ∈ takenOf M M'
    · rw [tk _ ht] at g1
      rw [e1ρ, if_pos ht] at g2
      obtain ⟨e, _, sub, y, base', m1, m2⟩ := mv_owned hM' ⟨π, _, _, g1, g2⟩
      exact (hgo.ok.apart b (by rw [hFy1, hFy]; exact .inl hb)).2 ⟨_, _, _, m1, m2⟩
    · rw [ntk _ ht] at g1
      rw [e1ρ, if_neg ht] at g2
      exact k2 ⟨_, _, _, g1, g2⟩
  · have ho := hgo.ext
    rw [e1w]
    refine ⟨ho.os, ho.tape, ho.output, ho.size, fun b hb hn => ho.block b hb fun h0 => hn ?_, ho.drawn⟩
    obtain ⟨e, _, sub, y, base, k1, k2⟩ := hown0 b h0
    exact ⟨_, _, _, k1, k2⟩

end Go.AM

/- The contract of a function that writes, or makes, memory. -/
namespace Go.AM

def enters (P : Program) (f : FuncId) : Bool :=
  match P.funcs[f]? with
  | some fn => !(fn.name == "runtime.NumGoroutine") && !fn.body.isNone
  | none => false

def allP : List (Prop × AV) → Prop
  | [] => True
  | p :: l => p.1 ∧ allP l


/-- A call's answer, as the proof foresees it. -/
inductive Orc where
  /-- `Reads`: nothing old is written. -/
  | reads (fr : Bool) (r : AV)
  /-- `Upd`: the callee sees the roots ids as 0, 1, ..; behind the call they are s1, the answer is res. -/
  | upd (ids : List Nat) (s1 : Nat → Store) (res : Nat → AV)
  /-- The operation's guard forbids it. -/
  | skip

/-- The call, over the roots s0, comes back with the roots s1 and the answer res; new marks: k, k + 1. -/
def Upd (P : Program) (f : FuncId) (s0 : Store) (args : List AV) (res : Nat → AV) (s1 : Nat → Store) : Prop :=
  ∀ (c : Nat → Prop) (B k : Nat) (ρ : Pl → Option (Nat × Nat)) (w : World) (F : Nat → Prop) (us : List Value), (∀ g, c g → g < B) → ¬ c k → ¬ c (k + 1) → StOk ⟨ρ, s0, c, w, F⟩ → us.length = args.length →
    (∀ i, i < args.length → Rel ⟨ρ, s0, c, w, F⟩ (args.getD i .any) (us.getD i undef)) →
    Calls P f us.toArray w fun e w' => ∃ u ρ', e = .returned u ∧ Goes ⟨ρ, s0, c, w, F⟩ ⟨ρ', s1 k, fun g => c g ∨ g = k ∨ g = k + 1, w', F⟩ ∧ Rel ⟨ρ', s1 k, fun g => c g ∨ g = k ∨ g = k + 1, w', F⟩ (res k) u

def entryM (s : Store) : Nat → List Nat → Option (List Mv)
  | _, [] => some []
  | j, id :: l => match sget s id, entryM s (j + 1) l with
    | some R, some M => some (⟨id, R, j, R.gen, R.ver⟩ :: M)
    | _, _ => none

def exitM (ids : List Nat) (id : Nat) : Store → List Mv
  | [] => []
  | (j, some R) :: l => ⟨j, R, ids.getD j (id + 1000 * (j - ids.length)), R.gen, R.ver⟩ :: exitM ids id l
  | (_, none) :: l => exitM ids id l

def nodupB : List Nat → Bool
  | [] => true
  | a :: l => !l.contains a && nodupB l

theorem nodupB_spec : ∀ {l : List Nat}, nodupB l = true → l.Nodup
  | [], _ => .nil
  | a :: l, h => by
    simp only [nodupB, Bool.and_eq_true, Bool.not_eq_true', List.contains_eq_mem, decide_eq_false_iff_not] at h
    exact List.nodup_cons.2 ⟨h.1, nodupB_spec h.2⟩

def aUpd (P : Program) (s : Store) (id g : Nat) (ids : List Nat) (s1 : Nat → Store) (res : Nat → AV) (fv : Prop × AV) (args : List (Prop × AV)) : Option Res :=
  match fv.2, entryM s 0 ids with
  | .fn f caps, some M => if nodupB ids && nodupB ((s1 g).map (·.1)) && nodupB ((exitM ids id (s1 g)).map (·.dst)) then
      some ⟨fv.1 ∧ allP args ∧ enters P f = true ∧ Upd P f (mvStore M 4 M) ((args.map (·.2) ++ caps).map (ren (mvRef M) 4)) res s1, ren (mvRef (exitM ids id (s1 g))) 4 (res g), exitS M (exitM ids id (s1 g)) 4⟩
    else none
  | _, _ => none

theorem entryM_spec {s : Store} : ∀ {ids : List Nat} {j : Nat} {M : List Mv}, entryM s j ids = some M → M.map (·.src) = ids ∧ M.map (·.dst) = List.range' j ids.length ∧ ∀ e ∈ M, sget s e.src = some e.R ∧ e.gen = e.R.gen ∧ e.ver = e.R.ver ∧ ∀ d, ids.getD (e.dst - j) d = e.src ∧ j ≤ e.dst
  | [], j, M, h => by
    simp only [entryM, Option.some.injEq] at h
    subst h; simp
  | id :: ids, j, M, h => by
    unfold entryM at h
    split at h
    · rename_i R M' h1 h2
      obtain rfl := Option.some.inj h
      obtain ⟨k1, k2, k3⟩ := entryM_spec h2
      refine ⟨by simp [k1], by simp [k2, List.range'_succ], fun e he => ?_⟩
      rcases List.mem_cons.1 he with rfl | he
      · exact ⟨h1, rfl, rfl, fun d => ⟨by simp, Nat.le_refl _⟩⟩
      · obtain ⟨m1, m2, m3, m4⟩ := k3 e he
        refine ⟨m1, m2, m3, fun d => ?_⟩
        obtain ⟨n1, n2⟩ := m4 d
        refine ⟨?_, by omega⟩
        rw [show e.dst - j = (e.dst - (j + 1)) + 1 by omega]
        simpa using n1
    · cases h

theorem exitM_spec {ids : List Nat} {id : Nat} : ∀ {s : Store}, (s.map (·.1)).Nodup → ∀ e ∈ exitM ids id s, (e.src, some e.R) ∈ s ∧ sget s e.src = some e.R ∧ e.gen = e.R.gen ∧ e.ver = e.R.ver ∧ e.dst = ids.getD e.src (id + 1000 * (e.src - ids.length))
  | [], _, e, he => by cases he
  | (j, r) :: s, hn, e, he => by
    rw [List.map_cons, List.nodup_cons] at hn
    have hrest : e ∈ exitM ids id s → (e.src, some e.R) ∈ (j, r) :: s ∧ sget ((j, r) :: s) e.src = some e.R ∧ e.gen = e.R.gen ∧ e.ver = e.R.ver ∧ e.dst = ids.getD e.src (id + 1000 * (e.src - ids.length)) := fun he => by
      obtain ⟨k1, k2, k3⟩ := exitM_spec hn.2 e he
      refine ⟨List.mem_cons_of_mem _ k1, ?_, k3⟩
      have : j ≠ e.src := fun h => hn.1 (List.mem_map.2 ⟨_, k1, h.symm⟩)
      rw [sget_cons, if_neg this]; exact k2
    cases r with
    | none => exact hrest he
    | some R =>
      rcases List.mem_cons.1 he with rfl | he
      · exact ⟨List.mem_cons_self .., by rw [sget_cons, if_pos rfl], rfl, rfl, rfl⟩
      · exact hrest he

theorem exitM_inj {ids : List Nat} {id : Nat} {s : Store} (hn : (s.map (·.1)).Nodup) : ∀ e ∈ exitM ids id s, ∀ e' ∈ exitM ids id s, e.src = e'.src → e = e' := fun e he e' he' h => by
  obtain ⟨_, k2, k3, k4, k5⟩ := exitM_spec hn e he
  obtain ⟨_, j2, j3, j4, j5⟩ := exitM_spec hn e' he'
  obtain ⟨a, b, c, d, f⟩ := e
  obtain ⟨a', b', c', d', f'⟩ := e'
  simp only at h k2 k3 k4 k5 j2 j3 j4 j5
  subst h
  rw [k2] at j2
  obtain rfl := Option.some.inj j2
  subst k3; subst k4; subst j3; subst j4
  rw [k5, j5]

theorem aUpd_sound {P : Program} {x : Cx} (h : StOk x) {f : FuncId} {ids : List Nat} {M : List Mv} {id g B : Nat} (hB : ∀ n, x.c n → n < B) (hg : ¬ x.c g) (hg1 : ¬ x.c (g + 1)) (hM : entryM x.s 0 ids = some M) {s1 : Nat → Store} {res : Nat → AV}
    (n1 : nodupB ids = true) (n2 : nodupB ((s1 g).map (·.1)) = true) (n3 : nodupB ((exitM ids id (s1 g)).map (·.dst)) = true) {args : List AV} {us : List Value} (hl : us.length = args.length)
    (hargs : ∀ i, i < args.length → Rel x (args.getD i .any) (us.getD i undef)) (hU : Upd P f (mvStore M 4 M) (args.map (ren (mvRef M) 4)) res s1) :
    Calls P f us.toArray x.w fun e w' => ∃ u y, e = .returned u ∧ Goes x y ∧ y.w = w' ∧ y.s = exitS M (exitM ids id (s1 g)) 4 ++ x.s ∧ (∀ k, y.c k → x.c k ∨ k = g ∨ k = g + 1) ∧ Rel y (ren (mvRef (exitM ids id (s1 g))) 4 (res g)) u := by
  obtain ⟨e1, e2, e3⟩ := entryM_spec hM
  have hM' : ∀ e ∈ M, sget x.s e.src = some e.R := fun e he => (e3 e he).1
  have hk : ∀ e ∈ M, e.gen = e.R.gen ∧ e.ver = e.R.ver := fun e he => ⟨(e3 e he).2.1, (e3 e he).2.2.1⟩
  have hdst : (M.map (·.dst)).Nodup := by rw [e2]; exact List.nodup_range'
  have hsrcN : (M.map (·.src)).Nodup := by rw [e1]; exact nodupB_spec n1
  have hsrc : ∀ e ∈ M, ∀ e' ∈ M, e.src = e'.src → e = e' := by
    clear hM e1 e2 e3 hM' hk hdst hU
    induction M with
    | nil => intro e he; cases he
    | cons a M ih =>
      rw [List.map_cons, List.nodup_cons] at hsrcN
      intro e he e' he' hh
      rcases List.mem_cons.1 he with h1 | h1 <;> rcases List.mem_cons.1 he' with h2 | h2
      · rw [h1, h2]
      · exact absurd (List.mem_map.2 ⟨e', h2, by rw [← hh, h1]⟩) hsrcN.1
      · exact absurd (List.mem_map.2 ⟨e, h1, by rw [hh, h2]⟩) hsrcN.1
      · exact ih hsrcN.2 e h1 e' h2 hh
  let own0 : Nat → Prop := fun b => ∃ π y base, pcontent (mvStore M 4 M) π = some y ∧ mvρ M x.ρ π = some (b, base)
  let Fy : Nat → Prop := fun b => x.F b ∨ (x.owned b ∧ ¬ own0 b)
  obtain ⟨r1, _, r3⟩ := h.rename 4 (c' := x.c) (F' := Fy) hM' hdst hsrc (fun e he => by obtain ⟨k1, k2⟩ := hk e he; rw [k1, k2]; exact h.gens _ _ (hM' e he)) (fun b hb => hb.imp (fun h => h) And.left)
    (fun b hb ho => by
      rcases hb with hb | hb
      · obtain ⟨e, _, sub, y, base, k1, k2⟩ := mv_owned hM' ho
        exact (h.apart b hb).2 ⟨_, _, _, k1, k2⟩
      · exact hb.2 ho)
  refine (hU x.c B g _ x.w Fy us hB hg hg1 r1 (by simpa using hl) (fun i hi => ?_)).mono fun e w' he => ?_
  · rw [getD_map_any _ (ren_any _ _)]
    exact r3 4 _ _ (hargs i (by simpa using hi))
  · obtain ⟨u, ρ', rfl, hgo, hru⟩ := he
    have hn2 := nodupB_spec n2
    obtain ⟨g1, g2⟩ := upd_exit h 4 (M' := exitM ids id (s1 g)) hM' hk (fun b => Iff.rfl) hgo (fun e he => (exitM_spec hn2 e he).2.1) (fun e he => ⟨(exitM_spec hn2 e he).2.2.1, (exitM_spec hn2 e he).2.2.2.1⟩) (nodupB_spec n3) (exitM_inj hn2)
      (fun e he e' he' hh => by
        rw [(exitM_spec hn2 e' he').2.2.2.2, hh]
        exact ((e3 e he).2.2.2 _).1)
    exact ⟨u, _, rfl, g1, rfl, rfl, fun k hk => hk, g2 4 _ _ hru⟩

end Go.AM

/- Pairs of numbers are compared. -/
namespace Go.AM
def gdD (P : Program) (T : TypeId) : Bool := P.eqGuardType P.depth T
def aBinA (P : Program) (op : BinOp) (T : TypeId) : AV → AV → Option AV
  | .agg [.int k a, .int k' b], .agg [.int l c, .int l' d] => match arD P T with
    | some (2, e, 1) => match inD P e, tyd P e with
      | some _, some (1, false) => if k = l ∧ k' = l' ∧ gdD P T = false then match op with
          | .eql => some (.bool (decide (a = c) && decide (b = d)))
          | .neq => some (.bool (!(decide (a = c) && decide (b = d))))
          | _ => none
        else none
      | _, _ => none
    | _ => none
  | .agg [.int k a, .int k' b, .int k2 a2], .agg [.int l c, .int l' d, .int l2 c2] => match arD P T with
    | some (3, e, 1) => match inD P e, tyd P e with
      | some _, some (1, false) => if k = l ∧ k' = l' ∧ k2 = l2 ∧ gdD P T = false then match op with
          | .eql => some (.bool (decide (a = c) && (decide (b = d) && decide (a2 = c2))))
          | .neq => some (.bool (!(decide (a = c) && (decide (b = d) && decide (a2 = c2)))))
          | _ => none
        else none
      | _, _ => none
    | _ => none
  | _, _ => none
theorem triple_inv {x : Cx} {k k' k2 : IntKind} {a b c : Int} {u : Value} (h : Rel x (.agg [.int k a, .int k' b, .int k2 c]) u) : u = .agg #[.int k a, .int k' b, .int k2 c] := by
  obtain ⟨vs, rfl, hl, hr⟩ := h.agg_inv
  match vs, hl with
  | [v, w, z], _ =>
    have h0 := hr 0 (by simp)
    have h1 := hr 1 (by simp)
    have h2 := hr 2 (by simp)
    simp only [List.getD_cons_zero, List.getD_cons_succ] at h0 h1 h2
    rw [h0.int_inv, h1.int_inv, h2.int_inv]
theorem pair_inv {x : Cx} {k k' : IntKind} {a b : Int} {u : Value} (h : Rel x (.agg [.int k a, .int k' b]) u) : u = .agg #[.int k a, .int k' b] := by
  obtain ⟨vs, rfl, hl, hr⟩ := h.agg_inv
  match vs, hl with
  | [v, w], _ =>
    have h0 := hr 0 (by simp)
    have h1 := hr 1 (by simp)
    simp only [List.getD_cons_zero, List.getD_cons_succ] at h0 h1
    rw [h0.int_inv, h1.int_inv]
theorem aBinA_sound {P : Program} {x : Cx} {op : BinOp} {T : TypeId} {ox oy : Operand} {p q v : AV} {a b : Value} (hs : aBinA P op T p q = some v) (hp : Rel x p a) (hq : Rel x q b) :
    ∃ v', (do eqGuard op T ox oy a b; Go.binOp op T a b).run P x.w = .ok v' x.w ∧ Rel x v v' := by
  unfold aBinA at hs
  split at hs
  · rename_i k a k' b l c l' d
    obtain rfl := pair_inv hp
    obtain rfl := pair_inv hq
    split at hs
    · rename_i e har
      split at hs
      · rename_i ki hin htd
        split at hs
        · rename_i hc
          obtain ⟨rfl, rfl, hg⟩ := hc
          have hu : P.underlying T = some (.array 2 e) ∧ ∃ i, P.info? e = some i ∧ i.size = 1 := by
            unfold arD at har
            split at har
            · rename_i n e0 hu
              cases hi : P.info? e0 with
              | none => rw [hi] at har; cases har
              | some i => rw [hi] at har; simp at har; obtain ⟨rfl, rfl, h3⟩ := har; exact ⟨hu, i, hi, h3⟩
            · cases har
          obtain ⟨hu, i, hi, hsz⟩ := hu
          have hue : P.underlying e = some (.int ki) := by
            unfold inD at hin
            split at hin
            · rename_i k0 hk; simp at hin; subst hin; exact hk
            · cases hin
          have hpart : ∀ (cs : Array Value) (o : Nat) (u : Value), cs[o]? = some u → (part e cs o).run P x.w = .ok u x.w := fun cs o u h => by
            simp only [part, Sem.run_bind, run_isAgg htd, Result.andThen_ok, Bool.false_eq_true, if_false, h, Sem.run_pure]
          have hint : ∀ (n : Nat) (m1 : IntKind) (z1 z2 : Int), (Op.equalIn (n + 1) e (.int m1 z1) (.int m1 z2)).run P x.w = .ok (z1 == z2) x.w := fun n m1 z1 z2 => by
            simp [Op.equalIn, run_underlying' hue]
          have heq : (Op.equal T (.agg #[.int k a, .int k' b]) (.agg #[.int k c, .int k' d])).run P x.w = .ok (decide (a = c) && decide (b = d)) x.w := by
            have p0 := hpart #[.int k a, .int k' b] 0 (.int k a) (by simp)
            have p1 := hpart #[.int k a, .int k' b] 1 (.int k' b) (by simp)
            have q0 := hpart #[.int k c, .int k' d] 0 (.int k c) (by simp)
            have q1 := hpart #[.int k c, .int k' d] 1 (.int k' d) (by simp)
            have i0 := hint 9998 k a c
            have i1 := hint 9998 k' b d
            have hsz' := run_sizeOf' (P := P) (w := x.w) hi
            rw [hsz] at hsz'
            unfold Op.equal Op.maxDepth
            unfold Op.equalIn
            simp only [Sem.run_bind, run_underlying' hu, Result.andThen_ok, hsz']
            rw [show [0:2] = ({ start := 0, stop := 2, step := 1, step_pos := by decide } : Std.Legacy.Range) from rfl]
            simp [Std.Legacy.Range.forIn_eq_forIn_range', Std.Legacy.Range.size, List.range', p0, p1, q0, q1, i0, i1]
            cases h0 : (a == c) <;> cases h1 : (b == d) <;> simp_all
          have hgd : (eqGuard op T ox oy (.agg #[.int k a, .int k' b]) (.agg #[.int k c, .int k' d])).run P x.w = .ok () x.w := by
            unfold eqGuard
            unfold gdD at hg
            split <;> simp [hg]
          split at hs
          · obtain rfl := Option.some.inj hs
            exact ⟨_, by simp only [Sem.run_bind, hgd, Result.andThen_ok, Go.binOp, heq, Sem.run_pure], .bool _⟩
          · obtain rfl := Option.some.inj hs
            exact ⟨_, by simp only [Sem.run_bind, hgd, Result.andThen_ok, Go.binOp, heq, Sem.run_pure], .bool _⟩
          · cases hs
        · cases hs
      · cases hs
    · cases hs
  · rename_i k a k' b k2 a2 l c l' d l2 c2
    obtain rfl := triple_inv hp
    obtain rfl := triple_inv hq
    split at hs
    · rename_i e har
      split at hs
      · rename_i ki hin htd
        split at hs
        · rename_i hc
          obtain ⟨rfl, rfl, rfl, hg⟩ := hc
          have hu : P.underlying T = some (.array 3 e) ∧ ∃ i, P.info? e = some i ∧ i.size = 1 := by
            unfold arD at har
            split at har
            · rename_i n e0 hu
              cases hi : P.info? e0 with
              | none => rw [hi] at har; cases har
              | some i => rw [hi] at har; simp at har; obtain ⟨rfl, rfl, h3⟩ := har; exact ⟨hu, i, hi, h3⟩
            · cases har
          obtain ⟨hu, i, hi, hsz⟩ := hu
          have hue : P.underlying e = some (.int ki) := by
            unfold inD at hin
            split at hin
            · rename_i k0 hk; simp at hin; subst hin; exact hk
            · cases hin
          have hpart : ∀ (cs : Array Value) (o : Nat) (u : Value), cs[o]? = some u → (part e cs o).run P x.w = .ok u x.w := fun cs o u h => by
            simp only [part, Sem.run_bind, run_isAgg htd, Result.andThen_ok, Bool.false_eq_true, if_false, h, Sem.run_pure]
          have hint : ∀ (n : Nat) (m1 : IntKind) (z1 z2 : Int), (Op.equalIn (n + 1) e (.int m1 z1) (.int m1 z2)).run P x.w = .ok (z1 == z2) x.w := fun n m1 z1 z2 => by
            simp [Op.equalIn, run_underlying' hue]
          have heq : (Op.equal T (.agg #[.int k a, .int k' b, .int k2 a2]) (.agg #[.int k c, .int k' d, .int k2 c2])).run P x.w = .ok (decide (a = c) && (decide (b = d) && decide (a2 = c2))) x.w := by
            have p0 := hpart #[.int k a, .int k' b, .int k2 a2] 0 (.int k a) (by simp)
            have p1 := hpart #[.int k a, .int k' b, .int k2 a2] 1 (.int k' b) (by simp)
            have q0 := hpart #[.int k c, .int k' d, .int k2 c2] 0 (.int k c) (by simp)
            have q1 := hpart #[.int k c, .int k' d, .int k2 c2] 1 (.int k' d) (by simp)
            have p2 := hpart #[.int k a, .int k' b, .int k2 a2] 2 (.int k2 a2) (by simp)
            have q2 := hpart #[.int k c, .int k' d, .int k2 c2] 2 (.int k2 c2) (by simp)
            have i0 := hint 9998 k a c
            have i2 := hint 9998 k2 a2 c2
            have i1 := hint 9998 k' b d
            have hsz' := run_sizeOf' (P := P) (w := x.w) hi
            rw [hsz] at hsz'
            unfold Op.equal Op.maxDepth
            unfold Op.equalIn
            simp only [Sem.run_bind, run_underlying' hu, Result.andThen_ok, hsz']
            rw [show [0:3] = ({ start := 0, stop := 3, step := 1, step_pos := by decide } : Std.Legacy.Range) from rfl]
            simp [Std.Legacy.Range.forIn_eq_forIn_range', Std.Legacy.Range.size, List.range', p0, p1, p2, q0, q1, q2, i0, i1, i2]
            cases h0 : (a == c) <;> cases h1 : (b == d) <;> cases h2 : (a2 == c2) <;> simp_all
          have hgd : (eqGuard op T ox oy (.agg #[.int k a, .int k' b, .int k2 a2]) (.agg #[.int k c, .int k' d, .int k2 c2])).run P x.w = .ok () x.w := by
            unfold eqGuard
            unfold gdD at hg
            split <;> simp [hg]
          split at hs
          · obtain rfl := Option.some.inj hs
            exact ⟨_, by simp only [Sem.run_bind, hgd, Result.andThen_ok, Go.binOp, heq, Sem.run_pure], .bool _⟩
          · obtain rfl := Option.some.inj hs
            exact ⟨_, by simp only [Sem.run_bind, hgd, Result.andThen_ok, Go.binOp, heq, Sem.run_pure], .bool _⟩
          · cases hs
        · cases hs
      · cases hs
    · cases hs
  · cases hs
end Go.AM

/- Maps: flat keys and flat values. -/
namespace Go.AM

/-! ### the plain side -/
def keyEq : AV → AV → Bool
  | .int _ a, .int _ b => decide (a = b)
  | .str a, .str b => a == b
  | .agg [.int _ a, .int _ b], .agg [.int _ c, .int _ d] => decide (a = c) && decide (b = d)
  | _, _ => false
def mapFind : List (List AV) → AV → Nat → Option (Nat × AV)
  | [], _, _ => none
  | row :: es, k, i => if keyEq k (row.getD 0 .any) = true then some (i, row.getD 1 .any) else mapFind es k (i + 1)
def mapAt (es : List (List AV)) (k : AV) : Option AV := (mapFind es k 0).map (·.2)
def mapPut : List (List AV) → AV → AV → List (List AV)
  | [], k, v => [[k, v]]
  | row :: es, k, v => if keyEq k (row.getD 0 .any) = true then [k, v] :: es else row :: mapPut es k v
def mapB (es : List (List AV)) (k : AV) : Bool := match mapAt es k with
  | some (.bool b) => b
  | _ => false
def mapI (es : List (List AV)) (k : AV) : Int := match mapAt es k with
  | some (.int _ n) => n
  | _ => 0
def mapHas (es : List (List AV)) (k : AV) : Bool := (mapAt es k).isSome

def keyOk (P : Program) (kt : TypeId) : AV → Bool
  | .int k _ => match P.underlying kt with
    | some (.int q) => decide (q = k)
    | _ => false
  | .str _ => match P.underlying kt with
    | some .string => true
    | _ => false
  | .agg [.int k _, .int k' _] => match arD P kt with
    | some (2, e, 1) => match inD P e, tyd P e with
      | some q, some (1, false) => decide (q = k) && decide (q = k')
      | _, _ => false
    | _ => false
  | _ => false
def valD (P : Program) (et : TypeId) : Option (Option IntKind) := match P.info? et with
  | some i => match i.zero with
    | some (.bool b) => if b = false then some none else none
    | some (.int q n) => if n = 0 then some (some q) else none
    | _ => none
  | none => none
def valOk : Option IntKind → AV → Bool
  | none, .bool _ => true
  | some q, .int k _ => decide (k = q)
  | _, _ => false
def keysWf (P : Program) (kt : TypeId) (es : List (List AV)) : Prop := ∀ row ∈ es, ∃ k v, row = [k, v] ∧ keyOk P kt k = true
def mapWf (P : Program) (kt : TypeId) (q : Option IntKind) (es : List (List AV)) : Prop := ∀ row ∈ es, ∃ k v, row = [k, v] ∧ keyOk P kt k = true ∧ valOk q v = true

def isMapT (P : Program) (T : TypeId) : Bool := match P.underlying T with
  | some (.map _ _) => true
  | _ => false
def aLookup (P : Program) (T : TypeId) (s : Store) (m k : AV) (ok : Bool) : Option (Prop × AV) :=
  match P.underlying T, m with
  | some (.map kt et), .mp r => match mcontent s r with
    | some es => if keyOk P kt k = true then match valD P et with
        | some none => some (mapWf P kt none es, if ok then .tup [.bool (mapB es k), .bool (mapHas es k)] else .bool (mapB es k))
        | some (some q) => some (mapWf P kt (some q) es, if ok then .tup [.int q (mapI es k), .bool (mapHas es k)] else .int q (mapI es k))
        | none => none
      else none
    | none => none
  | _, _ => none
def aMapUpdate (P : Program) (T : TypeId) (s : Store) (m k v : AV) : Option (Prop × Store) :=
  match P.underlying T, m with
  | some (.map kt _), .mp r => match r.sub, sget s r.id, mcontent s r with
    | none, some R, some es => if keyOk P kt k = true ∧ isMv v = true then some (keysWf P kt es, [(r.id, some ⟨R.gen, R.ver, mapSz, mapPut es k v⟩)]) else none
    | _, _, _ => none
  | _, _ => none

theorem mapFind_shift : ∀ (es : List (List AV)) (k : AV) (i : Nat), mapFind es k i = (mapFind es k 0).map fun p => (p.1 + i, p.2)
  | [], _, _ => rfl
  | row :: es, k, i => by
    unfold mapFind
    by_cases h : keyEq k (row.getD 0 .any) = true
    · rw [if_pos h, if_pos h]; simp
    · rw [if_neg h, if_neg h, mapFind_shift es k (i + 1), mapFind_shift es k (0 + 1), Option.map_map]
      congr 1
      funext p
      simp only [Function.comp, Prod.mk.injEq, and_true]
      omega

theorem mapPut_find : ∀ (es : List (List AV)) (k v : AV), mapPut es k v = match mapFind es k 0 with
    | some p => es.set p.1 [k, v]
    | none => es ++ [[k, v]]
  | [], _, _ => rfl
  | row :: es, k, v => by
    unfold mapPut mapFind
    by_cases h : keyEq k (row.getD 0 .any) = true
    · rw [if_pos h, if_pos h]; rfl
    · rw [if_neg h, if_neg h, mapFind_shift, mapPut_find es k v]
      cases mapFind es k 0 <;> simp

theorem mapFind_some : ∀ {es : List (List AV)} {k : AV} {p : Nat × AV}, mapFind es k 0 = some p → ∃ row, es[p.1]? = some row ∧ row.getD 1 .any = p.2 ∧ keyEq k (row.getD 0 .any) = true
  | [], _, _, h => by cases h
  | row :: es, k, p, h => by
    unfold mapFind at h
    split at h
    · rename_i hk
      obtain rfl := Option.some.inj h
      exact ⟨row, rfl, rfl, hk⟩
    · rw [mapFind_shift] at h
      cases hf : mapFind es k 0 with
      | none => rw [hf] at h; cases h
      | some q =>
        rw [hf] at h
        obtain rfl := Option.some.inj h
        obtain ⟨row', h1, h2, h3⟩ := mapFind_some hf
        exact ⟨row', by simpa using h1, h2, h3⟩

/-! ### the machine's side -/
theorem flatV_rel {x : Cx} {v : AV} {u : Value} (h : Rel x v u) (hf : isFlat v = true) : u = flatV v := by
  have h1 : ∀ {v : AV} {u : Value}, Rel x v u → isFlat1 v = true → u = flat1 v := fun {v u} h hf => by
    cases v <;> first | (simp [isFlat1] at hf; done) | skip
    · exact h.int_inv
    · exact h.bool_inv
    · exact h.str_inv
  cases v with
  | agg cs =>
    obtain ⟨vs, rfl, hl, hr⟩ := h.agg_inv
    simp only [flatV]
    congr 2
    refine List.ext_getElem (by simp [hl]) fun i a b => ?_
    have hi : i < cs.length := by omega
    have h2 := hr i hi
    rw [List.getD_eq_getElem?_getD, List.getElem?_eq_getElem hi, List.getD_eq_getElem?_getD, List.getElem?_eq_getElem a] at h2
    simp only [Option.getD_some] at h2
    simp only [List.getElem_map]
    exact h1 h2 (List.all_eq_true.1 hf _ (List.getElem_mem hi))
  | int k n => exact h1 h hf
  | bool b => exact h1 h hf
  | str b => exact h1 h hf
  | _ => simp [isFlat, isFlat1] at hf

theorem keyOk_flat {P : Program} {kt : TypeId} {k : AV} (h : keyOk P kt k = true) : isFlat k = true := by
  unfold keyOk at h
  split at h <;> first | rfl | (cases h; done)


theorem keyOk_pair {P : Program} {kt : TypeId} {k k' : IntKind} {a b : Int} (h : keyOk P kt (.agg [.int k a, .int k' b]) = true) :
    ∃ e i, P.underlying kt = some (.array 2 e) ∧ P.info? e = some i ∧ i.size = 1 ∧ tyd P e = some (1, false) ∧ P.underlying e = some (.int k) ∧ k = k' := by
  simp only [keyOk] at h
  split at h
  · rename_i e har
    split at h
    · rename_i q hin htd
      simp only [Bool.and_eq_true, decide_eq_true_eq] at h
      obtain ⟨rfl, rfl⟩ := h
      have hu : P.underlying kt = some (.array 2 e) ∧ ∃ i, P.info? e = some i ∧ i.size = 1 := by
        unfold arD at har
        split at har
        · rename_i n e0 hu
          cases hi : P.info? e0 with
          | none => rw [hi] at har; cases har
          | some i => rw [hi] at har; simp at har; obtain ⟨rfl, rfl, h3⟩ := har; exact ⟨hu, i, hi, h3⟩
        · cases har
      obtain ⟨hu, i, hi, hsz⟩ := hu
      refine ⟨e, i, hu, hi, hsz, htd, ?_, rfl⟩
      unfold inD at hin
      split at hin
      · rename_i k0 hk; simp at hin; subst hin; exact hk
      · cases hin
    · cases h
  · cases h

theorem key_part {P : Program} {w : World} {e : TypeId} (htd : tyd P e = some (1, false)) (cs : Array Value) (o : Nat) (u : Value) (h : cs[o]? = some u) : (part e cs o).run P w = .ok u w := by
  simp only [part, Sem.run_bind, run_isAgg htd, Result.andThen_ok, Bool.false_eq_true, if_false, h, Sem.run_pure]

/-- Two keys: found now, or by the asking way. -/
theorem key_same {P : Program} {kt : TypeId} {k k' : AV} (h : keyOk P kt k = true) (h' : keyOk P kt k' = true) :
    ∃ d, P.underlying kt = some d ∧ ((∀ k'', keyOk P kt k'' = true → Instr.sameNow d (flatV k) (flatV k'') = some (keyEq k k'')) ∨
      ((∀ k'', keyOk P kt k'' = true → Instr.sameNow d (flatV k) (flatV k'') = none) ∧ ∀ w, (Op.equal kt (flatV k) (flatV k')).run P w = .ok (keyEq k k') w)) := by
  unfold keyOk at h
  split at h
  · rename_i q n
    split at h
    · rename_i q' hu
      simp only [decide_eq_true_eq] at h
      subst h
      refine ⟨_, hu, .inl fun k'' h'' => ?_⟩
      unfold keyOk at h''
      split at h''
      · rename_i q1 n1
        rw [hu] at h''
        simp only [decide_eq_true_eq] at h''
        subst h''
        simp only [flatV, flat1, Instr.sameNow, keyEq, if_true]
        congr 1
      · rw [hu] at h''; cases h''
      · simp only [arD, hu] at h''; cases h''
      · cases h''
    · cases h
  · rename_i b
    split at h
    · rename_i hu
      refine ⟨_, hu, .inl fun k'' h'' => ?_⟩
      unfold keyOk at h''
      split at h''
      · rw [hu] at h''; cases h''
      · rfl
      · simp only [arD, hu] at h''; cases h''
      · cases h''
    · cases h
  · rename_i q n q' n'
    obtain ⟨e, i, hu, hi, hsz, htd, hue, rfl⟩ := keyOk_pair (a := n) (b := n') h
    have hshape : ∀ k'', keyOk P kt k'' = true → ∃ m m', k'' = .agg [.int q m, .int q m'] := fun k'' h'' => by
      unfold keyOk at h''
      split at h''
      · rw [hu] at h''; cases h''
      · rw [hu] at h''; cases h''
      · rename_i q1 m1 q2 m2
        obtain ⟨e', i', hu', _, _, _, hue', rfl⟩ := keyOk_pair (a := m1) (b := m2) h''
        rw [hu] at hu'
        simp only [Option.some.injEq, TypeDesc.array.injEq, true_and] at hu'
        subst hu'
        rw [hue] at hue'
        simp only [Option.some.injEq, TypeDesc.int.injEq] at hue'
        subst hue'
        exact ⟨_, _, rfl⟩
      · cases h''
    refine ⟨_, hu, .inr ⟨fun k'' h'' => ?_, fun w => ?_⟩⟩
    · obtain ⟨m, m', rfl⟩ := hshape k'' h''
      rfl
    · obtain ⟨c, d, rfl⟩ := hshape k' h'
      have hint : ∀ (n : Nat) (m1 : IntKind) (z1 z2 : Int), (Op.equalIn (n + 1) e (.int m1 z1) (.int m1 z2)).run P w = .ok (z1 == z2) w := fun n m1 z1 z2 => by
        simp [Op.equalIn, run_underlying' hue]
      have p0 := key_part (P := P) (w := w) htd #[.int q n, .int q n'] 0 (.int q n) (by simp)
      have p1 := key_part (P := P) (w := w) htd #[.int q n, .int q n'] 1 (.int q n') (by simp)
      have q0 := key_part (P := P) (w := w) htd #[.int q c, .int q d] 0 (.int q c) (by simp)
      have q1 := key_part (P := P) (w := w) htd #[.int q c, .int q d] 1 (.int q d) (by simp)
      have i0 := hint 9998 q n c
      have i1 := hint 9998 q n' d
      have hsz' := run_sizeOf' (P := P) (w := w) hi
      rw [hsz] at hsz'
      simp only [flatV, List.map_cons, List.map_nil, flat1, keyEq]
      unfold Op.equal Op.maxDepth
      unfold Op.equalIn
      simp only [Sem.run_bind, run_underlying' hu, Result.andThen_ok, hsz']
      rw [show [0:2] = ({ start := 0, stop := 2, step := 1, step_pos := by decide } : Std.Legacy.Range) from rfl]
      simp [Std.Legacy.Range.forIn_eq_forIn_range', Std.Legacy.Range.size, List.range', p0, p1, q0, q1, i0, i1]
      cases h0 : (n == c) <;> cases h1 : (n' == d) <;> simp_all
  · cases h

theorem run_checkK {P : Program} {w : World} {kt : TypeId} {k : AV} (h : keyOk P kt k = true) (em : Bool) : (Instr.checkKey em 10000 kt (flatV k)).run P w = .ok () w := by
  unfold keyOk at h
  split at h
  · split at h
    · rename_i q' hu
      exact MapKept.run_checkKey (k := .int _ _) hu (by simp only [decide_eq_true_eq] at h; subst h; exact rfl) em 9999
    · cases h
  · split at h
    · rename_i hu
      exact MapKept.run_checkKey (k := .string _) hu trivial em 9999
    · cases h
  · rename_i q n q' n'
    obtain ⟨e, i, hu, hi, hsz, htd, hue, rfl⟩ := keyOk_pair (a := n) (b := n') h
    have p0 := key_part (P := P) (w := w) htd #[.int q n, .int q n'] 0 (.int q n) (by simp)
    have p1 := key_part (P := P) (w := w) htd #[.int q n, .int q n'] 1 (.int q n') (by simp)
    have hsz' := run_sizeOf' (P := P) (w := w) hi
    rw [hsz] at hsz'
    have c0 : ∀ m, (Instr.checkKey em 9999 e (.int q m)).run P w = .ok () w := fun m => MapKept.run_checkKey (k := .int q m) hue rfl em 9998
    simp only [flatV, List.map_cons, List.map_nil, flat1]
    unfold Instr.checkKey
    simp only [Sem.run_bind, run_underlying' hu, Result.andThen_ok]
    rw [show [0:2] = ({ start := 0, stop := 2, step := 1, step_pos := by decide } : Std.Legacy.Range) from rfl]
    simp [Std.Legacy.Range.forIn_eq_forIn_range', Std.Legacy.Range.size, List.range', p0, p1, hsz', c0]
  · cases h

/-- The keys of a map's entries. -/
def KeysM (l : List MapEntry) (es : List (List AV)) : Prop := l.map (·.key) = es.map fun row => flatV (row.getD 0 .any)
def valAt (l : List MapEntry) (j : Nat) : Value := ((l[j]?).map (·.val)).getD undef
theorem RowsM.keys {P : Program} {kt : TypeId} {x : Cx} : ∀ {l : List MapEntry} {es : List (List AV)}, keysWf P kt es → RowsM x l es → KeysM l es
  | [], [], _, _ => rfl
  | e :: l, row :: es, hw, h => by
    obtain ⟨⟨k, v, rfl, h1, _⟩, h3⟩ := h
    obtain ⟨k', v', e1, hk⟩ := hw _ (List.mem_cons_self ..)
    simp only [List.cons.injEq, and_true] at e1
    obtain ⟨rfl, rfl⟩ := e1
    show (e :: l).map (·.key) = _
    rw [List.map_cons, List.map_cons, flatV_rel h1 (keyOk_flat hk)]
    exact congrArg _ (RowsM.keys (fun r hr => hw r (List.mem_cons_of_mem _ hr)) h3)
  | [], _ :: _, _, h => h.elim
  | _ :: _, [], _, h => h.elim
theorem RowsM.val {x : Cx} : ∀ {l : List MapEntry} {es : List (List AV)} (_ : RowsM x l es) {j : Nat} {row : List AV}, es[j]? = some row → Rel x (row.getD 1 .any) (valAt l j)
  | [], [], _, _, _, e => by simp at e
  | e :: l, row :: es, h, 0, r, he => by
    obtain ⟨⟨k, v, rfl, _, h2⟩, _⟩ := h
    simp only [List.getElem?_cons_zero, Option.some.injEq] at he
    subst he
    exact h2
  | e :: l, row :: es, h, j + 1, r, he => by
    simp only [List.getElem?_cons_succ] at he
    have := RowsM.val h.2 he
    simpa [valAt] using this
  | [], _ :: _, h, _, _, _ => h.elim
  | _ :: _, [], h, _, _, _ => h.elim

theorem findAsk_rows {P : Program} {w : World} {kt : TypeId} {k : AV} (hE : ∀ k', keyOk P kt k' = true → (Op.equal kt (flatV k) (flatV k')).run P w = .ok (keyEq k k') w) :
    ∀ (es : List (List AV)) (l : List MapEntry) (i : Nat), keysWf P kt es → KeysM l es →
      (Instr.findAsking kt (flatV k) l i).run P w = .ok ((mapFind es k i).map fun p => (p.1, valAt l (p.1 - i))) w
  | [], l, i, _, h => by
    cases l with
    | nil => rfl
    | cons a l => simp [KeysM] at h
  | row :: es, [], i, hw, h => by simp [KeysM] at h
  | row :: es, e :: l', i, hw, h => by
    obtain ⟨k', v', rfl, hk'⟩ := hw row (by simp)
    simp only [KeysM, List.map_cons, List.cons.injEq, List.getD_cons_zero] at h
    obtain ⟨h1, h2⟩ := h
    have ih := findAsk_rows hE es l' (i + 1) (fun r hr => hw r (by simp [hr])) h2
    simp only [Instr.findAsking, Sem.run_bind, h1, hE k' hk', Result.andThen_ok, mapFind, List.getD_cons_zero, List.getD_cons_succ]
    cases hq : keyEq k k'
    · simp only [Bool.false_eq_true, if_false, Sem.run_ite]
      rw [ih, mapFind_shift, Option.map_map, Option.map_map]
      congr 2
      funext p
      simp only [Function.comp, valAt]
      rw [show p.1 + (i + 1) - (i + 1) = p.1 by omega, show p.1 + (i + 1) - i = p.1 + 1 by omega, List.getElem?_cons_succ]
    · simp [valAt]

theorem findNow_rows {P : Program} {kt : TypeId} {d : TypeDesc} {k : AV} (hE : ∀ k', keyOk P kt k' = true → Instr.sameNow d (flatV k) (flatV k') = some (keyEq k k')) :
    ∀ (es : List (List AV)) (l : List MapEntry) (i : Nat), keysWf P kt es → KeysM l es →
      Instr.findNow d (flatV k) l i = some ((mapFind es k i).map fun p => (p.1, valAt l (p.1 - i)))
  | [], l, i, _, h => by
    cases l with
    | nil => rfl
    | cons a l => simp [KeysM] at h
  | row :: es, [], i, hw, h => by simp [KeysM] at h
  | row :: es, e :: l', i, hw, h => by
    obtain ⟨k', v', rfl, hk'⟩ := hw row (by simp)
    simp only [KeysM, List.map_cons, List.cons.injEq, List.getD_cons_zero] at h
    obtain ⟨h1, h2⟩ := h
    have ih := findNow_rows hE es l' (i + 1) (fun r hr => hw r (by simp [hr])) h2
    simp only [Instr.findNow, h1, hE k' hk', mapFind, List.getD_cons_zero, List.getD_cons_succ]
    cases hq : keyEq k k'
    · simp only [Bool.false_eq_true, if_false]
      rw [ih, mapFind_shift, Option.map_map, Option.map_map]
      congr 2
      funext p
      simp only [Function.comp, valAt]
      rw [show p.1 + (i + 1) - (i + 1) = p.1 by omega, show p.1 + (i + 1) - i = p.1 + 1 by omega, List.getElem?_cons_succ]
    · simp [valAt]

theorem run_findK {P : Program} {w : World} {kt : TypeId} {k : AV} (hk : keyOk P kt k = true) {es : List (List AV)} {l : List MapEntry} (hw : keysWf P kt es) (h : KeysM l es) :
    (Instr.findKey kt (flatV k) l).run P w = .ok ((mapFind es k 0).map fun p => (p.1, valAt l p.1)) w := by
  obtain ⟨d, hd, h1 | ⟨h1, _⟩⟩ := key_same hk hk
  · exact MapKept.run_findKey hd (findNow_rows h1 es l 0 hw h)
  · have h2 : ∀ k', keyOk P kt k' = true → (Op.equal kt (flatV k) (flatV k')).run P w = .ok (keyEq k k') w := fun k' hk' => by
      obtain ⟨d', hd', h3 | ⟨_, h3⟩⟩ := key_same hk hk'
      · rw [hd] at hd'
        obtain rfl := Option.some.inj hd'
        have := h1 k' hk'
        rw [h3 k' hk'] at this; cases this
      · exact h3 w
    have h4 := findAsk_rows h2 es l 0 hw h
    cases es with
    | nil =>
      cases l with
      | nil => exact MapKept.run_findKey hd rfl
      | cons a l => simp [KeysM] at h
    | cons row es =>
      cases l with
      | nil => simp [KeysM] at h
      | cons e l' =>
      obtain ⟨k', v', rfl, hk'⟩ := hw row (by simp)
      have g1 := h
      simp only [KeysM, List.map_cons, List.cons.injEq, List.getD_cons_zero] at g1
      simp only [Instr.findKey, Sem.run_bind, run_underlying' hd, Result.andThen_ok, Instr.findNow, g1.1, h1 k' hk']
      exact h4

theorem keyEq_flat {P : Program} {kt : TypeId} {k k' : AV} (h : keyOk P kt k = true) (h' : keyOk P kt k' = true) (e : keyEq k k' = true) : flatV k' = flatV k := by
  unfold keyEq at e
  split at e
  · simp only [decide_eq_true_eq] at e
    simp only [keyOk] at h h'
    split at h
    · rename_i q hu
      rw [hu] at h'
      simp only [decide_eq_true_eq] at h h'
      subst h; subst h'; subst e; rfl
    · cases h
  · rw [(MapKept.bytes_beq _ _).1 e]
  · simp only [Bool.and_eq_true, decide_eq_true_eq] at e
    obtain ⟨e0, i, hu, _, _, _, hue, rfl⟩ := keyOk_pair h
    obtain ⟨e1, i', hu', _, _, _, hue', rfl⟩ := keyOk_pair h'
    rw [hu] at hu'
    simp only [Option.some.injEq, TypeDesc.array.injEq, true_and] at hu'
    subst hu'
    rw [hue] at hue'
    simp only [Option.some.injEq, TypeDesc.int.injEq] at hue'
    subst hue'
    rw [e.1, e.2]
  · cases e

theorem run_keyStays {P : Program} {w : World} {kt : TypeId} {k : AV} (h : keyOk P kt k = true) : (Instr.keyThatStays (flatV k) (flatV k)).run P w = .ok (flatV k) w := by
  have : Instr.sameBits 10000 (flatV k) (flatV k) = true := by
    unfold keyOk at h
    split at h
    · simp [flatV, flat1, Instr.sameBits]
    · simp [flatV, flat1, Instr.sameBits, MapKept.bytes_beq]
    · simp [flatV, flat1, Instr.sameBits]
    · cases h
  simp [Instr.keyThatStays, this]

end Go.AM

/- The map's root: made, and written. -/
namespace Go.AM

theorem flat_noOsl {es : List (List AV)} (hf : ∀ row ∈ es, ∀ c ∈ row, isMv c = true) : noOsl es := by
  intro i j sz q e
  have hin := osl_in e
  have h1 : es.getD i [] ∈ es := by rw [List.getD_eq_getElem?_getD, List.getElem?_eq_getElem hin.1]; exact List.getElem_mem hin.1
  have h2 : (es.getD i []).getD j .any ∈ es.getD i [] := by rw [List.getD_eq_getElem?_getD (l := es.getD i []), List.getElem?_eq_getElem hin.2]; exact List.getElem_mem hin.2
  have := hf _ h1 _ h2
  rw [e] at this
  cases this

/-- A root that holds a map: made anew, or written. -/
theorem StOk.setM {x : Cx} (h : StOk x) (id gen ver : Nat) (es' : List (List AV)) (b base : Nat) (w' : World) (c' : Nat → Prop) (hcc : ∀ g, x.c g → c' g) (hcg : c' gen ∧ c' ver)
    (hold : x.c gen → ∃ R, sget x.s id = some R ∧ R.gen = gen ∧ R.sz = mapSz ∧ R.es.length ≤ es'.length ∧ x.ρ (id, none) = some (b, base))
    (hz : x.w.heap.size ≤ w'.heap.size) (hw : ∀ k, k < x.w.heap.size → k ≠ b → w'.heap[k]? = x.w.heap[k]?)
    (hb : x.w.heap.size ≤ b ∨ ∃ y base', pcontent x.s (id, none) = some y ∧ x.ρ (id, none) = some (b, base') ∧ y.1 = mapSz)
    (hm0 : (∀ row ∈ es', ∀ c ∈ row, isMv c = true) ∧ ∃ (l : Array MapEntry) (clock : Nat), w'.heap[b]? = some (.map l clock) ∧ RowsM x l.toList es' ∧ StampOk l.toList clock) (hos : w'.os = x.w.os) (htp : w'.tape = x.w.tape) (hout : w'.output = x.w.output) (hdr : x.w.drawn ≤ w'.drawn := by first | exact Nat.le_refl _ | exact Nat.le_succ _) :
    Goes x ⟨upd x.ρ (id, none) (some (b, base)), (id, some ⟨gen, ver, mapSz, es'⟩) :: x.s, c', w', x.F⟩ := by
  have hno := flat_noOsl hm0.1
  have hpc : ∀ π y, pcontent ((id, some ⟨gen, ver, mapSz, es'⟩) :: x.s) π = some y → (π = (id, none) ∧ y = (mapSz, es')) ∨ (π.1 ≠ id ∧ pcontent x.s π = some y) := fun π y hy => pcontent_cons_noOsl hno hy
  have hblt : b < w'.heap.size := by obtain ⟨_, l, c, m1, _⟩ := hm0; exact heap_lt m1
  have hwb : ∀ k, k < x.w.heap.size → blockSize w' k = blockSize x.w k := fun k hk => by
    by_cases e : k = b
    · subst e
      rcases hb with hb | ⟨y, base', e1, e2, e3⟩
      · omega
      · obtain ⟨sz, es⟩ := y
        obtain ⟨_, _, l, c, m1, _⟩ := (h.rows _ _ _ _ _ e1 e2).map e3
        obtain ⟨_, l', c', m1', _⟩ := hm0
        simp [blockSize, m1, m1']
    · exact blockSize_of_heap (hw k hk e)
  have hle : x.le ⟨upd x.ρ (id, none) (some (b, base)), (id, some ⟨gen, ver, mapSz, es'⟩) :: x.s, c', w', x.F⟩ := by
    refine ⟨hcc, fun k hk => ⟨⟨Nat.lt_of_lt_of_le hk.1 hz, ?_, hk.2.2⟩, hw k hk.1 ?_⟩, fun r hr sz' q he => ?_⟩
    · rintro ⟨π, y, bs, h1, h2⟩
      rcases hpc π y h1 with ⟨rfl, rfl⟩ | ⟨hne, h3⟩
      · simp only [upd_self, Option.some.injEq, Prod.mk.injEq] at h2
        obtain ⟨rfl, _⟩ := h2
        rcases hb with hb | ⟨y', base', e1, e2, _⟩
        · have := hk.1; omega
        · exact hk.2.1 ⟨_, _, _, e1, e2⟩
      · simp only [upd_ne _ _ (show π ≠ (id, none) from fun e => hne (by rw [e]))] at h2
        exact hk.2.1 ⟨π, y, bs, h3, h2⟩
    · rintro rfl
      rcases hb with hb | ⟨y', base', e1, e2, _⟩
      · have := hk.1; omega
      · exact hk.2.1 ⟨_, _, _, e1, e2⟩
    · by_cases hid : id = r.id
      · obtain ⟨R', hR', hg', _⟩ := rcontent_marks he
        rw [sget_cons, if_pos hid] at hR'
        simp only [Option.some.injEq] at hR'
        subst hR'
        simp only at hg'
        obtain ⟨R, hR, g1, g2, g3, g4⟩ := hold (hg' ▸ hr.1)
        have hp := pcontent_of_rcontent he
        rcases hpc _ _ hp with ⟨e1, e2⟩ | ⟨hne, _⟩
        · simp only [Prod.mk.injEq] at e2
          obtain ⟨rfl, rfl⟩ := e2
          have hsub : r.sub = none := by
            cases hs : r.sub with
            | none => rfl
            | some v => rw [Ref.pl, hs] at e1; simp at e1
          refine ⟨R.es, ?_, g3, ?_, fun b0 base0 e0 => hwb b0 ?_⟩
          · unfold rcontent
            rw [← hid, hR]
            simp [g1, hg', hsub, g2]
          · rw [e1]; simp only [upd_self]; exact g4.symm
          · rw [e1, g4] at e0
            simp only [Option.some.injEq, Prod.mk.injEq] at e0
            obtain ⟨rfl, _⟩ := e0
            exact h.live_lt (y := (R.sz, R.es)) (by rw [pcontent_of_root hR]) g4
        · exact absurd hid.symm hne
      · simp only [rcontent_ne hid] at he
        have hne : r.pl ≠ (id, none) := fun e => hid (by have := congrArg Prod.fst e; exact this.symm)
        exact ⟨q, he, Nat.le_refl _, upd_ne _ _ hne, fun b base e => hwb b (h.live_lt (pcontent_of_rcontent he) e)⟩
  have hm : MapOk ⟨upd x.ρ (id, none) (some (b, base)), (id, some ⟨gen, ver, mapSz, es'⟩) :: x.s, c', w', x.F⟩ none es' b := by
    obtain ⟨m3, l, c, m1, m2, m4⟩ := hm0
    exact ⟨rfl, m3, l, c, m1, m2.imp (fun _ _ _ hr => hr.mono hle) m3, m4⟩
  have hown : ∀ k, k < x.w.heap.size → ¬ x.owned k → k ≠ b := fun k hk ho e => by
    subst e
    rcases hb with hb | ⟨y', base', e1, e2, _⟩
    · omega
    · exact ho ⟨_, _, _, e1, e2⟩
  have hpx : ∀ (π : Pl), π.1 ≠ id → upd x.ρ (id, none) (some (b, base)) π = x.ρ π := fun π hne => upd_ne _ _ fun e => hne (by rw [e])
  have hbne : ∀ (π : Pl) y b1 base1, π.1 ≠ id → pcontent x.s π = some y → x.ρ π = some (b1, base1) → b1 ≠ b := fun π y b1 base1 hne h1 h2 e => by
    subst e
    rcases hb with hb | ⟨y', base', e1, e2, _⟩
    · have := h.live_lt h1 h2; omega
    · have := h.inj _ _ _ _ _ _ _ h1 e1 h2 e2
      exact hne (by rw [this])
  refine ⟨rfl, hle, ⟨?_, ?_, ?_, ?_, ?_, ?_, h.gl.mono hle.imm⟩, ⟨hos, htp, hout, hz, fun k hk hno => hw k hk (hown k hk hno), hdr⟩⟩
  · intro π sz' q b1 base1 h1 h2
    rcases hpc π _ h1 with ⟨rfl, hy⟩ | ⟨hne, h3⟩
    · simp only [Prod.mk.injEq] at hy
      obtain ⟨rfl, rfl⟩ := hy
      simp only [upd_self, Option.some.injEq, Prod.mk.injEq] at h2
      obtain ⟨rfl, rfl⟩ := h2
      exact ⟨fun e => absurd rfl e, fun _ => hm, hblt⟩
    · simp only [hpx π hne] at h2
      have hrow := h.rows _ _ _ _ _ h3 h2
      have hkeep : w'.heap[b1]? = x.w.heap[b1]? := hw b1 hrow.lt (hbne π _ b1 base1 hne h3 h2)
      refine ⟨fun hsz => ?_, fun hsz => (hrow.map hsz).mono hle hkeep, Nat.lt_of_lt_of_le hrow.lt hz⟩
      obtain ⟨cs, T, g1, g2, g3⟩ := hrow.cells hsz
      refine ⟨cs, T, hkeep.trans g1, g2, fun i j hi hj => ?_⟩
      obtain ⟨u, k1, k2⟩ := g3 i j hi hj
      refine ⟨u, k1, k2.mono hle fun sz'' q'' ha => ⟨hpx _ hne, fun b' base' e => hwb b' ?_⟩⟩
      have hπ2 : π.2 = none := by rw [ha] at k2; exact k2.1
      have hpi : pcontent x.s (π.1, some (i, j)) = some (sz'', q'') := by
        unfold pcontent at h3 ⊢
        cases e1 : sget x.s π.1 with
        | none => simp [e1] at h3
        | some R =>
          simp only [e1, hπ2, Option.some.injEq, Prod.mk.injEq] at h3
          simp only
          rw [← h3.2] at ha
          exact inner_of ha
      exact h.live_lt hpi e
  · intro π sz' q h1 h2
    rcases hpc π _ h1 with ⟨rfl, hy⟩ | ⟨hne, h3⟩
    · simp only [upd_self] at h2; cases h2
    · simp only [hpx π hne] at h2
      exact h.nils _ _ _ h3 h2
  · intro π π' y y' b1 b2 b3 h1 h2 h3 h4
    rcases hpc π _ h1 with ⟨rfl, _⟩ | ⟨hne, g1⟩ <;> rcases hpc π' _ h2 with ⟨rfl, _⟩ | ⟨hne', g2⟩
    · rfl
    · simp only [upd_self, Option.some.injEq, Prod.mk.injEq] at h3
      simp only [hpx π' hne'] at h4
      exact absurd h3.1.symm (hbne π' _ _ _ hne' g2 h4)
    · simp only [upd_self, Option.some.injEq, Prod.mk.injEq] at h4
      simp only [hpx π hne] at h3
      exact absurd h4.1.symm (hbne π _ _ _ hne g1 h3)
    · simp only [hpx π hne] at h3
      simp only [hpx π' hne'] at h4
      exact h.inj _ _ _ _ _ _ _ g1 g2 h3 h4
  · intro id' R hR
    simp only [sget_cons] at hR
    split at hR
    · simp only [Option.some.injEq] at hR; subst hR; exact hcg
    · have := h.gens id' R hR; exact ⟨hcc _ this.1, hcc _ this.2⟩
  · intro π sz' q h1
    rcases hpc π _ h1 with ⟨rfl, hy⟩ | ⟨hne, h3⟩
    · simp only [Prod.mk.injEq] at hy; obtain ⟨rfl, rfl⟩ := hy; exact fun e => absurd rfl e
    · exact h.lens _ _ _ h3
  · refine fun k hk => ⟨Nat.lt_of_lt_of_le (h.apart k hk).1 hz, ?_⟩
    rintro ⟨π, y, bs, h1, h2⟩
    rcases hpc π y h1 with ⟨rfl, rfl⟩ | ⟨hne, h3⟩
    · simp only [upd_self, Option.some.injEq, Prod.mk.injEq] at h2
      obtain ⟨e0, _⟩ := h2
      rcases hb with hb | ⟨y', base', e1, e2, _⟩
      · have := (h.apart k hk).1; omega
      · exact (h.apart k hk).2 ⟨_, _, _, e1, by rw [← e0]; exact e2⟩
    · simp only [hpx π hne] at h2
      exact (h.apart k hk).2 ⟨π, y, bs, h3, h2⟩

theorem aMakeMap_sound {P : Program} {x : Cx} (h : StOk x) {T : TypeId} (g : Nat) (hg : ¬ x.c g) (id : Nat) {n : Option Value} (hn : ∀ u, n = some u → isMapT P T = true ∧ ∃ k, u = .int .i64 k) :
    ∃ ρ' v' w', (Instr.makeMap T n).run P x.w = .ok v' w' ∧ Goes x ⟨ρ', (id, some ⟨g, g, mapSz, []⟩) :: x.s, (fun k => x.c k ∨ k = g), w', x.F⟩ ∧
      Rel ⟨ρ', (id, some ⟨g, g, mapSz, []⟩) :: x.s, (fun k => x.c k ∨ k = g), w', x.F⟩ (.mp ⟨id, g, none⟩) v' := by
  refine ⟨upd x.ρ (id, none) (some (x.w.heap.size, 0)), .map (some x.w.heap.size), x.w.pushed (.map #[] 0), ?_, ?_, ?_⟩
  · cases n with
    | none => rfl
    | some u =>
      obtain ⟨h1, k, rfl⟩ := hn u rfl
      unfold isMapT at h1
      split at h1
      · rename_i kt et hu
        simp only [Instr.makeMap, Sem.run_bind, run_underlying' hu, Result.andThen_ok, asInt, Sem.run_pure]
        rfl
      · cases h1
  · refine h.setM id g g [] x.w.heap.size 0 (x.w.pushed (.map #[] 0)) _ (fun _ h => .inl h) ⟨.inr rfl, .inr rfl⟩ (fun h => absurd h hg) (by simp [World.pushed]) (fun k hk _ => ?_) (.inl (Nat.le_refl _)) ⟨by simp, #[], 0, by show (x.w.heap.push _)[x.w.heap.size]? = _; simp, trivial, .nil _⟩ rfl rfl rfl
    show (x.w.heap.push _)[k]? = _
    rw [Array.getElem?_push, if_neg (by omega)]
  · refine .mp _ _ ⟨.inr rfl, by simp⟩ fun es he => ⟨x.w.heap.size, 0, ?_, rfl⟩
    simp [Ref.pl, upd_self]

/-- The map behind a reference. -/
theorem mp_block {x : Cx} (h : StOk x) {r : Ref} {es : List (List AV)} {u : Value} (hc : mcontent x.s r = some es) (hr : Rel x (.mp r) u) :
    ∃ b base l clock, u = .map (some b) ∧ x.ρ r.pl = some (b, base) ∧ r.pl.2 = none ∧ x.w.heap[b]? = some (.map l clock) ∧ RowsM x l.toList es ∧ (∀ row ∈ es, ∀ c ∈ row, isMv c = true) ∧ StampOk l.toList clock := by
  obtain ⟨m, rfl, _, hh⟩ := hr.mp_inv
  obtain ⟨b, base, hρ, rfl⟩ := hh es hc
  obtain ⟨h0, h3, l, c, h1, h2, h4⟩ := (h.rows _ _ _ _ _ (pcontent_of_rcontent (mcontent_iff.1 hc)) hρ).map rfl
  exact ⟨b, base, l, c, rfl, hρ, h0, h1, h2, h3, h4⟩

theorem aLookup_sound {P : Program} {x : Cx} (h : StOk x) {T : TypeId} {m k v : AV} {um uk : Value} {ok : Bool} {vc : Prop} (hs : aLookup P T x.s m k ok = some (vc, v)) (hvc : vc) (hm : Rel x m um) (hk : Rel x k uk) :
    ∃ v', (Instr.lookup T um uk ok).run P x.w = .ok v' x.w ∧ Rel x v v' := by
  unfold aLookup at hs
  split at hs
  · rename_i kt et r hu
    split at hs
    · rename_i es hc
      split at hs
      · rename_i hkey
        obtain ⟨b, base, l, clock, rfl, hρ, _, hheap, hrows, hflat, hst⟩ := mp_block h hc hm
        obtain rfl := flatV_rel hk (keyOk_flat hkey)
        have main : ∀ (q : Option IntKind) (z : Value) (i : TypeInfo), P.info? et = some i → i.zero = some z → mapWf P kt q es →
            (Instr.lookup T (.map (some b)) (flatV k) ok).run P x.w = .ok (if ok then .tuple #[((mapAt es k).map flatV).getD z, .bool (mapHas es k)] else ((mapAt es k).map flatV).getD z) x.w := fun q z i hi hz hw => by
          have hkw : keysWf P kt es := fun row hr => by obtain ⟨k', v', e1, e2, _⟩ := hw row hr; exact ⟨k', v', e1, e2⟩
          have hf := run_findK (w := x.w) hkey hkw (hrows.keys hkw)
          have hfv : (mapFind es k 0).map (fun p => (p.1, valAt l.toList p.1)) = (mapFind es k 0).map fun p => (p.1, flatV p.2) := by
            cases hmf : mapFind es k 0 with
            | none => rfl
            | some p =>
              obtain ⟨row, g1, g2, _⟩ := mapFind_some hmf
              obtain ⟨k', v', rfl, _, hv⟩ := hw row (List.mem_of_getElem? g1)
              simp only [List.getD_cons_succ, List.getD_cons_zero] at g2
              have hr := hrows.val g1
              simp only [List.getD_cons_succ, List.getD_cons_zero] at hr
              have hfl : isFlat v' = true := by
                unfold valOk at hv
                split at hv <;> first | rfl | (cases hv; done)
              simp only [Option.map_some]
              rw [← g2, flatV_rel hr hfl]
          rw [hfv] at hf
          simp only [Instr.lookup, Sem.run_bind, run_underlying' hu, Result.andThen_ok, MapKept.run_getObj_map hheap, Sem.run_pure, run_checkK hkey, hf]
          unfold mapAt mapHas mapAt
          cases hmf : mapFind es k 0 with
          | none => simp [run_zeroValue hi hz]
          | some p => simp
        have hget : ∀ q, mapWf P kt q es → ∀ y, mapAt es k = some y → valOk q y = true := fun q hw y hy => by
          unfold mapAt at hy
          cases hmf : mapFind es k 0 with
          | none => rw [hmf] at hy; cases hy
          | some p =>
            rw [hmf] at hy
            obtain rfl := Option.some.inj hy
            obtain ⟨row, h1, h2, _⟩ := mapFind_some hmf
            obtain ⟨k', v', rfl, _, hv⟩ := hw row (List.mem_of_getElem? h1)
            simp only [List.getD_cons_succ, List.getD_cons_zero] at h2
            show valOk q p.2 = true
            rw [← h2]; exact hv
        have htup : ∀ (a : AV) (u : Value) (c : Bool), Rel x a u → Rel x (.tup [a, .bool c]) (.tuple #[u, .bool c]) := fun a u c ha => .tup _ [u, .bool c] rfl fun i hi => by
          match i, hi with
          | 0, _ => exact ha
          | 1, _ => exact .bool c
        split at hs
        · rename_i hvd
          simp only [Option.some.injEq, Prod.mk.injEq] at hs
          obtain ⟨rfl, rfl⟩ := hs
          unfold valD at hvd
          split at hvd
          · rename_i i hi
            split at hvd
            · rename_i b0 hz
              split at hvd
              · rename_i hb0
                subst hb0
                refine ⟨_, main none _ i hi hz hvc, ?_⟩
                have e : ((mapAt es k).map flatV).getD (.bool false) = .bool (mapB es k) := by
                  unfold mapB
                  cases hma : mapAt es k with
                  | none => rfl
                  | some y =>
                    have := hget none hvc y hma
                    cases y <;> first | (simp [valOk] at this; done) | rfl
                rw [e]
                cases ok
                · exact .bool _
                · exact htup _ _ _ (.bool _)
              · cases hvd
            · split at hvd <;> cases hvd
            · cases hvd
          · cases hvd
        · rename_i q hvd
          simp only [Option.some.injEq, Prod.mk.injEq] at hs
          obtain ⟨rfl, rfl⟩ := hs
          unfold valD at hvd
          split at hvd
          · rename_i i hi
            split at hvd
            · split at hvd <;> cases hvd
            · rename_i q0 n0 hz
              split at hvd
              · rename_i hb0
                subst hb0
                simp only [Option.some.injEq] at hvd
                subst hvd
                refine ⟨_, main (some q0) _ i hi hz hvc, ?_⟩
                have e : ((mapAt es k).map flatV).getD (.int q0 0) = .int q0 (mapI es k) := by
                  unfold mapI
                  cases hma : mapAt es k with
                  | none => rfl
                  | some y =>
                    have := hget (some q0) hvc y hma
                    cases y <;> first | (simp [valOk] at this; done) | skip
                    simp only [valOk, decide_eq_true_eq] at this
                    subst this
                    rfl
                rw [e]
                cases ok
                · exact .int _ _
                · exact htup _ _ _ (.int _ _)
              · cases hvd
            · cases hvd
          · cases hvd
        · cases hs
      · cases hs
    · cases hs
  · cases hs

theorem mapPut_flat {P : Program} {kt : TypeId} {k v : AV} (hk : isMv k = true) (hv : isMv v = true) {es : List (List AV)} (h : ∀ row ∈ es, ∀ c ∈ row, isMv c = true) : ∀ row ∈ mapPut es k v, ∀ c ∈ row, isMv c = true := by
  have hkv : ∀ c ∈ [k, v], isMv c = true := fun c hc => by
    rcases List.mem_cons.1 hc with rfl | hc
    · exact hk
    · rcases List.mem_cons.1 hc with rfl | hc
      · exact hv
      · cases hc
  rw [mapPut_find]
  split
  · intro row hr
    rcases List.mem_or_eq_of_mem_set hr with h1 | rfl
    · exact h row h1
    · exact hkv
  · intro row hr
    rcases List.mem_append.1 hr with h1 | h1
    · exact h row h1
    · simp only [List.mem_singleton] at h1; subst h1; exact hkv

theorem RowsM.push {x : Cx} {e : MapEntry} {row : List AV} (he : ∃ k v, row = [k, v] ∧ Rel x k e.key ∧ Rel x v e.val) : ∀ {l : List MapEntry} {es : List (List AV)}, RowsM x l es → RowsM x (l ++ [e]) (es ++ [row])
  | [], [], _ => ⟨he, trivial⟩
  | _ :: _, _ :: _, h => ⟨h.1, h.2.push he⟩
  | [], _ :: _, h => h.elim
  | _ :: _, [], h => h.elim
theorem RowsM.modify {x : Cx} {row : List AV} : ∀ {l : List MapEntry} {es : List (List AV)} (_ : RowsM x l es) (i : Nat) (f : MapEntry → MapEntry) (_ : ∀ e, ∃ k v, row = [k, v] ∧ Rel x k (f e).key ∧ Rel x v (f e).val), RowsM x (l.modify i f) (es.set i row)
  | [], [], _, i, _, _ => by cases i <;> exact trivial
  | e :: _, _ :: _, h, 0, f, hf => ⟨hf e, h.2⟩
  | _ :: _, _ :: _, h, i + 1, f, hf => ⟨h.1, h.2.modify i f hf⟩
  | [], _ :: _, h, _, _, _ => h.elim
  | _ :: _, [], h, _, _, _ => h.elim
theorem aMapUpdate_sound {P : Program} {x : Cx} (h : StOk x) {T : TypeId} {m k v : AV} {um uk uv : Value} {vc : Prop} {us : Store} (hs : aMapUpdate P T x.s m k v = some (vc, us)) (hvc : vc) (hm : Rel x m um) (hk : Rel x k uk) (hv : Rel x v uv) :
    ∃ ρ' w', (Instr.mapUpdate T um uk uv).run P x.w = .ok () w' ∧ Goes x ⟨ρ', us ++ x.s, x.c, w', x.F⟩ := by
  unfold aMapUpdate at hs
  split at hs
  · rename_i kt et r hu
    split at hs
    · rename_i R es hsub hR hc
      split at hs
      · rename_i hcond
        obtain ⟨hkey, hvf⟩ := hcond
        simp only [Option.some.injEq, Prod.mk.injEq] at hs
        obtain ⟨rfl, rfl⟩ := hs
        obtain ⟨b, base, l, clock, rfl, hρ, _, hheap, hrows, hflat, hst⟩ := mp_block h hc hm
        obtain rfl := flatV_rel hk (keyOk_flat hkey)
        have hkeys := hrows.keys hvc
        have hf := run_findK (w := x.w) hkey hvc hkeys
        have hblt := heap_lt hheap
        have hlen : l.toList.length = es.length := hrows.length
        have hkr : Rel x k (flatV k) := hk
        have hlay : ∃ l' clock', (Instr.mapUpdate T (.map (some b)) (flatV k) uv).run P x.w = .ok () { x.w with heap := x.w.heap.setIfInBounds b (.map l' clock') } ∧
            RowsM x l'.toList (mapPut es k v) ∧ StampOk l'.toList clock' := by
          rw [mapPut_find]
          cases hmf : mapFind es k 0 with
          | none =>
            rw [hmf] at hf
            refine ⟨l.push { key := flatV k, val := uv, born := clock }, clock + 1, ?_, by rw [Array.toList_push]; exact ⟨hrows.push ⟨k, v, rfl, hkr, hv⟩, hst.push _ rfl⟩⟩
            simp only [Instr.mapUpdate, Sem.run_bind, run_underlying' hu, Result.andThen_ok, MapKept.run_getObj_map hheap, run_checkK hkey, hf, Option.map_none, MapKept.run_setObj_map _ hheap]
          | some p =>
            rw [hmf] at hf
            obtain ⟨row, g1, g2, g3⟩ := mapFind_some hmf
            obtain ⟨k', v', rfl, hk'⟩ := hvc row (List.mem_of_getElem? g1)
            simp only [List.getD_cons_zero] at g3
            have hp := (List.getElem?_eq_some_iff.1 g1).1
            have hpl : p.1 < l.size := by simpa using (show p.1 < l.toList.length by omega)
            have hkk : (l[p.1]).key = flatV k := by
              have h1 := congrArg (fun z : List Value => z[p.1]?) hkeys
              simp only [List.getElem?_map, g1, Option.map_some, List.getD_cons_zero] at h1
              rw [List.getElem?_eq_getElem (by simpa using hpl)] at h1
              simp only [Option.map_some, Option.some.injEq, Array.getElem_toList] at h1
              rw [h1]; exact keyEq_flat hkey hk' g3
            refine ⟨l.modify p.1 fun e => { e with key := flatV k, val := uv }, clock, ?_, ?_⟩
            · simp only [Instr.mapUpdate, Sem.run_bind, run_underlying' hu, Result.andThen_ok, MapKept.run_getObj_map hheap, run_checkK hkey, hf, Option.map_some, Array.getElem?_eq_getElem hpl, Option.getD_some, hkk, run_keyStays hkey, MapKept.run_setObj_map _ hheap]
            · rw [Array.toList_modify]
              exact ⟨hrows.modify p.1 _ fun e => ⟨k, v, rfl, hkr, hv⟩, hst.modify p.1 _ fun _ => rfl⟩
        obtain ⟨l', clock', hrun, hrows'⟩ := hlay
        have hpl : r.pl = (r.id, none) := pl_none hsub
        obtain ⟨R', hR', hg', hcase⟩ := rcontent_root (mcontent_iff.1 hc)
        rw [hR] at hR'
        obtain rfl := Option.some.inj hR'
        have hRes : R.sz = mapSz ∧ R.es = es := by
          rcases hcase with ⟨_, e⟩ | ⟨i, o, e, _⟩
          · simp only [Prod.mk.injEq] at e; exact ⟨e.1.symm, e.2.symm⟩
          · rw [hsub] at e; cases e
        have hgen := h.gens _ _ hR
        rw [hpl] at hρ
        have hleng : es.length ≤ (mapPut es k v).length := by
          rw [mapPut_find]
          split <;> simp
        refine ⟨_, _, hrun, h.setM r.id R.gen R.ver (mapPut es k v) b base _ x.c (fun _ h => h) hgen (fun _ => ⟨R, hR, rfl, hRes.1, by rw [hRes.2]; exact hleng, hρ⟩) (by simp) (fun k0 _ hk0 => by simp [Ne.symm hk0])
          (.inr ⟨_, base, by rw [pcontent_of_root hR], hρ, hRes.1⟩) ⟨mapPut_flat (P := P) (kt := kt) (isMv_flat (keyOk_flat hkey)) hvf hflat, l', clock', by simp [hblt], hrows'⟩ rfl rfl rfl⟩
      · cases hs
    · cases hs
  · cases hs

end Go.AM

/- One operation of a region. -/
namespace Go.AM

def immF (w : World) (F : Nat → Prop) (b : Nat) : Prop := b < w.heap.size ∧ ¬ F b

/-- The call answers `r` for the arguments `args` (pure values); it writes nothing that was there. `fr`: what it returns lies in new memory. -/
def Reads (P : Program) (f : FuncId) (fr : Bool) (args : List AV) (r : AV) : Prop :=
  ∀ (w : World) (F : Nat → Prop) (us : List Value), (∀ b, F b → b < w.heap.size) → GL (immF w F) w → us.length = args.length → (∀ i, i < args.length → RelP (immF w F) w (args.getD i .any) (us.getD i undef)) →
    Calls P f us.toArray w fun e w' => ∃ u, e = .returned u ∧ Ext (fun _ => False) w w' ∧ RelP (immF w' (if fr then (fun b => b < w.heap.size) else F)) w' r u

def pureS : AV → Bool
  | .sl _ _ _ _ | .ptr _ _ _ | .opt _ _ | .osl _ _ | .agg _ | .tup _ | .fn _ _ | .mp _ => false
  | _ => true
def pureA : AV → Bool
  | .agg cs => cs.all pureS
  | .fn _ cs => cs.all pureS
  | v => pureS v

theorem pureS_rel {x : Cx} {v : AV} {u : Value} (h : Rel x v u) (hp : pureS v = true) : RelP x.imm x.w v u := by
  cases h with
  | pure _ _ h => exact h
  | _ => simp [pureS] at hp
theorem pureA_rel {x : Cx} {v : AV} {u : Value} (h : Rel x v u) (hp : pureA v = true) : RelP x.imm x.w v u := by
  have hall : ∀ (cs : List AV) (vs : List Value), cs.all pureS = true → (∀ i, i < cs.length → Rel x (cs.getD i .any) (vs.getD i undef)) → ∀ i, i < cs.length → RelP x.imm x.w (cs.getD i .any) (vs.getD i undef) := fun cs vs hc hr i hi => by
    refine pureS_rel (hr i hi) ?_
    rw [List.getD_eq_getElem?_getD, List.getElem?_eq_getElem hi]
    exact List.all_eq_true.1 hc _ (List.getElem_mem hi)
  cases h with
  | pure _ _ h => exact h
  | agg cs vs hl hr => exact .agg _ _ hl (hall cs vs hp hr)
  | fn f cs vs hl hr => exact .fn _ _ _ hl (hall cs vs hp hr)
  | _ => simp [pureA, pureS] at hp

def vws (fr : Bool) (s : Store) (l : List AV) : List AV := if fr then l.map (vw s 5) else l

/-- A call of a Go function, by its contract. -/
def aCall (P : Program) (s : Store) (fr : Bool) (r : AV) (fv : Prop × AV) (args : List (Prop × AV)) : Option (Prop × AV) :=
  match fv.2 with
  | .fn f caps => some (fv.1 ∧ allP args ∧ enters P f = true ∧ (fr = true ∨ (args.map (·.2) ++ caps).all pureA = true) ∧ Reads P f fr (vws fr s (args.map (·.2) ++ caps)) r, r)
  | _ => none

/-- The number of a map's entries. -/
def aMLen (P : Program) (T : TypeId) (s : Store) : AV → Option AV
  | .mp r => if isMapT P T = true then (match mcontent s r with
    | some es => some (.int .i64 es.length)
    | none => none) else none
  | _ => none
def aBuiltin (P : Program) (b : Builtin) (ts : Array TypeId) (s : Store) (args : List (Prop × AV)) (id g : Nat) : Option Res :=
  match b, args with
  | .len, [p] => match ts.toList with
    | [T] => match slD P T, aLen p.2 with
      | some _, some v => some ⟨p.1, v, []⟩
      | _, _ => match aMLen P T s p.2 with
        | some v => some ⟨p.1, v, []⟩
        | none => none
    | _ => none
  | .append, [p, q] => match ts.toList with
    | [T, T2] => match aAppend P T T2 s p.2 q.2 id g with
      | some (vc, v, u) => some ⟨p.1 ∧ q.1 ∧ vc, v, u⟩
      | none => none
    | _ => none
  | .copy, [p, q] => match ts.toList with
    | [T, T2] => match aCopy P T T2 s p.2 q.2 with
      | some (vc, v, u) => some ⟨p.1 ∧ q.1 ∧ vc, v, u⟩
      | none => none
    | _ => none
  | .min, args => match aMin false args with
    | some (vc, v) => some ⟨vc, v, []⟩
    | none => none
  | .max, args => match aMin true args with
    | some (vc, v) => some ⟨vc, v, []⟩
    | none => none
  | _, _ => none

def optE (e : Env) : Option Operand → Option (Prop × AV)
  | none => none
  | some x => some (ev e x)

def isC : Operand → Bool
  | .const _ => true
  | _ => false

/-- == and != on bools and on strings. -/
def aBin2 (P : Program) (op : BinOp) (T : TypeId) : AV → AV → Option AV
  | .bool a, .bool b => match P.underlying T with
    | some .bool => match op with
      | .eql => some (.bool (a == b))
      | .neq => some (.bool (!(a == b)))
      | _ => none
    | _ => none
  | .str a, .str b => match op with
    | .eql => some (.bool (a.toList == b.toList))
    | .neq => some (.bool (!(a.toList == b.toList)))
    | _ => none
  | _, _ => none

def isAny : AV → Bool
  | .any => true
  | _ => false
/-- A choice whose dead side is unknown. -/
def aPick2 (ta fb : Bool) (c a b : Prop × AV) : Option (Prop × AV) :=
  match c.2 with
  | .bool x => if ta && isAny b.2 then some (c.1 ∧ x = true, .bool true) else if fb && isAny a.2 then some (c.1 ∧ x = false, .bool false) else none
  | _ => none
/-- The literal nil slice. -/
def isNilC : Operand → Bool
  | .const (.slice none 0 0) => true
  | _ => false
/-- A slice of an argument against the literal nil. -/
def aNil (P : Program) (op : BinOp) (T : TypeId) : Bool → AV → Option (Prop × AV)
  | true, .rsl _ es => match slD P T with
    | some _ => match op with
      | .eql => some (es ≠ [], .bool false)
      | .neq => some (es ≠ [], .bool true)
      | _ => none
    | none => none
  | true, .nilq b => match slD P T with
    | some _ => match op with
      | .eql => some (True, .bool b)
      | .neq => some (True, .bool !b)
      | _ => none
    | none => none
  | _, _ => none
/-- The text of a slice of bytes. -/
def bytesOk (es : List (List AV)) : Prop := ∀ row ∈ es, ∃ n : Int, row = [.int .u8 n]
def byteOf : List AV → Int
  | [.int _ n] => n
  | _ => 0
def strOf (es : List (List AV)) : ByteArray := (es.map byteOf).foldl (fun r n => r.push (UInt8.ofNat n.toNat)) ByteArray.empty
def aBytes (P : Program) (src dst : TypeId) (v : AV) : Option (Prop × AV) :=
  match slD P src with
  | some (e, 1) => match inD P e, P.underlying dst with
    | some .u8, some .string => match v with
      | .rsl n es => if n = 1 then some (bytesOk es, .str (strOf es)) else none
      | .nilsl => some (True, .str (strOf []))
      | _ => none
    | _, _ => none
  | _ => none
/-- Is the answer foreseen as an empty slice that is not nil? -/
def orcN : Option Orc → Bool
  | some (.reads _ (.nilq false)) => true
  | _ => false
def stepOp (P : Program) (orc : Option Orc) (op : Op) (id g : Nat) (e : Env) (s : Store) : Option Res :=
  match op with
  | .move x => some ⟨(ev e x).1, (ev e x).2, []⟩
  | .assign x => some ⟨(ev e x).1, (ev e x).2, []⟩
  | .pick c a b => match aPick (isTrueC a) (isFalseC b) (ev e c) (ev e a) (ev e b) with
    | some (q, v) => some ⟨q, v, []⟩
    | none => match aPick2 (isTrueC a) (isFalseC b) (ev e c) (ev e a) (ev e b) with
      | some (q, v) => some ⟨q, v, []⟩
      | none => none
  | .alloc T => match zeC P T with
    | some cs => if cs.length < mapSz then some ⟨True, .ptr ⟨id, g, none⟩ 0 0, [(id, some ⟨g, g, cs.length, [cs]⟩)]⟩ else none
    | none => none
  | .box _ x => if known (ev e x).2 = true ∧ (cellsA (ev e x).2).length < mapSz then some ⟨(ev e x).1, .ptr ⟨id, g, none⟩ 0 0, [(id, some ⟨g, g, (cellsA (ev e x).2).length, [cellsA (ev e x).2]⟩)]⟩ else none
  | .build T parts => match aBuild P T (parts.toList.map fun p => (p.1, ev e p.2)) with
    | some (q, v) => some ⟨q, v, []⟩
    | none => none
  | .buildSlice T n parts => if n = 0 then match slD P T with
      | some _ => if parts.toList.isEmpty then some ⟨True, if orcN orc then .nilq false else .nilsl, []⟩ else none
      | none => none
    else match aBuildSlice P T n (parts.toList.map fun p => (p.1, ev e p.2)) with
    | some (q, sz, es) => some ⟨q, .sl ⟨id, g, none⟩ 0 n none, [(id, some ⟨g, g, sz, es⟩)]⟩
    | none => none
  | .load T a => match aLoad P T s (ev e a).2 with
    | some (q, v) => some ⟨(ev e a).1 ∧ q, v, []⟩
    | none => none
  | .store T a x => match aStore P T s (ev e x).2 (ev e a).2 with
    | some (q, u) => some ⟨(ev e a).1 ∧ (ev e x).1 ∧ q, .any, u⟩
    | none => none
  | .nilCheck x => match (ev e x).2 with
    | .ptr r i o => some ⟨(ev e x).1, .ptr r i o, []⟩
    | .rptr cs => some ⟨(ev e x).1, .rptr cs, []⟩
    | .fn f cs => some ⟨(ev e x).1, .fn f cs, []⟩
    | _ => none
  | .binOp op T x y _ => match aBin op (ev e x).2 (ev e y).2 with
    | some (q, v) => some ⟨(ev e x).1 ∧ (ev e y).1 ∧ q, v, []⟩
    | none => match aBin2 P op T (ev e x).2 (ev e y).2 with
      | some v => some ⟨(ev e x).1 ∧ (ev e y).1, v, []⟩
      | none => match aBinA P op T (ev e x).2 (ev e y).2 with
        | some v => some ⟨(ev e x).1 ∧ (ev e y).1, v, []⟩
        | none => match aNil P op T (isNilC y) (ev e x).2 with
          | some (q, v) => some ⟨(ev e x).1 ∧ q, v, []⟩
          | none => if isAny (ev e x).2 || isAny (ev e y).2 then some ⟨False, .any, []⟩ else none
  | .unOp op _ x => match aUn op (ev e x).2 with
    | some (q, v) => some ⟨(ev e x).1 ∧ q, v, []⟩
    | none => none
  | .convert src dst x => match P.underlying src with
    | none => none
    | some _ => match aConv P dst (ev e x).2 with
      | some v => some ⟨(ev e x).1, v, []⟩
      | none => match aBytes P src dst (ev e x).2 with
        | some (q, v) => some ⟨(ev e x).1 ∧ q, v, []⟩
        | none => none
  | .makeSlice T l c => match aMake P T (ev e l).2 (ev e c).2 with
    | some (q, sz, l', c', es) => some ⟨(ev e l).1 ∧ (ev e c).1 ∧ q ∧ (∀ e' sz', slD P T = some (e', sz') → 0 < (byD P e').getD 0), .sl ⟨id, g, none⟩ 0 l'.toNat (if isC l then some c'.toNat else none), [(id, some ⟨g, g, sz, es⟩)]⟩
    | none => none
  | .slice T x lo hi mx => match aSlice P T s (ev e x).2 (optE e lo) (optE e hi) (optE e mx) with
    | some (q, v) => some ⟨(ev e x).1 ∧ q, v, []⟩
    | none => none
  | .fieldAddr T x f => match aFieldAddr P T f (ev e x).2 with
    | some v => some ⟨(ev e x).1, v, []⟩
    | none => none
  | .field T x f => match aField P T f (ev e x).2 with
    | some (q, v) => some ⟨(ev e x).1 ∧ q, v, []⟩
    | none => none
  | .indexAddr T x i => match aIndexAddr P T s (ev e x).2 (ev e i).2 with
    | some (q, v) => some ⟨(ev e x).1 ∧ (ev e i).1 ∧ q, v, []⟩
    | none => none
  | .index T x i => match aIndex P T (ev e x).2 (ev e i).2 with
    | some (q, v) => some ⟨(ev e x).1 ∧ (ev e i).1 ∧ q, v, []⟩
    | none => none
  | .extract t ix => match aExtract ix (ev e t).2 with
    | some (q, v) => some ⟨(ev e t).1 ∧ q, v, []⟩
    | none => none
  | .makeFunc (.func f) first captured => if first.toList.isEmpty then some ⟨allP (captured.toList.map (ev e)), .fn f (captured.toList.map fun x => (ev e x).2), []⟩ else none
  | .makeMap T n => match n with
    | none => some ⟨True, .mp ⟨id, g, none⟩, [(id, some ⟨g, g, mapSz, []⟩)]⟩
    | some o => match (ev e o).2 with
      | .int .i64 _ => if isMapT P T = true then some ⟨(ev e o).1, .mp ⟨id, g, none⟩, [(id, some ⟨g, g, mapSz, []⟩)]⟩ else none
      | _ => none
  | .lookup T m k ok => match aLookup P T s (ev e m).2 (ev e k).2 ok with
    | some (q, v) => some ⟨(ev e m).1 ∧ (ev e k).1 ∧ q, v, []⟩
    | none => none
  | .mapUpdate T m k v => match aMapUpdate P T s (ev e m).2 (ev e k).2 (ev e v).2 with
    | some (q, u) => some ⟨(ev e m).1 ∧ (ev e k).1 ∧ (ev e v).1 ∧ q, .any, u⟩
    | none => none
  | .call c => match c.callee with
    | .builtin b => aBuiltin P b c.argTypes s (c.args.toList.map (ev e)) id g
    | .value f => match orc with
      | some (.reads fr r) => match aCall P s fr r (ev e f) (c.args.toList.map (ev e)) with
        | some (q, v) => some ⟨q, v, []⟩
        | none => none
      | some (.upd ids s1 res) => aUpd P s id g ids s1 res (ev e f) (c.args.toList.map (ev e))
      | some .skip => none
      | none => none
    | _ => none
  | _ => none

theorem wp_value {P : Program} {o : Oper} {a : Act} {w w' : World} {K : Act → World → Prop} {Q : Exit → Act → World → Prop} {s : Sem Value} {u : Value} (hx : execOp a.eval o = (do pure (.value (← s)))) (hr : s.run P w = .ok u w')
    (hk : K (a.put o.dst u) w') : o.wp P a w K Q := by
  unfold Oper.wp
  rw [hx]
  simp only [Sem.run_bind, hr, Result.andThen_ok, Sem.run_pure, Oper.upon]
  exact hk

theorem allP_mem : ∀ {l : List (Prop × AV)}, allP l → ∀ p ∈ l, p.1
  | _ :: _, h, p, hp => by
    rcases List.mem_cons.1 hp with rfl | hp
    · exact h.1
    · exact allP_mem h.2 p hp

theorem opt_rel {x : Cx} {e : Env} {a : Act} (hgl : GL x.imm x.w) (he : ∀ t, Rel x (eget e t) (a.tmps.getD t undef)) (o : Option Operand) :
    (optE e o = none ∧ o.map a.eval = none) ∨ ∃ q v u, optE e o = some (q, v) ∧ o.map a.eval = some u ∧ (q → Rel x v u) := by
  cases o with
  | none => exact .inl ⟨rfl, rfl⟩
  | some o => exact .inr ⟨_, _, _, rfl, rfl, ev_rel hgl he o⟩

theorem run_equalIn_bool {P : Program} {w : World} {T : TypeId} (d : Nat) (a b : Bool) (hu : P.underlying T = some .bool) : (Op.equalIn (d + 1) T (.bool a) (.bool b)).run P w = .ok (a == b) w := by
  simp [Op.equalIn, run_underlying' hu]

theorem aBin2_sound {P : Program} {w : World} {x : Cx} {op : BinOp} {T : TypeId} {p q v : AV} {a b : Value} (hs : aBin2 P op T p q = some v) (hp : Rel x p a) (hq : Rel x q b) :
    ∃ v', (binOp op T a b).run P w = .ok v' w ∧ Rel x v v' := by
  unfold aBin2 at hs
  split at hs
  · rename_i p q
    obtain rfl := hp.bool_inv
    obtain rfl := hq.bool_inv
    split at hs
    · rename_i hu
      split at hs
      · obtain rfl := Option.some.inj hs
        exact ⟨.bool (p == q), by simp only [binOp]; simp [Op.equal, Op.maxDepth, run_equalIn_bool 9999 _ _ hu], .bool _⟩
      · obtain rfl := Option.some.inj hs
        exact ⟨.bool (!(p == q)), by simp only [binOp]; simp [Op.equal, Op.maxDepth, run_equalIn_bool 9999 _ _ hu], .bool _⟩
      · cases hs
    · cases hs
  · obtain rfl := hp.str_inv
    obtain rfl := hq.str_inv
    split at hs <;> first | cases hs | skip
    all_goals exact ⟨_, by simp [binOp, Op.stringOp], .bool _⟩
  · cases hs

theorem run_eqGuard {P : Program} {w : World} {x : Cx} {op : BinOp} {T : TypeId} {ox oy : Operand} {p : AV} {a b : Value} (hp : Rel x p a) (h : (∃ k n, p = .int k n) ∨ (∃ c, p = .bool c) ∨ ∃ c, p = .str c) :
    (eqGuard op T ox oy a b).run P w = .ok () w := by
  rcases h with ⟨k, n, rfl⟩ | ⟨c, rfl⟩ | ⟨c, rfl⟩
  · obtain rfl := hp.int_inv
    unfold eqGuard; split <;> rfl
  · obtain rfl := hp.bool_inv
    unfold eqGuard; split <;> rfl
  · obtain rfl := hp.str_inv
    unfold eqGuard; split <;> rfl

theorem isNilC_eval {y : Operand} (h : isNilC y = true) (a : Act) : a.eval y = .slice none 0 0 := by
  unfold isNilC at h
  split at h
  · rfl
  · cases h
theorem run_nilCmp {P : Program} {w : World} {T : TypeId} {y : Nat × Nat} (hs : slD P T = some y) (q : Option Addr) (len cap : Nat) : (Op.equal T (.slice q len cap) (.slice none 0 0)).run P w = .ok q.isNone w := by
  obtain ⟨e0, sz⟩ := y
  obtain ⟨hu, -⟩ := slD_some hs
  unfold Op.equal Op.maxDepth
  unfold Op.equalIn
  simp only [Sem.run_bind, run_underlying' hu, Result.andThen_ok]
  cases q <;> rfl
theorem aNil_sound {P : Program} {x : Cx} {op : BinOp} {T : TypeId} {ox oy : Operand} {nc : Bool} {p v : AV} {q : Prop} {a b : Value} (hs : aNil P op T nc p = some (q, v)) (hq : q) (hp : Rel x p a) (hb : nc = true → b = .slice none 0 0) :
    ∃ v', (do eqGuard op T ox oy a b; Go.binOp op T a b).run P x.w = .ok v' x.w ∧ Rel x v v' := by
  unfold aNil at hs
  split at hs
  · rename_i sz es
    obtain rfl := hb rfl
    split at hs
    · rename_i y hsl
      have hne : es ≠ [] → ∃ ad len cap, a = .slice (some ad) len cap := fun hne => by
        have h := hp.rsl_inv
        cases h with
        | rnil => exact absurd rfl hne
        | rsl _ _ b base cap => exact ⟨_, _, _, rfl⟩
      have hg : ∀ ad len cap, (eqGuard op T ox oy (.slice ad len cap) (.slice none 0 0)).run P x.w = .ok () x.w := fun ad len cap => by
        unfold eqGuard
        split <;> rfl
      split at hs
      · obtain ⟨rfl, rfl⟩ := Prod.mk.inj (Option.some.inj hs)
        obtain ⟨ad, len, cap, rfl⟩ := hne hq
        exact ⟨.bool false, by simp only [Sem.run_bind, hg, Result.andThen_ok, Go.binOp, run_nilCmp hsl, Sem.run_pure, Option.isNone_some], .bool _⟩
      · obtain ⟨rfl, rfl⟩ := Prod.mk.inj (Option.some.inj hs)
        obtain ⟨ad, len, cap, rfl⟩ := hne hq
        exact ⟨.bool true, by simp only [Sem.run_bind, hg, Result.andThen_ok, Go.binOp, run_nilCmp hsl, Sem.run_pure, Option.isNone_some, Bool.not_false], .bool _⟩
      · cases hs
    · cases hs
  · rename_i b'
    obtain rfl := hb rfl
    split at hs
    · rename_i y hsl
      obtain ⟨ad, rfl, hbn⟩ := hp.nilq_inv
      have hg : ∀ ad len cap, (eqGuard op T ox oy (.slice ad len cap) (.slice none 0 0)).run P x.w = .ok () x.w := fun ad len cap => by
        unfold eqGuard
        split <;> rfl
      split at hs
      · obtain ⟨rfl, rfl⟩ := Prod.mk.inj (Option.some.inj hs)
        exact ⟨.bool ad.isNone, by simp only [Sem.run_bind, hg, Result.andThen_ok, Go.binOp, run_nilCmp hsl, Sem.run_pure], by rw [hbn]; exact .bool _⟩
      · obtain ⟨rfl, rfl⟩ := Prod.mk.inj (Option.some.inj hs)
        exact ⟨.bool !ad.isNone, by simp only [Sem.run_bind, hg, Result.andThen_ok, Go.binOp, run_nilCmp hsl, Sem.run_pure], by rw [hbn]; exact .bool _⟩
      · cases hs
    · cases hs
  · cases hs

theorem aBytes_sound {P : Program} {x : Cx} (h : StOk x) {src dst : TypeId} {p v : AV} {q : Prop} {a : Value} (hs : aBytes P src dst p = some (q, v)) (hq : q) (hp : Rel x p a) :
    ∃ v', (convert src dst a).run P x.w = .ok v' x.w ∧ Rel x v v' := by
  have key : ∀ (e : TypeId) (es : List (List AV)) (hsl : slD P src = some (e, 1)) (hin : inD P e = some .u8) (hd : P.underlying dst = some .string) (q' : Prop) (hsrc : srcOf x.s 1 p = some (es, q')) (hq' : q') (hok : bytesOk es),
      ∃ v', (convert src dst a).run P x.w = .ok v' x.w ∧ Rel x (.str (strOf es)) v' := fun e es hsl hin hd q' hsrc hq' hok => by
    obtain ⟨ad, cap, nc, rfl, h1, h2, h3, h4⟩ := srcOf_sound (P := P) h hsrc hq' hp
    obtain ⟨hu, -⟩ := slD_some hsl
    have he : P.underlying e = some (.int .u8) := by
      unfold inD at hin
      split at hin
      · simp only [Option.some.injEq] at hin; subst hin; assumption
      · cases hin
    have hnc : nc = ((es.map byteOf).map (Value.int .u8)).toArray := by
      apply Array.ext_getElem?
      intro i
      by_cases hi : i < es.length
      · obtain ⟨u', e1, e2⟩ := h4 i 0 hi (by omega)
        obtain ⟨n, hn⟩ := hok (es.getD i []) (by rw [List.getD_eq_getElem?_getD, List.getElem?_eq_getElem hi]; exact List.getElem_mem hi)
        rw [hn] at e2
        have e3 := e2.int_inv
        have h5 : es[i]? = some [.int .u8 n] := by
          rw [List.getElem?_eq_getElem hi]
          rw [List.getD_eq_getElem?_getD, List.getElem?_eq_getElem hi] at hn
          simpa using hn
        rw [Nat.mul_one, Nat.add_zero] at e1
        rw [e1, e3]
        simp [h5, byteOf]
      · have : nc.size ≤ i := by omega
        rw [Array.getElem?_eq_none this]
        simp [List.getElem?_eq_none (Nat.le_of_not_lt hi)]
    refine ⟨.string (strOf es), ?_, .str _⟩
    rw [run_convert_bytes_string x.w src dst e _ _ cap hu he hd]
    have hf := h1 x.w rfl
    cases ad with
    | none =>
      have : es.length = 0 := by
        simp only [Builtin.firstCells, Sem.run_pure, Result.ok.injEq] at hf
        have := hf.1
        rw [← this] at h2
        simp at h2
        simp [h2]
      have : es = [] := List.length_eq_zero_iff.1 this
      subst this
      simp [Conv.bytesToString, strOf]
    | some ad =>
      simp only [Builtin.firstCells, Nat.mul_one] at hf
      rw [hnc] at hf
      exact run_bytesToString x.w ad _ cap (es.map byteOf) hf
  unfold aBytes at hs
  split at hs
  · rename_i e hsl
    split at hs
    · rename_i hin hd
      split at hs
      · rename_i n es
        split at hs
        · rename_i hn
          subst hn
          obtain ⟨rfl, rfl⟩ := Prod.mk.inj (Option.some.inj hs)
          refine key e es hsl hin hd (scP es) (by simp [srcOf]) ?_ hq
          intro cs hcs c hc
          obtain ⟨n, rfl⟩ := hq cs hcs
          rw [List.mem_singleton.1 hc]
          rfl
        · cases hs
      · obtain ⟨rfl, rfl⟩ := Prod.mk.inj (Option.some.inj hs)
        exact key e [] hsl hin hd True rfl trivial (by intro _ h; simp at h)
      · cases hs
    · cases hs
  · cases hs

theorem callFunc_enters {P : Program} {w : World} {f : FuncId} {args : Array Value} (h : enters P f = true) : (callFunc f args).run P w = .ok (.enter f args) w := by
  unfold enters at h
  split at h
  · rename_i fn hf
    simp only [Bool.and_eq_true, Bool.not_eq_true'] at h
    simp only [callFunc, Sem.run_bind, run_program, Result.andThen_ok, hf, h.1, h.2, Bool.false_eq_true, if_false, Sem.run_pure]
  · cases h

set_option maxHeartbeats 4000000 in
theorem step_base {P : Program} {x : Cx} {e : Env} {a : Act} (h : StOk x) (he : ∀ t, Rel x (eget e t) (a.tmps.getD t undef)) {o : Oper} {orc : Option Orc} {id g : Nat} {r : Res}
    (hs : stepOp P orc o.op id g e x.s = some r) (hnc : ∀ c, o.op ≠ .call c) (hvc : r.vc) (hg : ¬ x.c g) (hg1 : ¬ x.c (g + 1)) {K : Act → World → Prop} {Q : Exit → Act → World → Prop}
    (hK : ∀ y u, Goes x y → y.s = r.u ++ x.s → (∀ k, y.c k → x.c k ∨ k = g ∨ k = g + 1) → Rel y r.v u → K (a.put o.dst u) y.w) : o.wp P a x.w K Q := by
  have hev := ev_rel h.gl he
  have hstay : ∀ {v u}, Rel x v u → r = ⟨r.vc, v, []⟩ → K (a.put o.dst u) x.w := fun {v u} hr hre => by
    have h1 : r.u = [] := by rw [hre]
    have h2 : r.v = v := by rw [hre]
    exact hK x u (.refl h) (by rw [h1]; rfl) (fun k hk => .inl hk) (by rw [h2]; exact hr)
  have hval : ∀ {s : Sem Value} {v vc} {u : Value}, execOp a.eval o = (do pure (.value (← s))) → r = ⟨vc, v, []⟩ → s.run P x.w = .ok u x.w → Rel x v u → o.wp P a x.w K Q := fun hx hre hr hrel =>
    wp_value hx hr (hstay hrel (by rw [hre]))
  unfold stepOp at hs
  split at hs
  case h_1 x0 hop =>
    obtain rfl := Option.some.inj hs
    exact hval (s := pure (a.eval x0)) (by simp only [execOp, hop]; rfl) rfl (by simp) (hev _ hvc)
  case h_2 x0 hop =>
    obtain rfl := Option.some.inj hs
    exact hval (s := pure (a.eval x0)) (by simp only [execOp, hop]; rfl) rfl (by simp) (hev _ hvc)
  case h_3 c0 a0 b0 hop =>
    split at hs
    · rename_i q v hp
      obtain rfl := Option.some.inj hs
      have hT : ∀ o : Operand, isTrueC o = true → a.eval o = .bool true := fun o h => by
        unfold isTrueC at h; split at h
        · subst h; rfl
        · cases h
      have hF : ∀ o : Operand, isFalseC o = true → a.eval o = .bool false := fun o h => by
        unfold isFalseC at h; split at h
        · rename_i b; cases b
          · rfl
          · simp at h
        · cases h
      unfold aPick at hp
      split at hp
      · rename_i bx e1
        split at hp
        · rename_i hta
          split at hp
          · rename_i bz e3
            simp only [Option.some.injEq, Prod.mk.injEq] at hp
            obtain ⟨rfl, rfl⟩ := hp
            obtain ⟨q1, q3⟩ := hvc
            have h1 := hev c0 q1
            rw [e1] at h1
            have h1 := h1.bool_inv
            unfold Oper.wp
            simp only [execOp, hop, h1, asBool, Sem.run_bind, Sem.run_pure, Result.andThen_ok, Oper.upon]
            refine hstay ?_ rfl
            cases bx
            · have h3 := hev b0 (q3 rfl)
              rw [e3] at h3
              simpa using h3
            · rw [if_pos rfl, hT a0 hta]; exact .bool true
          · cases hp
        · split at hp
          · rename_i hfb
            split at hp
            · rename_i by_ e3
              simp only [Option.some.injEq, Prod.mk.injEq] at hp
              obtain ⟨rfl, rfl⟩ := hp
              obtain ⟨q1, q3⟩ := hvc
              have h1 := hev c0 q1
              rw [e1] at h1
              have h1 := h1.bool_inv
              unfold Oper.wp
              simp only [execOp, hop, h1, asBool, Sem.run_bind, Sem.run_pure, Result.andThen_ok, Oper.upon]
              refine hstay ?_ rfl
              cases bx
              · rw [if_neg (by simp), hF b0 hfb]; exact .bool false
              · have h3 := hev a0 (q3 rfl)
                rw [e3] at h3
                simpa using h3
            · cases hp
          · cases hp
      · cases hp
    · split at hs
      · rename_i q v hp
        obtain rfl := Option.some.inj hs
        have hT : ∀ o : Operand, isTrueC o = true → a.eval o = .bool true := fun o h => by
          unfold isTrueC at h; split at h
          · subst h; rfl
          · cases h
        have hF : ∀ o : Operand, isFalseC o = true → a.eval o = .bool false := fun o h => by
          unfold isFalseC at h; split at h
          · rename_i b; cases b
            · rfl
            · simp at h
          · cases h
        unfold aPick2 at hp
        split at hp
        · rename_i bx e1
          split at hp
          · rename_i hta
            simp only [Option.some.injEq, Prod.mk.injEq] at hp
            obtain ⟨rfl, rfl⟩ := hp
            obtain ⟨q1, rfl⟩ := hvc
            have h1 := hev c0 q1
            rw [e1] at h1
            have h1 := h1.bool_inv
            unfold Oper.wp
            simp only [execOp, hop, h1, asBool, Sem.run_bind, Sem.run_pure, Result.andThen_ok, Oper.upon]
            refine hstay ?_ rfl
            simp only [Bool.and_eq_true] at hta
            rw [if_pos trivial, hT a0 hta.1]; exact .bool true
          · split at hp
            · rename_i hfb
              simp only [Option.some.injEq, Prod.mk.injEq] at hp
              obtain ⟨rfl, rfl⟩ := hp
              obtain ⟨q1, rfl⟩ := hvc
              have h1 := hev c0 q1
              rw [e1] at h1
              have h1 := h1.bool_inv
              unfold Oper.wp
              simp only [execOp, hop, h1, asBool, Sem.run_bind, Sem.run_pure, Result.andThen_ok, Oper.upon]
              refine hstay ?_ rfl
              simp only [Bool.and_eq_true] at hfb
              rw [if_neg (by simp), hF b0 hfb.1]; exact .bool false
            · cases hp
        · cases hp
      · cases hs
  case h_4 T hop =>
    split at hs
    · rename_i cs hz
      split at hs
      · rename_i hlt
        obtain rfl := Option.some.inj hs
        obtain ⟨ρ', v', w', k1, k2, k3⟩ := aAlloc_sound h g hg id hz (Nat.ne_of_lt hlt)
        exact wp_value (s := Instr.alloc T true (.tuple #[])) (by simp only [execOp, hop]) k1 (hK _ _ k2 rfl (fun k hk => hk.imp (fun h => h) .inl) k3)
      · cases hs
    · cases hs
  case h_5 T x0 hop =>
    split at hs
    · rename_i hk
      obtain rfl := Option.some.inj hs
      obtain ⟨ρ', v', w', k1, k2, k3⟩ := aBox_sound (P := P) (T := T) h g hg id (hev x0 hvc) hk.1 (Nat.ne_of_lt hk.2)
      exact wp_value (s := Instr.box T (a.eval x0)) (by simp only [execOp, hop]) k1 (hK _ _ k2 rfl (fun k hk => hk.imp (fun h => h) .inl) k3)
    · cases hs
  case h_6 T parts hop =>
    split at hs
    · rename_i q v hb
      obtain rfl := Option.some.inj hs
      obtain ⟨v', k1, k2⟩ := aBuild_sound h.gl he hb hvc
      exact hval (s := Instr.build T (parts.map fun (i, x) => (i, a.eval x))) (by simp only [execOp, hop]) rfl k1 k2
    · cases hs
  case h_7 T n parts hop =>
    split at hs
    · rename_i hn
      subst hn
      split at hs
      · rename_i y hsl
        split at hs
        · rename_i hpe
          obtain rfl := Option.some.inj hs
          obtain ⟨e0, sz⟩ := y
          obtain ⟨hu, d, hd, _⟩ := slD_some hsl
          have hp0 : parts = #[] := by
            obtain ⟨l⟩ := parts
            simp only [List.isEmpty_iff] at hpe
            rw [hpe]
          subst hp0
          have hgo := h.goes_grow (s' := x.s) (c' := x.c) (w' := x.w.pushed (.cells #[] e0)) (fun _ _ h => h) (fun _ h => h) (ext_push _ _)
          refine wp_value (s := Instr.buildSlice T 0 (Array.map (fun (x : Nat × Operand) => (x.fst, a.eval x.snd)) #[])) (u := .slice (some ⟨x.w.heap.size, 0, none⟩) 0 0) (by simp only [execOp, hop]) ?_ (hK _ _ hgo rfl (fun k hk => .inl hk) (by split; exact .pure _ _ (.nilq _ _ rfl); exact .pure _ _ (.nilsl _)))
          have hr0 : Array.range 0 = #[] := by simp
          simp only [Instr.buildSlice, Sem.run_bind, run_underlying' hu, Result.andThen_ok, run_sizeOf' hd, Nat.zero_mul, hr0, Array.map_empty, Array.toList_empty, Instr.fill, run_newRow, Sem.run_ite, Sem.run_pure]
          simp
        · cases hs
      · cases hs
    · split at hs
      · rename_i q sz es hb
        obtain rfl := Option.some.inj hs
        obtain ⟨ρ', v', w', k1, k2, k3⟩ := aBuildSlice_sound h he hb hvc g hg id
        exact wp_value (s := Instr.buildSlice T n (parts.map fun (i, x) => (i, a.eval x))) (by simp only [execOp, hop]) k1 (hK _ _ k2 rfl (fun k hk => hk.imp (fun h => h) .inl) k3)
      · cases hs
  case h_8 T a0 hop =>
    split at hs
    · rename_i q v hl
      obtain rfl := Option.some.inj hs
      obtain ⟨v', k1, k2⟩ := aLoad_sound h hl hvc.2 (hev a0 hvc.1)
      exact hval (s := Instr.loadAt T (a.eval a0)) (by simp only [execOp, hop]) rfl k1 k2
    · cases hs
  case h_9 T a0 x0 hop =>
    split at hs
    · rename_i q u hst
      obtain rfl := Option.some.inj hs
      obtain ⟨w', k1, k2⟩ := aStore_sound (P := P) h hst hvc.2.2 (hev a0 hvc.1) (hev x0 hvc.2.1)
      unfold Oper.wp
      simp only [execOp, hop, Sem.run_bind, k1, Result.andThen_ok, Sem.run_pure, Oper.upon]
      exact hK _ undef k2 rfl (fun k hk => .inl hk) (.any _)
    · cases hs
  case h_10 x0 hop =>
    split at hs
    · rename_i r0 i o0 hv
      obtain rfl := Option.some.inj hs
      have hr := hev x0 hvc
      rw [hv] at hr
      obtain ⟨ad, e0, _⟩ := hr.ptr_inv
      unfold Oper.wp
      simp only [execOp, hop, e0, Sem.run_pure, Oper.upon]
      exact hstay (e0 ▸ hr) rfl
    · rename_i cs hv
      obtain rfl := Option.some.inj hs
      have hr := hev x0 hvc
      rw [hv] at hr
      have : ∃ ad, a.eval x0 = .pointer (some ad) := by
        have hh := hr.rptr_inv
        generalize a.eval x0 = u at hh
        cases hh; exact ⟨_, rfl⟩
      obtain ⟨ad, e0⟩ := this
      unfold Oper.wp
      simp only [execOp, hop, e0, Sem.run_pure, Oper.upon]
      exact hstay (e0 ▸ hr) rfl
    · rename_i f cs hv
      obtain rfl := Option.some.inj hs
      have hr := hev x0 hvc
      rw [hv] at hr
      obtain ⟨vs, e0, _⟩ := hr.fn_inv
      unfold Oper.wp
      simp only [execOp, hop, e0, Sem.run_pure, Oper.upon]
      exact hstay (e0 ▸ hr) rfl
    · cases hs
  case h_11 op T x0 y0 yT hop =>
    have key : ∀ v vc (hre : r = ⟨vc, v, []⟩) u, ((∃ k n, (ev e x0).2 = .int k n) ∨ (∃ c, (ev e x0).2 = .bool c) ∨ ∃ c, (ev e x0).2 = .str c) → Rel x (ev e x0).2 (a.eval x0) → Rel x (ev e y0).2 (a.eval y0) → (binOp op T (a.eval x0) (a.eval y0)).run P x.w = .ok u x.w → Rel x v u → o.wp P a x.w K Q := fun v vc hre u hk hx hy hr hrel => by
      refine hval (s := do eqGuard op T x0 y0 (a.eval x0) (a.eval y0); binOp op T (a.eval x0) (a.eval y0)) (u := u) (by simp only [execOp, hop]) hre ?_ hrel
      simp only [Sem.run_bind, run_eqGuard hx hk, Result.andThen_ok, hr]
    split at hs
    · rename_i q v hb
      obtain rfl := Option.some.inj hs
      have hx := hev x0 hvc.1
      have hy := hev y0 hvc.2.1
      obtain ⟨v', k1, k2⟩ := aBin_sound (P := P) (w := x.w) (T := T) hb hvc.2.2 hx hy
      refine key _ _ rfl v' (.inl ?_) hx hy k1 k2
      unfold aBin at hb
      split at hb
      · rename_i k n k' n' e1 e2; exact ⟨k, n, e1⟩
      · cases hb
    · split at hs
      · rename_i v hb
        obtain rfl := Option.some.inj hs
        have hx := hev x0 hvc.1
        have hy := hev y0 hvc.2
        obtain ⟨v', k1, k2⟩ := aBin2_sound (P := P) (w := x.w) hb hx hy
        refine key _ _ rfl v' (.inr ?_) hx hy k1 k2
        unfold aBin2 at hb
        split at hb
        · rename_i b1 b2 e1 e2; exact .inl ⟨b1, e1⟩
        · rename_i b1 b2 e1 e2; exact .inr ⟨b1, e1⟩
        · cases hb
      · split at hs
        · rename_i v hb
          obtain rfl := Option.some.inj hs
          obtain ⟨v', k1, k2⟩ := aBinA_sound (ox := x0) (oy := y0) hb (hev x0 hvc.1) (hev y0 hvc.2)
          exact hval (s := do eqGuard op T x0 y0 (a.eval x0) (a.eval y0); binOp op T (a.eval x0) (a.eval y0)) (u := v') (by simp only [execOp, hop]) rfl k1 k2
        · split at hs
          · rename_i q v hb
            obtain rfl := Option.some.inj hs
            obtain ⟨v', k1, k2⟩ := aNil_sound (P := P) (x := x) (ox := x0) (oy := y0) (b := a.eval y0) hb hvc.2 (hev x0 hvc.1) (fun h => isNilC_eval h a)
            exact hval (s := do eqGuard op T x0 y0 (a.eval x0) (a.eval y0); binOp op T (a.eval x0) (a.eval y0)) (u := v') (by simp only [execOp, hop]) rfl k1 k2
          · split at hs
            · obtain rfl := Option.some.inj hs
              exact hvc.elim
            · cases hs
  case h_12 op T x0 hop =>
    split at hs
    · rename_i q v hb
      obtain rfl := Option.some.inj hs
      obtain ⟨v', k1, k2⟩ := aUn_sound (P := P) (w := x.w) hb hvc.2 (hev x0 hvc.1)
      exact hval (s := Op.unary op (a.eval x0)) (by simp only [execOp, hop]) rfl k1 k2
    · cases hs
  case h_13 src dst x0 hop =>
    split at hs
    · cases hs
    · rename_i ds hsrc
      split at hs
      · rename_i v hb
        obtain rfl := Option.some.inj hs
        obtain ⟨v', k1, k2⟩ := aConv_sound (P := P) (w := x.w) hsrc hb (hev x0 hvc)
        exact hval (s := convert src dst (a.eval x0)) (by simp only [execOp, hop]) rfl k1 k2
      · split at hs
        · rename_i q v hb
          obtain rfl := Option.some.inj hs
          obtain ⟨v', k1, k2⟩ := aBytes_sound (P := P) h hb hvc.2 (hev x0 hvc.1)
          exact hval (s := convert src dst (a.eval x0)) (by simp only [execOp, hop]) rfl k1 k2
        · cases hs
  case h_14 T l0 c0 hop =>
    split at hs
    · rename_i q sz l' c' es hb
      obtain rfl := Option.some.inj hs
      obtain ⟨q1, q2, q3, q4⟩ := hvc
      obtain ⟨ρ', v', w', k1, k2, k3⟩ := aMake_sound (P := P) h hb q3 (hev l0 q1) (hev c0 q2) q4 g hg id
      refine wp_value (s := Instr.makeSlice T (a.eval l0) (a.eval c0)) (by simp only [execOp, hop]) k1 (hK _ _ k2 rfl (fun k hk => hk.imp (fun h => h) .inl) ?_)
      cases isC l0
      · obtain ⟨ad, cap, rfl, _, hok, hh⟩ := k3.sl_inv
        exact .sl _ _ _ _ _ _ (fun _ e => by simp at e) hok hh
      · exact k3
    · cases hs
  case h_15 T x0 lo hi mx hop =>
    split at hs
    · rename_i q v hb
      obtain rfl := Option.some.inj hs
      obtain ⟨v', k1, k2⟩ := aSlice_sound (P := P) hb hvc.2 (hev x0 hvc.1) (opt_rel h.gl he lo) (opt_rel h.gl he hi) (opt_rel h.gl he mx)
      exact hval (s := Instr.sliceAt T (a.eval x0) (lo.map a.eval) (hi.map a.eval) (mx.map a.eval)) (by simp only [execOp, hop]) rfl k1 k2
    · cases hs
  case h_16 T x0 f hop =>
    split at hs
    · rename_i v hb
      obtain rfl := Option.some.inj hs
      obtain ⟨v', k1, k2⟩ := aFieldAddr_sound (P := P) hb (hev x0 hvc)
      exact hval (s := Instr.fieldAt T (a.eval x0) f) (by simp only [execOp, hop]) rfl k1 k2
    · cases hs
  case h_17 T x0 f hop =>
    split at hs
    · rename_i q v hb
      obtain rfl := Option.some.inj hs
      obtain ⟨v', k1, k2⟩ := aField_sound (P := P) hb hvc.2 (hev x0 hvc.1)
      exact hval (s := Instr.field T (a.eval x0) f) (by simp only [execOp, hop]) rfl k1 k2
    · cases hs
  case h_18 T x0 i0 hop =>
    split at hs
    · rename_i q v hb
      obtain rfl := Option.some.inj hs
      obtain ⟨v', k1, k2⟩ := aIndexAddr_sound (P := P) hb hvc.2.2 (hev x0 hvc.1) (hev i0 hvc.2.1)
      exact hval (s := Instr.indexAt T (a.eval x0) (a.eval i0)) (by simp only [execOp, hop]) rfl k1 k2
    · cases hs
  case h_19 T x0 i0 hop =>
    split at hs
    · rename_i q v hb
      obtain rfl := Option.some.inj hs
      obtain ⟨v', k1, k2⟩ := aIndex_sound (P := P) hb hvc.2.2 (hev x0 hvc.1) (hev i0 hvc.2.1)
      exact hval (s := Instr.index T (a.eval x0) (a.eval i0)) (by simp only [execOp, hop]) rfl k1 k2
    · cases hs
  case h_20 t0 ix hop =>
    split at hs
    · rename_i q v hb
      obtain rfl := Option.some.inj hs
      obtain ⟨v', k1, k2⟩ := aExtract_sound (P := P) hb hvc.2 (hev t0 hvc.1)
      exact hval (s := Instr.extract (a.eval t0) ix) (by simp only [execOp, hop]) rfl k1 k2
    · cases hs
  case h_21 f first captured hop =>
    split at hs
    · rename_i hf
      obtain rfl := Option.some.inj hs
      have hf0 : first = #[] := by
        obtain ⟨l⟩ := first
        simp only [List.isEmpty_iff] at hf
        rw [hf]
      subst hf0
      refine hval (s := Instr.makeFunc (.func f) (#[].map a.eval) (captured.map a.eval)) (u := .func (.func f) #[] (captured.toList.map a.eval).toArray) (by simp only [execOp, hop]) rfl (by
        obtain ⟨l⟩ := captured
        simp [Instr.makeFunc]) ?_
      refine .fn f _ _ (by simp) fun i hi => ?_
      simp only [List.length_map] at hi
      rw [getD_map_vw (fun x => (ev e x).2) _ _ (.global 0) _ hi, getD_map_vw a.eval _ _ (.global 0) _ hi]
      refine hev _ (allP_mem hvc (ev e (captured.toList.getD i (.global 0))) (List.mem_map.2 ⟨_, ?_, rfl⟩))
      rw [List.getD_eq_getElem?_getD, List.getElem?_eq_getElem hi]
      exact List.getElem_mem hi
    · cases hs
  case h_22 T n hop =>
    have hgo : ∀ (u : Option Value), n.map a.eval = u → (∀ u', u = some u' → isMapT P T = true ∧ ∃ k, u' = .int .i64 k) → r.v = .mp ⟨id, g, none⟩ → r.u = [(id, some ⟨g, g, mapSz, []⟩)] → o.wp P a x.w K Q := fun u hu hh hv hru => by
      obtain ⟨ρ', v', w', k1, k2, k3⟩ := aMakeMap_sound (P := P) (T := T) h g hg id hh
      exact wp_value (s := Instr.makeMap T u) (by simp only [execOp, hop, hu]) k1 (hK _ _ k2 (by rw [hru]; rfl) (fun k hk => hk.imp (fun h => h) .inl) (by rw [hv]; exact k3))
    split at hs
    · obtain rfl := Option.some.inj hs
      exact hgo none rfl (fun _ h => by cases h) rfl rfl
    · rename_i o0
      split at hs
      · rename_i k0 hv
        split at hs
        · rename_i hT
          obtain rfl := Option.some.inj hs
          have hr := hev o0 hvc
          rw [hv] at hr
          have hi := hr.int_inv
          exact hgo (some (.int .i64 k0)) (by simp [hi]) (fun u' h => by cases h; exact ⟨hT, _, rfl⟩) rfl rfl
        · cases hs
      · cases hs
  case h_23 T m0 k0 ok hop =>
    split at hs
    · rename_i q v hl
      obtain rfl := Option.some.inj hs
      obtain ⟨v', k1, k2⟩ := aLookup_sound h hl hvc.2.2 (hev m0 hvc.1) (hev k0 hvc.2.1)
      exact hval (s := Instr.lookup T (a.eval m0) (a.eval k0) ok) (by simp only [execOp, hop]) rfl k1 k2
    · cases hs
  case h_24 T m0 k0 v0 hop =>
    split at hs
    · rename_i q u hst
      obtain rfl := Option.some.inj hs
      obtain ⟨ρ', w', k1, k2⟩ := aMapUpdate_sound (P := P) h hst hvc.2.2.2 (hev m0 hvc.1) (hev k0 hvc.2.1) (hev v0 hvc.2.2.1)
      unfold Oper.wp
      simp only [execOp, hop, Sem.run_bind, k1, Result.andThen_ok, Sem.run_pure, Oper.upon]
      exact hK _ undef k2 rfl (fun k hk => .inl hk) (.any _)
    · cases hs
  case h_25 c hop => exact absurd hop (hnc c)
  case h_26 => cases hs

end Go.AM

/- One operation of a region: the calls; all together. -/
namespace Go.AM

set_option maxHeartbeats 4000000 in
theorem aMLen_sound {P : Program} {x : Cx} (h : StOk x) {T ty : TypeId} {p v : AV} {u : Value} (hs : aMLen P T x.s p = some v) (hp : Rel x p u) : ∃ v', (Builtin.len_ #[T] ty #[u]).run P x.w = .ok v' x.w ∧ Rel x v v' := by
  unfold aMLen at hs
  split at hs
  · rename_i r
    split at hs
    · rename_i hT
      split at hs
      · rename_i es hc
        obtain rfl := Option.some.inj hs
        obtain ⟨b, base, l, clock, rfl, _, _, hheap, hrows, _, _⟩ := mp_block h hc hp
        unfold isMapT at hT
        split at hT
        · rename_i kt et hu
          have hlen : l.size = es.length := by have := hrows.length; simpa using this
          refine ⟨.int .i64 es.length, ?_, .int _ _⟩
          rw [← hlen]
          simp [Builtin.len_, run_underlying' hu, MapKept.run_getObj_map hheap, goInt, Result.andThen]
        · cases hT
      · cases hs
    · cases hs
  · cases hs
theorem step_call {P : Program} {x : Cx} {e : Env} {a : Act} (h : StOk x) (he : ∀ t, Rel x (eget e t) (a.tmps.getD t undef)) {o : Oper} {orc : Option Orc} {id g : Nat} {r : Res}
    {c : Call} (hop : o.op = .call c) (hs : stepOp P orc o.op id g e x.s = some r) (hvc : r.vc) (hg : ¬ x.c g) (hg1 : ¬ x.c (g + 1)) {B : Nat} (hB : ∀ n, x.c n → n < B) {K : Act → World → Prop} {Q : Exit → Act → World → Prop}
    (hK : ∀ y u, Goes x y → y.s = r.u ++ x.s → (∀ k, y.c k → x.c k ∨ k = g ∨ k = g + 1) → Rel y r.v u → K (a.put o.dst u) y.w) : o.wp P a x.w K Q := by
  have hev := ev_rel h.gl he
  have hstay : ∀ {v u}, Rel x v u → r = ⟨r.vc, v, []⟩ → K (a.put o.dst u) x.w := fun {v u} hr hre => by
    have h1 : r.u = [] := by rw [hre]
    have h2 : r.v = v := by rw [hre]
    exact hK x u (.refl h) (by rw [h1]; rfl) (fun k hk => .inl hk) (by rw [h2]; exact hr)
  have hval : ∀ {s : Sem Value} {v vc} {u : Value}, execOp a.eval o = (do pure (.value (← s))) → r = ⟨vc, v, []⟩ → s.run P x.w = .ok u x.w → Rel x v u → o.wp P a x.w K Q := fun hx hre hr hrel =>
    wp_value hx hr (hstay hrel (by rw [hre]))
  rw [hop] at hs
  simp only [stepOp] at hs
  have hargs : ∀ i (h : i < (c.args.toList.map (ev e)).length) (h' : i < (c.args.toList.map a.eval).length), ((c.args.toList.map (ev e))[i]).1 → Rel x ((c.args.toList.map (ev e))[i]).2 ((c.args.toList.map a.eval)[i]) := fun i h h' hq => by
    simp only [List.getElem_map] at hq ⊢
    exact hev _ hq
  split at hs
  · rename_i b hcal
    have hx : ∀ (s : Sem Value), (builtin b c.argTypes o.type (c.args.map fun | .const _ => true | _ => false) (c.args.map a.eval)) = (do pure (.value (← s))) → execOp a.eval o = (do pure (.value (← s))) := fun s hs => by
      simp only [execOp, hop, resolve, hcal, pure_bind, invoke]
      exact hs
    obtain ⟨cal, ⟨al⟩, ⟨tl⟩⟩ := c
    simp only at hs hargs hx hcal
    unfold aBuiltin at hs
    split at hs
    · rename_i p hargl
      split at hs
      · rename_i T hT
        split at hs
        · rename_i y v hsl hl
          obtain rfl := Option.some.inj hs
          match al, hargl with
          | [o1], hargl =>
            simp only [List.map_cons, List.map_nil, List.cons.injEq, and_true] at hargl
            subst hargl
            subst hT
            obtain ⟨v', k1, k2⟩ := aLen_sound (P := P) (w := x.w) (ty := o.type) hsl hl (hev o1 hvc)
            exact hval (s := Builtin.len_ #[T] o.type #[a.eval o1]) (hx _ (by simp only [builtin, List.map_toArray, List.map_cons, List.map_nil])) rfl k1 k2
        · split at hs
          · rename_i v hl
            obtain rfl := Option.some.inj hs
            match al, hargl with
            | [o1], hargl =>
              simp only [List.map_cons, List.map_nil, List.cons.injEq, and_true] at hargl
              subst hargl
              subst hT
              obtain ⟨v', k1, k2⟩ := aMLen_sound (P := P) (ty := o.type) h hl (hev o1 hvc)
              exact hval (s := Builtin.len_ #[T] o.type #[a.eval o1]) (hx _ (by simp only [builtin, List.map_toArray, List.map_cons, List.map_nil])) rfl k1 k2
          · cases hs
      · cases hs
    · rename_i p q hargl
      split at hs
      · rename_i T T2 hT
        split at hs
        · rename_i vc v u hl
          obtain rfl := Option.some.inj hs
          match al, hargl with
          | [o1, o2], hargl =>
            simp only [List.map_cons, List.map_nil, List.cons.injEq, and_true] at hargl
            obtain ⟨rfl, rfl⟩ := hargl
            subst hT
            obtain ⟨y, v', k1, k2, k3, k4, k5⟩ := aAppend_sound (P := P) (ty := o.type) h hl hvc.2.2 (hev o1 hvc.1) (hev o2 hvc.2.1) hg hg1
            exact wp_value (s := Builtin.append_ #[T, T2] o.type #[a.eval o1, a.eval o2]) (hx _ (by simp only [builtin, List.map_toArray, List.map_cons, List.map_nil])) k1 (hK y v' k2 k3 k4 k5)
        · cases hs
      · cases hs
    · rename_i p q hargl
      split at hs
      · rename_i T T2 hT
        split at hs
        · rename_i vc v u hl
          obtain rfl := Option.some.inj hs
          match al, hargl with
          | [o1, o2], hargl =>
            simp only [List.map_cons, List.map_nil, List.cons.injEq, and_true] at hargl
            obtain ⟨rfl, rfl⟩ := hargl
            subst hT
            obtain ⟨w', v', k1, k2, k3⟩ := aCopy_sound (P := P) (ty := o.type) h hl hvc.2.2 (hev o1 hvc.1) (hev o2 hvc.2.1)
            exact wp_value (s := Builtin.copy_ #[T, T2] o.type #[a.eval o1, a.eval o2]) (hx _ (by simp only [builtin, List.map_toArray, List.map_cons, List.map_nil])) k1 (hK _ v' k2 rfl (fun k hk => .inl hk) k3)
        · cases hs
      · cases hs
    · split at hs
      · rename_i vc v hl
        obtain rfl := Option.some.inj hs
        obtain ⟨v', k1, k2⟩ := aMin_sound (P := P) (ts := ⟨tl⟩) (t := o.type) (us := al.map a.eval) hl hvc (by simp) hargs
        exact hval (s := Builtin.min_ ⟨tl⟩ o.type (al.map a.eval).toArray) (hx _ (by simp [builtin])) rfl k1 k2
      · cases hs
    · split at hs
      · rename_i vc v hl
        obtain rfl := Option.some.inj hs
        obtain ⟨v', k1, k2⟩ := aMax_sound (P := P) (ts := ⟨tl⟩) (t := o.type) (us := al.map a.eval) hl hvc (by simp) hargs
        exact hval (s := Builtin.max_ ⟨tl⟩ o.type (al.map a.eval).toArray) (hx _ (by simp [builtin])) rfl k1 k2
      · cases hs
    · cases hs
  · rename_i f hcal
    split at hs
    · rename_i fr rr
      split at hs
      · rename_i q v hac
        obtain rfl := Option.some.inj hs
        unfold aCall at hac
        split at hac
        · rename_i fi caps hfv
          simp only [Option.some.injEq, Prod.mk.injEq] at hac
          obtain ⟨rfl, rfl⟩ := hac
          obtain ⟨q1, q2, q3, q4, q5⟩ := hvc
          have hf := hev f q1
          rw [hfv] at hf
          obtain ⟨vs, e0, hl, hr⟩ := hf.fn_inv
          -- the arguments, and what was captured
          have hall : ∀ i, i < ((c.args.toList.map (ev e)).map (·.2) ++ caps).length → Rel x (((c.args.toList.map (ev e)).map (·.2) ++ caps).getD i .any) ((c.args.toList.map a.eval ++ vs).getD i undef) := fun i hi => by
            rw [getD_append, getD_append]
            simp only [List.length_map, List.length_append] at hi ⊢
            by_cases hlt : i < c.args.toList.length
            · rw [if_pos hlt, if_pos hlt]
              have := hargs i (by simpa using hlt) (by simpa using hlt) (allP_mem q2 _ (List.getElem_mem _))
              simpa [List.getD_eq_getElem?_getD, List.getElem?_eq_getElem hlt] using this
            · rw [if_neg hlt, if_neg hlt]
              exact hr _ (by omega)
          have hlen : (c.args.toList.map a.eval ++ vs).length = ((c.args.toList.map (ev e)).map (·.2) ++ caps).length := by simp [hl]
          have hrun : (execOp a.eval o).run P x.w = .ok (.enter fi (c.args.toList.map a.eval ++ vs).toArray) x.w := by
            simp only [execOp, hop, resolve, hcal, e0, Deferred.ofValue]
            simp only [Sem.run_bind, Sem.run_pure, Result.andThen_ok, invoke]
            rw [callFunc_enters q3]
            congr 2
            obtain ⟨_, ⟨al⟩, _⟩ := c
            simp
          unfold Oper.wp
          rw [hrun]
          simp only [Oper.upon]
          have hrel : ∃ F : Nat → Prop, GL (immF x.w F) x.w ∧ (∀ b, F b → b < x.w.heap.size) ∧ (∀ i, i < (vws fr x.s ((c.args.toList.map (ev e)).map (·.2) ++ caps)).length → RelP (immF x.w F) x.w ((vws fr x.s ((c.args.toList.map (ev e)).map (·.2) ++ caps)).getD i .any) ((c.args.toList.map a.eval ++ vs).getD i undef)) ∧
              (fr = false → ∀ b, immF x.w F b → x.imm b) ∧ (fr = false → ∀ b, F b ↔ (x.owned b ∨ x.F b)) := by
            cases fr
            · refine ⟨fun b => x.owned b ∨ x.F b, h.gl.mono fun b hb => ⟨⟨hb.1, fun ho => ho.elim hb.2.1 hb.2.2⟩, rfl⟩, fun b hb => ?_, fun i hi => ?_, fun _ b hb => ⟨hb.1, fun ho => hb.2 (.inl ho), fun ho => hb.2 (.inr ho)⟩, fun _ b => Iff.rfl⟩
              · rcases hb with ⟨π, y, base, h1, h2⟩ | hb
                · exact h.live_lt h1 h2
                · exact (h.apart b hb).1
              · simp only [vws, Bool.false_eq_true, if_false] at hi ⊢
                have h4 := q4.resolve_left (by simp)
                refine (pureA_rel (hall i hi) ?_).mono fun b hb => ⟨⟨hb.1, fun ho => ho.elim hb.2.1 hb.2.2⟩, rfl⟩
                rw [List.getD_eq_getElem?_getD, List.getElem?_eq_getElem hi]
                exact List.all_eq_true.1 h4 _ (List.getElem_mem hi)
            · refine ⟨fun _ => False, h.gl.mono fun b hb => ⟨⟨hb.1, fun e => e⟩, rfl⟩, fun b hb => hb.elim, fun i hi => ?_, by simp, by simp⟩
              simp only [vws, if_true] at hi ⊢
              rw [List.length_map] at hi
              rw [getD_map_vw (vw x.s 5) _ _ .any _ hi]
              exact vw_sound h (fun b hb _ => ⟨hb, fun e => e⟩) 5 _ _ (hall i hi)
          obtain ⟨F, hFgl, hF, hargs', himm, hFiff⟩ := hrel
          have hlen' : (c.args.toList.map a.eval ++ vs).length = (vws fr x.s ((c.args.toList.map (ev e)).map (·.2) ++ caps)).length := by
            rw [hlen]; unfold vws; split <;> simp
          refine (q5 x.w F _ hF hFgl hlen' hargs').mono fun e' w' he' => ?_
          obtain ⟨u, rfl, hext, hru⟩ := he'
          have hgo := h.goes_grow (s' := x.s) (c' := x.c) (fun _ _ h => h) (fun _ h => h) hext
          refine hK _ u hgo rfl (fun k hk => .inl hk) (.pure _ _ (hru.mono fun b hb => ⟨⟨hb.1, ?_, ?_⟩, rfl⟩))
          · rintro ⟨π, y, base, h1, h2⟩
            have hlt := h.live_lt h1 h2
            cases fr
            · exact hb.2 ((hFiff rfl b).2 (.inl ⟨π, y, base, h1, h2⟩))
            · simp only [if_true] at hb; exact hb.2 hlt
          · intro hFb
            have hlt := (h.apart b hFb).1
            cases fr
            · exact hb.2 ((hFiff rfl b).2 (.inr hFb))
            · simp only [if_true] at hb; exact hb.2 hlt
        · cases hac
      · cases hs
    · rename_i ids s1 res
      unfold aUpd at hs
      split at hs
      · rename_i fi caps M hfv hM
        split at hs
        · rename_i hn
          simp only [Bool.and_eq_true] at hn
          obtain rfl := Option.some.inj hs
          obtain ⟨q1, q2, q3, q4⟩ := hvc
          have hf := hev f q1
          rw [hfv] at hf
          obtain ⟨vs, e0, hl, hr⟩ := hf.fn_inv
          have hall : ∀ i, i < ((c.args.toList.map (ev e)).map (·.2) ++ caps).length → Rel x (((c.args.toList.map (ev e)).map (·.2) ++ caps).getD i .any) ((c.args.toList.map a.eval ++ vs).getD i undef) := fun i hi => by
            rw [getD_append, getD_append]
            simp only [List.length_map, List.length_append] at hi ⊢
            by_cases hlt : i < c.args.toList.length
            · rw [if_pos hlt, if_pos hlt]
              have := hargs i (by simpa using hlt) (by simpa using hlt) (allP_mem q2 _ (List.getElem_mem _))
              simpa [List.getD_eq_getElem?_getD, List.getElem?_eq_getElem hlt] using this
            · rw [if_neg hlt, if_neg hlt]
              exact hr _ (by omega)
          have hlen : (c.args.toList.map a.eval ++ vs).length = ((c.args.toList.map (ev e)).map (·.2) ++ caps).length := by simp [hl]
          have hrun : (execOp a.eval o).run P x.w = .ok (.enter fi (c.args.toList.map a.eval ++ vs).toArray) x.w := by
            simp only [execOp, hop, resolve, hcal, e0, Deferred.ofValue]
            simp only [Sem.run_bind, Sem.run_pure, Result.andThen_ok, invoke]
            rw [callFunc_enters q3]
            congr 2
            obtain ⟨_, ⟨al⟩, _⟩ := c
            simp
          unfold Oper.wp
          rw [hrun]
          simp only [Oper.upon]
          refine (aUpd_sound (id := id) h hB hg hg1 hM hn.1.1 hn.1.2 hn.2 hlen hall q4).mono fun e' w' he' => ?_
          obtain ⟨u, y, rfl, hgo, rfl, hys, hyc, hru⟩ := he'
          exact hK y u hgo hys hyc hru
        · cases hs
      · cases hs
    · cases hs
    · cases hs
  · cases hs

theorem step_sound {P : Program} {x : Cx} {e : Env} {a : Act} (h : StOk x) (he : ∀ t, Rel x (eget e t) (a.tmps.getD t undef)) {o : Oper} {orc : Option Orc} {id g : Nat} {r : Res}
    (hs : stepOp P orc o.op id g e x.s = some r) (hvc : r.vc) (hg : ¬ x.c g) (hg1 : ¬ x.c (g + 1)) {B : Nat} (hB : ∀ n, x.c n → n < B) {K : Act → World → Prop} {Q : Exit → Act → World → Prop}
    (hK : ∀ y u, Goes x y → y.s = r.u ++ x.s → (∀ k, y.c k → x.c k ∨ k = g ∨ k = g + 1) → Rel y r.v u → K (a.put o.dst u) y.w) : o.wp P a x.w K Q := by
  by_cases hc : ∃ c, o.op = .call c
  · obtain ⟨c, hop⟩ := hc
    exact step_call h he hop hs hvc hg hg1 hB hK
  · exact step_base h he hs (fun c e => hc ⟨c, e⟩) hvc hg hg1 hK

end Go.AM

/- Regions and code over the abstract state. -/
namespace Go.AM

abbrev Post := Env → Store → Nat → Prop

inductive AX where
  | normal | exit (id : Nat) | ret

structure St (x : Cx) (e : Env) (n : Nat) (a : Act) : Prop where
  ok : StOk x
  size : a.tmps.size = n
  defers : a.defers = []
  env : ∀ t, Rel x (eget e t) (a.tmps.getD t undef)

def clk (k : Nat) : Nat → Prop := fun g => g < k

/-- An abstract postcondition, over the machine's states that have come from x0. -/
def Lift (x0 : Cx) (n : Nat) (K : Post) (a : Act) (w : World) : Prop :=
  ∃ ρ e s k, K e s k ∧ Goes x0 ⟨ρ, s, clk k, w, x0.F⟩ ∧ St ⟨ρ, s, clk k, w, x0.F⟩ e n a

def LiftX (x0 : Cx) (n : Nat) (Q : AX → Post) : Exit → Act → World → Prop
  | .normal, a, w => Lift x0 n (Q .normal) a w
  | .exit id, a, w => Lift x0 n (Q (.exit id)) a w
  | .ret, a, w => Lift x0 n (Q .ret) a w
  | _, _, _ => False

/-- The code, begun in the abstract state (e, s, k), comes to an end that meets Q. -/
def AW (P : Program) (n : Nat) (c : Code) (Q : AX → Post) (e : Env) (s : Store) (k : Nat) : Prop :=
  ∀ x0 ρ a w, Goes x0 ⟨ρ, s, clk k, w, x0.F⟩ → St ⟨ρ, s, clk k, w, x0.F⟩ e n a → c.wp P (LiftX x0 n Q) a w

theorem Lift.mono {x0 : Cx} {n : Nat} {K K' : Post} (h : ∀ e s k, K e s k → K' e s k) {a : Act} {w : World} (hl : Lift x0 n K a w) : Lift x0 n K' a w := by
  obtain ⟨ρ, e, s, k, h1, h2, h3⟩ := hl
  exact ⟨ρ, e, s, k, h _ _ _ h1, h2, h3⟩
theorem LiftX.mono {x0 : Cx} {n : Nat} {Q Q' : AX → Post} (h : ∀ ex e s k, Q ex e s k → Q' ex e s k) {ex : Exit} {a : Act} {w : World} (hl : LiftX x0 n Q ex a w) : LiftX x0 n Q' ex a w := by
  cases ex <;> first | exact Lift.mono (h _) hl | exact hl

theorem AW.mono {P : Program} {n : Nat} {c : Code} {Q Q' : AX → Post} {e : Env} {s : Store} {k : Nat} (h : AW P n c Q e s k) (hq : ∀ ex e s k, Q ex e s k → Q' ex e s k) : AW P n c Q' e s k :=
  fun x0 ρ a w hg hs => wp_mono (h x0 ρ a w hg hs) fun _ _ _ hl => hl.mono hq

def thenQ (K : Post) (Q : AX → Post) : AX → Post
  | .normal => K
  | ex => Q ex

theorem AW.seq {P : Program} {n : Nat} {c d : Code} {Q : AX → Post} {e : Env} {s : Store} {k : Nat} (h : ∀ K : Post, (∀ e s k, AW P n d Q e s k → K e s k) → AW P n c (thenQ K Q) e s k) : AW P n (.seq c d) Q e s k := by
  intro x0 ρ a w hg hs
  have h1 := h (fun e s k => AW P n d Q e s k) (fun _ _ _ h => h) x0 ρ a w hg hs
  refine wp_seq (wp_mono h1 fun ex a' w' hl => ?_)
  cases ex with
  | normal =>
    obtain ⟨ρ', e', s', k', g1, g2, g3⟩ := hl
    exact g1 x0 ρ' a' w' g2 g3
  | _ => exact hl

theorem AW.skip {P : Program} {n : Nat} {Q : AX → Post} {e : Env} {s : Store} {k : Nat} (h : Q .normal e s k) : AW P n .skip Q e s k :=
  fun _ ρ _ _ hg hs => wp_skip ⟨ρ, e, s, k, h, hg, hs⟩
theorem AW.exit {P : Program} {n : Nat} {Q : AX → Post} {e : Env} {s : Store} {k : Nat} {id : Nat} (h : Q (.exit id) e s k) : AW P n (.exit id) Q e s k :=
  fun _ ρ _ _ hg hs => wp_exit ⟨ρ, e, s, k, h, hg, hs⟩
theorem AW.ret {P : Program} {n : Nat} {Q : AX → Post} {e : Env} {s : Store} {k : Nat} (h : Q .ret e s k) : AW P n .ret Q e s k :=
  fun _ ρ _ _ hg hs => wp_ret ⟨ρ, e, s, k, h, hg, hs⟩

def blockQ (id : Nat) (Q : AX → Post) : AX → Post
  | .exit id' => if id' = id then Q .normal else Q (.exit id')
  | ex => Q ex

theorem AW.block {P : Program} {n : Nat} {Q : AX → Post} {e : Env} {s : Store} {k id : Nat} {c : Code} (h : AW P n c (blockQ id Q) e s k) : AW P n (.block id c) Q e s k := by
  intro x0 ρ a w hg hs
  refine wp_block (wp_mono (h x0 ρ a w hg hs) fun ex a' w' hl => ?_)
  cases ex with
  | exit id' =>
    simp only [LiftX, blockQ] at hl
    simp only [Exit.inBlock]
    split
    · rename_i he; rw [if_pos he] at hl; exact hl
    · rename_i he; rw [if_neg he] at hl; exact hl
  | _ => exact hl

theorem AW.cond {P : Program} {n : Nat} {Q : AX → Post} {e : Env} {s : Store} {k : Nat} {o : Operand} {c d : Code} {b : Bool} (he : (ev e o).2 = .bool b) (hp : (ev e o).1) (ht : b = true → AW P n c Q e s k) (hf : b = false → AW P n d Q e s k) :
    AW P n (.cond o c d) Q e s k := by
  intro x0 ρ a w hg hs
  have h1 := ev_rel hs.ok.gl hs.env o hp
  rw [he] at h1
  exact wp_cond_split h1.bool_inv (fun hb => ht hb x0 ρ a w hg hs) (fun hb => hf hb x0 ρ a w hg hs)

theorem AW.loop {P : Program} {n : Nat} {Q : AX → Post} {e : Env} {s : Store} {k : Nat} {c : Code} (I : Nat → Post) (m : Nat) (h0 : I m e s k)
    (hr : ∀ m e s k, I m e s k → AW P n c (thenQ (fun e' s' k' => ∃ m', m' < m ∧ I m' e' s' k') Q) e s k) : AW P n (.loop c) Q e s k := by
  intro x0 ρ a w hg hs
  -- the measure: the least m that fits
  have key : ∀ a w, (∃ m, Lift x0 n (I m) a w) → ∃ m, Lift x0 n (I m) a w ∧ ∀ m', Lift x0 n (I m') a w → m ≤ m' := fun a w ⟨m, hm⟩ => by
    induction m using Nat.strongRecOn with
    | _ m ih =>
      by_cases hlt : ∃ m', m' < m ∧ Lift x0 n (I m') a w
      · obtain ⟨m', h1, h2⟩ := hlt; exact ih m' h1 h2
      · exact ⟨m, hm, fun m' hm' => Nat.le_of_not_lt fun h => hlt ⟨m', h, hm'⟩⟩
  classical
  let μ : Act → World → Nat := fun a w => if h : ∃ m, Lift x0 n (I m) a w then Classical.choose (key a w h) else 0
  have hμ : ∀ a w, (∃ m, Lift x0 n (I m) a w) → Lift x0 n (I (μ a w)) a w := fun a w h => by
    simp only [μ, dif_pos h]; exact (Classical.choose_spec (key a w h)).1
  have hμle : ∀ a w m, Lift x0 n (I m) a w → μ a w ≤ m := fun a w m hm => by
    have h : ∃ m, Lift x0 n (I m) a w := ⟨m, hm⟩
    simp only [μ, dif_pos h]; exact (Classical.choose_spec (key a w h)).2 m hm
  refine wp_loop (fun a w => ∃ m, Lift x0 n (I m) a w) μ ⟨m, ρ, e, s, k, h0, hg, hs⟩ fun a w hI => ?_
  obtain ⟨ρ', e', s', k', g1, g2, g3⟩ := hμ a w hI
  refine wp_mono (hr _ e' s' k' g1 x0 ρ' a w g2 g3) fun ex a' w' hl => ?_
  cases ex with
  | normal =>
    obtain ⟨ρ2, e2, s2, k2, ⟨m', hlt, hI'⟩, c2, c3⟩ := hl
    have hl' : Lift x0 n (I m') a' w' := ⟨ρ2, e2, s2, k2, hI', c2, c3⟩
    exact ⟨⟨m', hl'⟩, Nat.lt_of_le_of_lt (hμle _ _ _ hl') hlt⟩
  | _ => exact hl

/-- The state may be seen with less: slots and roots that are not named are forgotten. -/
theorem AW.forget {P : Program} {n : Nat} {c : Code} {Q : AX → Post} {e e' : Env} {s s' : Store} {k k' : Nat} (h : AW P n c Q e' s' k') (he : ∀ t, eget e' t = .any ∨ eget e' t = eget e t) (hs : ∀ id R, sget s' id = some R → sget s id = some R) (hk : k ≤ k') : AW P n c Q e s k := by
  intro x0 ρ a w hg hst
  have hgo := hst.ok.goes_grow (s' := s') (c' := clk k') hs (fun g hg => Nat.lt_of_lt_of_le hg hk) (.refl _ _)
  refine h x0 ρ a w (hg.trans hgo) ⟨hgo.ok, hst.size, hst.defers, fun t => ?_⟩
  rcases he t with h1 | h1
  · rw [h1]; exact .any _
  · rw [h1]; exact (hst.env t).mono hgo.le

end Go.AM

/- Regions: their operations in the order of the text. -/
namespace Go.AM

def setE (dst : Option Nat) (v : AV) (e : Env) : Env :=
  match dst with
  | some d => (d, v) :: e
  | none => e
def dstOk (n : Nat) : Option Nat → Prop
  | some d => d < n
  | none => True
def yieldA (all : List Oper) (e : Env) (j : Nat) : Prop × AV :=
  match all[j]? with
  | some o => match o.dst with
    | some d => strip (eget e d)
    | none => (True, .any)
  | none => (True, .any)

def arun (P : Program) (n base : Nat) (orc : Nat → Option Orc) (all : List Oper) : List Oper → Nat → Env → Store → Nat → Post → Prop
  | [], _, e, s, k, K => K e s k
  | o :: rest, i, e, s, k, K =>
    match stepOp P (orc i) o.op (base + o.dst.getD 0) k e s with
    | none => False
    | some r => match o.guard with
      | none => r.vc ∧ dstOk n o.dst ∧ arun P n base orc all rest (i + 1) (setE o.dst r.v e) (r.u ++ s) (k + 2) K
      | some (j, want) => match yieldA all e j with
        | (q, .bool b) => match r.u with
          | [] => ((q ∧ b = want) → r.vc) ∧ dstOk n o.dst ∧ arun P n base orc all rest (i + 1) (setE o.dst (.opt (q ∧ b = want) r.v) e) s (k + 2) K
          | c :: u => q ∧ b = want ∧ r.vc ∧ dstOk n o.dst ∧ arun P n base orc all rest (i + 1) (setE o.dst r.v e) (c :: u ++ s) (k + 2) K
        | _ => False

theorem put_env {x y : Cx} {e : Env} {n : Nat} {a : Act} (hle : x.le y) (h : St x e n a) (hok : StOk y) {dst : Option Nat} {v : AV} {u : Value} (hd : dstOk n dst) (hr : Rel y v u) : St y (setE dst v e) n (a.put dst u) := by
  cases dst with
  | none => exact ⟨hok, h.size, h.defers, fun t => (h.env t).mono hle⟩
  | some d =>
    refine ⟨hok, by simp [Act.put, h.size], h.defers, fun t => ?_⟩
    simp only [setE, eget_cons, Act.put]
    by_cases ht : d = t
    · subst ht
      have hd' : d < a.tmps.size := by rw [h.size]; exact hd
      rw [if_pos rfl]
      simpa [Array.getD, hd'] using hr
    · rw [if_neg ht]
      have := (h.env t).mono hle
      simpa [Array.getElem?_setIfInBounds_ne ht] using this

theorem yielded_of {x : Cx} {e : Env} {n : Nat} {a : Act} (h : St x e n a) {all : List Oper} {j : Nat} {q : Prop} {b : Bool} (hy : yieldA all e j = (q, .bool b)) (hq : q) : yielded all.toArray a.tmps j = some b := by
  unfold yieldA at hy
  unfold yielded
  simp only [List.getElem?_toArray]
  split at hy
  · rename_i o ho
    split at hy
    · rename_i d hd
      have hr := strip_rel (h.env d) (by rw [hy]; exact hq)
      rw [hy] at hr
      have hr := hr.bool_inv
      simp only [ho, Option.bind_some, hd]
      have : a.tmps[d]? = some (.bool b) := by
        cases e1 : a.tmps[d]? with
        | none => simp [e1, undef] at hr
        | some v => simp [e1] at hr; rw [hr]
      rw [this]
    · simp only [Prod.mk.injEq] at hy; cases hy.2
  · simp only [Prod.mk.injEq] at hy; cases hy.2

theorem yielded_not {x : Cx} {e : Env} {n : Nat} {a : Act} (h : St x e n a) {all : List Oper} {j : Nat} {q : Prop} {b : Bool} (hy : yieldA all e j = (q, .bool b)) (hq : ¬ q) : yielded all.toArray a.tmps j = none := by
  unfold yieldA at hy
  unfold yielded
  simp only [List.getElem?_toArray]
  split at hy
  · rename_i o ho
    split at hy
    · rename_i d hd
      have hu : a.tmps.getD d undef = undef := by
        have he := h.env d
        generalize hv : eget e d = v at hy he
        cases v <;> simp only [strip, Prod.mk.injEq] at hy <;> (obtain ⟨hy1, hy2⟩ := hy) <;> first | (rw [← hy1] at hq; exact absurd trivial hq) | skip
        subst hy1
        cases he with
        | pure _ _ h => cases h
        | opt _ _ _ _ h' => exact h' hq
      simp only [ho, Option.bind_some, hd]
      cases e1 : a.tmps[d]? with
      | none => rfl
      | some v =>
        have : v = undef := by simpa [e1] using hu
        rw [this]; rfl
    · simp only [Prod.mk.injEq] at hy; cases hy.2
  · simp only [Prod.mk.injEq] at hy; cases hy.2

theorem clk_fresh {k : Nat} : ¬ clk k k ∧ ¬ clk k (k + 1) := ⟨by simp [clk], by simp [clk]⟩

theorem arun_sound {P : Program} {n base : Nat} {orc : Nat → Option Orc} {all : List Oper} {Q : AX → Post} : ∀ (rest : List Oper) (i : Nat) (e : Env) (s : Store) (k : Nat), arun P n base orc all rest i e s k (Q .normal) →
    ∀ x0 ρ a w, Goes x0 ⟨ρ, s, clk k, w, x0.F⟩ → St ⟨ρ, s, clk k, w, x0.F⟩ e n a → wpList P all.toArray (LiftX x0 n Q) rest a w
  | [], _, e, s, k, h, x0, ρ, a, w, hg, hs => ⟨ρ, e, s, k, h, hg, hs⟩
  | o :: rest, i, e, s, k, h, x0, ρ, a, w, hg, hs => by
    have ih := arun_sound (P := P) (n := n) (base := base) (orc := orc) (all := all) (Q := Q) rest (i + 1)
    unfold arun at h
    split at h
    · exact h.elim
    · rename_i r hr
      have hrun : ∀ (v : AV) (s' : Store), r.vc → dstOk n o.dst → (∀ y u, Rel y r.v u → Rel y v u) → s' = r.u ++ s → arun P n base orc all rest (i + 1) (setE o.dst v e) s' (k + 2) (Q .normal) → o.wp P a w (wpList P all.toArray (LiftX x0 n Q) rest) (LiftX x0 n Q) := by
        intro v s' hvc hd hrel hs' hrest
        refine step_sound (x := ⟨ρ, s, clk k, w, x0.F⟩) hs.ok hs.env hr hvc clk_fresh.1 clk_fresh.2 (B := k) (fun _ h => h) fun y u hgo hys hyc hru => ?_
        have hgo2 := hgo.ok.goes_grow (s' := y.s) (c' := clk (k + 2)) (w' := y.w) (fun _ _ h => h) (fun g hg => by
          rcases hyc g hg with h1 | h1 | h1
          · exact Nat.lt_of_lt_of_le h1 (by omega)
          · simp [clk, h1]
          · simp [clk, h1]) (.refl _ _)
        have hall := hg.trans (hgo.trans hgo2)
        have hF : y.F = x0.F := hgo.F
        rw [hs', ← hys] at hrest
        rw [hF] at hall hgo2
        exact ih _ _ _ hrest x0 y.ρ _ y.w hall (put_env ((hgo.trans hgo2).le) hs hgo2.ok hd ((hrel _ _ hru).mono hgo2.le))
      split at h
      · rename_i hgd
        obtain ⟨hvc, hd, hrest⟩ := h
        unfold wpList
        rw [if_pos (by simp [Region.wanted, hgd])]
        exact .inl (hrun r.v _ hvc hd (fun _ _ h => h) rfl hrest)
      · rename_i j want hgd
        split at h
        · rename_i q b hy
          split at h
          rotate_left
          · rename_i c u hu
            obtain ⟨hq, hb, hvc, hd, hrest⟩ := h
            have hyd := yielded_of hs hy hq
            unfold wpList
            rw [if_pos (by simp [Region.wanted, hgd, hyd, hb])]
            exact .inl (hrun r.v _ hvc hd (fun _ _ h => h) (by rw [hu]) hrest)
          rename_i hu
          obtain ⟨hvc, hd, hrest⟩ := h
          unfold wpList
          by_cases hq : q ∧ b = want
          · have hyd := yielded_of hs hy hq.1
            rw [if_pos (by simp [Region.wanted, hgd, hyd, hq.2])]
            refine .inl (hrun _ s (hvc hq) hd (fun y u hr => .opt _ _ _ (fun _ => hr) (fun hn => absurd hq hn)) (by rw [hu]; rfl) hrest)
          · have hyd : Region.wanted o (yielded all.toArray a.tmps) = false := by
              by_cases hq1 : q
              · have := yielded_of hs hy hq1
                have hne : b ≠ want := fun e => hq ⟨hq1, e⟩
                simp [Region.wanted, hgd, this, hne]
              · have := yielded_not hs hy hq1
                simp [Region.wanted, hgd, this]
            rw [if_neg (by simp [hyd])]
            have hgo2 := hs.ok.goes_grow (s' := s) (c' := clk (k + 2)) (w' := w) (fun _ _ h => h) (fun g (hg : g < k) => show g < k + 2 by omega) (.refl _ _)
            exact ih _ _ _ hrest x0 ρ _ w (hg.trans hgo2) (put_env hgo2.le hs hgo2.ok hd (.opt _ _ _ (fun h => absurd h hq) (fun _ => rfl)))
        · exact h.elim

/-- A region in the order of the text. -/
theorem AW.region {P : Program} {n id : Nat} {l : List Oper} {Q : AX → Post} {e : Env} {s : Store} {k : Nat} (base : Nat) (orc : Nat → Option Orc) (h : arun P n base orc l l 0 e s k (Q .normal)) : AW P n (.region id l.toArray false) Q e s k :=
  fun x0 ρ a w hg hs => wp_region_lit (arun_sound l 0 e s k h x0 ρ a w hg hs)

def keepE (ks : List Nat) (e : Env) : Env := ks.map fun t => (t, eget e t)
def keepS (is : List Nat) (s : Store) : Store := is.map fun i => (i, sget s i)

theorem eget_keep (e : Env) (t : Nat) : ∀ ks : List Nat, eget (keepE ks e) t = .any ∨ eget (keepE ks e) t = eget e t
  | [] => .inl rfl
  | k :: ks => by
    have ih := eget_keep e t ks
    simp only [keepE, List.map_cons, eget_cons] at ih ⊢
    by_cases h : k = t
    · subst h; right; rw [if_pos rfl]
    · rw [if_neg h]; exact ih
theorem sget_keep (s : Store) (id : Nat) (R : Root) : ∀ is : List Nat, sget (keepS is s) id = some R → sget s id = some R
  | [], h => by cases h
  | k :: is, h => by
    simp only [keepS, List.map_cons, sget_cons] at h
    by_cases hk : k = id
    · subst hk; rwa [if_pos rfl] at h
    · rw [if_neg hk] at h; exact sget_keep s id R is h

theorem Lift.keep {x0 : Cx} {n : Nat} {K : Post} (ks is : List Nat) {a : Act} {w : World} (h : Lift x0 n (fun e s k => K (keepE ks e) (keepS is s) k) a w) : Lift x0 n K a w := by
  obtain ⟨ρ, e, s, k, h1, h2, h3⟩ := h
  have hgo := h3.ok.goes_grow (s' := keepS is s) (c' := clk k) (w' := w) (fun id R => sget_keep s id R is) (fun _ h => h) (.refl _ _)
  refine ⟨ρ, _, _, k, h1, h2.trans hgo, ⟨hgo.ok, h3.size, h3.defers, fun t => ?_⟩⟩
  rcases eget_keep e t ks with h4 | h4
  · rw [h4]; exact .any _
  · rw [h4]; exact (h3.env t).mono hgo.le

/-- A region in the order of the text; behind it only the named slots and roots are kept. -/
theorem AW.regionK {P : Program} {n id : Nat} {l : List Oper} {Q : AX → Post} {e : Env} {s : Store} {k : Nat} (base : Nat) (orc : Nat → Option Orc) (ks is : List Nat)
    (h : arun P n base orc l l 0 e s k (fun e s k => Q .normal (keepE ks e) (keepS is s) k)) : AW P n (.region id l.toArray false) Q e s k := by
  have := AW.region (id := id) (Q := thenQ (fun e s k => Q .normal (keepE ks e) (keepS is s) k) Q) base orc h
  intro x0 ρ a w hg hs
  refine wp_mono (this x0 ρ a w hg hs) fun ex a' w' hl => ?_
  cases ex with
  | normal => exact Lift.keep ks is hl
  | _ => exact hl

end Go.AM

/- A function's contract out of its body. -/
namespace Go.AM

def argsE : Nat → List AV → Env
  | _, [] => []
  | i, v :: vs => (i, v) :: argsE (i + 1) vs

theorem eget_argsE : ∀ (vs : List AV) (i t : Nat), eget (argsE i vs) t = if i ≤ t then vs.getD (t - i) .any else .any
  | [], i, t => by simp [argsE, eget]
  | v :: vs, i, t => by
    simp only [argsE, eget_cons]
    by_cases h : i = t
    · subst h; simp
    · rw [if_neg h, eget_argsE vs (i + 1) t]
      by_cases h1 : i + 1 ≤ t
      · rw [if_pos h1, if_pos (by omega), show t - i = (t - (i + 1)) + 1 by omega]; simp
      · rw [if_neg h1, if_neg (by omega)]

def resVal (P : Program) (e : Env) (s : Store) : ResultVar → Option (Prop × AV)
  | .tmp t => some (strip (eget e t))
  | .cell t T => match aLoad P T s (strip (eget e t)).2 with
    | some (q, v) => some ((strip (eget e t)).1 ∧ q, v)
    | none => none
def resVals (P : Program) (e : Env) (s : Store) : List ResultVar → Option (Prop × List AV)
  | [] => some (True, [])
  | r :: rs => match resVal P e s r, resVals P e s rs with
    | some (q, v), some (q', vs) => some (q ∧ q', v :: vs)
    | _, _ => none
/-- The results, in the state in which the function returns. -/
def resOk (P : Program) (rs : List ResultVar) (e : Env) (s : Store) (K : AV → Prop) : Prop :=
  match resVals P e s rs with
  | some (q, [v]) => q ∧ K v
  | some (q, vs) => q ∧ K (.tup vs)
  | none => False

def resSem (tmps : Array Value) : ResultVar → Sem Value
  | .tmp t => pure (tmps.getD t undef)
  | .cell t T => do loadVar T (← asAddr (tmps.getD t undef))
theorem results_eq (fn : Func) (tmps : Array Value) : results fn tmps = (do
    let vs ← fn.results.mapM (resSem tmps)
    pure (if h : vs.size = 1 then vs[0] else .tuple vs)) := by
  unfold results
  congr 1

theorem resVal_sound {P : Program} {x : Cx} {e : Env} {n : Nat} {a : Act} (h : St x e n a) {r : ResultVar} {q : Prop} {v : AV} (hr : resVal P e x.s r = some (q, v)) (hq : q) :
    ∃ u, (resSem a.tmps r).run P x.w = .ok u x.w ∧ Rel x v u := by
  unfold resVal at hr
  split at hr
  · rename_i t
    simp only [Option.some.injEq] at hr
    refine ⟨a.tmps.getD t undef, rfl, ?_⟩
    have := strip_rel (h.env t) (by rw [hr]; exact hq)
    rw [hr] at this; exact this
  · rename_i t T
    split at hr
    · rename_i q' v' hl
      simp only [Option.some.injEq, Prod.mk.injEq] at hr
      obtain ⟨rfl, rfl⟩ := hr
      obtain ⟨u, k1, k2⟩ := aLoad_sound (P := P) h.ok hl hq.2 (strip_rel (h.env t) hq.1)
      refine ⟨u, ?_, k2⟩
      have hp : ∃ ad, a.tmps.getD t undef = .pointer (some ad) := by
        generalize hgd : a.tmps.getD t undef = uu at k1
        simp only [Instr.loadAt] at k1
        cases uu <;> first | (simp [Instr.sureAddr] at k1; done) | skip
        rename_i ad
        cases ad with
        | none => simp [Instr.sureAddr] at k1
        | some ad => exact ⟨ad, rfl⟩
      obtain ⟨ad, e0⟩ := hp
      rw [e0] at k1
      simp only [resSem, e0]
      simpa [resSem, Instr.loadAt, Instr.sureAddr, asAddr] using k1
    · cases hr

theorem resVals_sound {P : Program} {x : Cx} {e : Env} {n : Nat} {a : Act} (h : St x e n a) : ∀ (rs : List ResultVar) (q : Prop) (vs : List AV), resVals P e x.s rs = some (q, vs) → q →
    ∃ us : List Value, (rs.mapM (resSem a.tmps)).run P x.w = .ok us x.w ∧ vs.length = us.length ∧ ∀ i, i < vs.length → Rel x (vs.getD i .any) (us.getD i undef)
  | [], q, vs, hr, hq => by
    simp only [resVals, Option.some.injEq, Prod.mk.injEq] at hr
    obtain ⟨rfl, rfl⟩ := hr
    exact ⟨[], by simp, rfl, by simp⟩
  | r :: rs, q, vs, hr, hq => by
    unfold resVals at hr
    split at hr
    · rename_i q1 v1 q2 vs2 h1 h2
      simp only [Option.some.injEq, Prod.mk.injEq] at hr
      obtain ⟨rfl, rfl⟩ := hr
      obtain ⟨u, k1, k2⟩ := resVal_sound h h1 hq.1
      obtain ⟨us, j1, j2, j3⟩ := resVals_sound h rs _ _ h2 hq.2
      refine ⟨u :: us, ?_, by simp [j2], fun i hi => ?_⟩
      · simp only [List.mapM_cons, Sem.run_bind, k1, Result.andThen_ok, j1, Sem.run_pure]
      · cases i with
        | zero => simpa using k2
        | succ i => simpa using j3 i (by simpa using hi)
    · cases hr

theorem resOk_sound {P : Program} {x : Cx} {e : Env} {n : Nat} {a : Act} (h : St x e n a) {fn : Func} {K : AV → Prop} (hr : resOk P fn.results.toList e x.s K) : ∃ v u, K v ∧ (results fn a.tmps).run P x.w = .ok u x.w ∧ Rel x v u := by
  have key : ∀ q vs, resVals P e x.s fn.results.toList = some (q, vs) → q → ∃ u, (results fn a.tmps).run P x.w = .ok u x.w ∧ Rel x (match vs with | [v] => v | vs => .tup vs) u := fun q vs h1 hq => by
    obtain ⟨us, k1, k2, k3⟩ := resVals_sound h _ _ _ h1 hq
    refine ⟨if h : us.toArray.size = 1 then us.toArray[0] else .tuple us.toArray, ?_, ?_⟩
    · rw [results_eq, Array.mapM_eq_mapM_toList]
      simp only [Sem.run_bind, Sem.run_map, k1, Result.andThen_ok]
      rfl
    · match vs, us, k2, k3 with
      | [v], [u], _, k3 => simpa using k3 0 (by simp)
      | [], [], _, k3 => exact .tup [] [] rfl (by simp)
      | v1 :: v2 :: vs, u1 :: u2 :: us, k2, k3 =>
        rw [dif_neg (by simp)]
        exact .tup _ _ k2 k3
  unfold resOk at hr
  split at hr
  · rename_i q v h1
    obtain ⟨u, k1, k2⟩ := key _ _ h1 hr.1
    exact ⟨v, u, hr.2, k1, k2⟩
  · rename_i q vs hne h1
    obtain ⟨u, k1, k2⟩ := key _ _ h1 hr.1
    refine ⟨_, u, hr.2, k1, ?_⟩
    split at k2
    · rename_i v; exact absurd rfl (hne v)
    · exact k2
  · exact hr.elim

def retQ (P : Program) (rs : List ResultVar) (K : AV → Store → Nat → Prop) : AX → Post
  | .normal => fun e s k => resOk P rs e s fun v => K v s k
  | .ret => fun e s k => resOk P rs e s fun v => K v s k
  | .exit _ => fun _ _ _ => False

def wfF (w : World) (F : Nat → Prop) : Prop := ∀ b, F b → b < w.heap.size

theorem start_ok {w : World} {F : Nat → Prop} (hF : wfF w F) (hgl : GL (immF w F) w) : StOk ⟨fun _ => none, [], clk 0, w, F⟩ := by
  have hno : ∀ π y, ¬ pcontent [] π = some y := fun π y h => by simp [pcontent, sget] at h
  exact ⟨fun π sz es b base h => absurd h (hno _ _), fun π sz es h => absurd h (hno _ _), fun π π' y y' b b1 b2 h => absurd h (hno _ _), fun id R h => by simp [sget] at h, fun π sz es h => absurd h (hno _ _),
    fun b hb => ⟨hF b hb, fun ⟨π, y, base, h1, _⟩ => hno _ _ h1⟩, hgl.mono fun b hb => ⟨⟨hb.1, fun ⟨π, y, base, h1, _⟩ => hno _ _ h1, hb.2⟩, rfl⟩⟩

theorem Reads.of_body {P : Program} {f : FuncId} {fn : Func} {c : Code} {args : List AV} {r : AV} {n : Nat} {rs : List ResultVar} (hf : P.funcs[f]? = some fn) (hb : fn.body = some c) (hm : fn.ntmps = n) (hrs : fn.results.toList = rs) (hn : args.length ≤ n)
    (h : AW P n c (retQ P rs fun v s _ => vw s 5 v = r) (argsE 0 args) [] 0) : Reads P f false args r := by
  subst hm; subst hrs
  intro w F us hF hgl hl hr
  refine calls_of_wp hf hb ?_
  have hst : St ⟨fun _ => none, [], clk 0, w, F⟩ (argsE 0 args) fn.ntmps { tmps := us.toArray ++ Array.replicate (fn.ntmps - us.toArray.size) undef, defers := [] } := by
    refine ⟨start_ok hF hgl, by simp; omega, rfl, fun t => ?_⟩
    rw [eget_argsE]
    simp only [Nat.zero_le, if_true, Nat.sub_zero]
    by_cases ht : t < args.length
    · have := hr t ht
      have e : (us.toArray ++ Array.replicate (fn.ntmps - us.toArray.size) undef).getD t undef = us.getD t undef := by
        have : t < us.length := by omega
        simp [Array.getElem?_append, this]
      rw [e]
      exact .pure _ _ (this.mono fun b hb => ⟨⟨hb.1, fun ⟨π, y, base, h1, _⟩ => by simp [pcontent, sget] at h1, hb.2⟩, rfl⟩)
    · rw [getD_out (by omega)]; exact .any _
  have := h ⟨fun _ => none, [], clk 0, w, F⟩ (fun _ => none) _ w (.refl hst.ok) hst
  refine wp_mono this fun ex a' w' hl => ?_
  have fin : Lift ⟨fun _ => none, [], clk 0, w, F⟩ fn.ntmps (fun e s k => resOk P fn.results.toList e s fun v => vw s 5 v = r) a' w' →
      a'.defers = [] ∧ ∃ v, (results fn a'.tmps).run P w' = .ok v w' ∧ ∃ u, Ending.returned v = .returned u ∧ Ext (fun _ => False) w w' ∧ RelP (immF w' (if false then (fun b => b < w.heap.size) else F)) w' r u := fun hl => by
    obtain ⟨ρ, e, s, k, h1, h2, h3⟩ := hl
    obtain ⟨v, u, k1, k2, k3⟩ := resOk_sound h3 h1
    refine ⟨h3.defers, u, k2, u, rfl, ⟨h2.ext.os, h2.ext.tape, h2.ext.output, h2.ext.size, fun b hb _ => h2.ext.block b hb fun ⟨π, y, base, e1, _⟩ => by simp [pcontent, sget] at e1, h2.ext.drawn⟩, ?_⟩
    have := vw_sound h3.ok (imm0 := immF w' F) (fun b hb hF => ⟨hb, hF⟩) 5 v u k3
    rw [k1] at this
    exact this
  cases ex with
  | normal => exact fin hl
  | ret => exact fin hl
  | exit id =>
    obtain ⟨_, _, _, _, h1, _⟩ := hl
    exact h1.elim
  | _ => exact hl.elim

/-- A result without memory. -/
def flat : AV → Bool
  | .int _ _ | .bool _ | .str _ | .nilp | .any => true
  | .tup vs => vs.all fun v => match v with
    | .int _ _ | .bool _ | .str _ | .nilp | .any => true
    | _ => false
  | .agg vs => vs.all fun v => match v with
    | .int _ _ | .bool _ | .str _ | .nilp | .any => true
    | _ => false
  | _ => false

theorem flat_rel {imm imm' : Nat → Prop} {w : World} {v : AV} {u : Value} (hf : flat v = true) (h : RelP imm w v u) : RelP imm' w v u := by
  have one : ∀ (v : AV) (u : Value), (match v with | .int _ _ | .bool _ | .str _ | .nilp | .any => true | _ => false) = true → RelP imm w v u → RelP imm' w v u := fun v u hv h => by
    cases h <;> first | (simp at hv; done) | constructor
  have all : ∀ (cs : List AV) (vs : List Value), (cs.all fun v => match v with | .int _ _ | .bool _ | .str _ | .nilp | .any => true | _ => false) = true → (∀ i, i < cs.length → RelP imm w (cs.getD i .any) (vs.getD i undef)) → ∀ i, i < cs.length → RelP imm' w (cs.getD i .any) (vs.getD i undef) := fun cs vs hc hr i hi => by
    refine one _ _ ?_ (hr i hi)
    rw [List.getD_eq_getElem?_getD, List.getElem?_eq_getElem hi]
    exact List.all_eq_true.1 hc _ (List.getElem_mem hi)
  cases h with
  | tup cs vs hl hr => exact .tup _ _ hl (all cs vs hf hr)
  | agg cs vs hl hr => exact .agg _ _ hl (all cs vs hf hr)
  | int | bool | str | nilp | any => constructor
  | _ => simp [flat] at hf

theorem Reads.flat {P : Program} {f : FuncId} {args : List AV} {r : AV} (h : Reads P f false args r) (hf : flat r = true) : Reads P f true args r := by
  intro w F us hF hgl hl hr
  refine (h w F us hF hgl hl hr).mono fun e w' ⟨u, h1, h2, h3⟩ => ⟨u, h1, h2, flat_rel hf h3⟩

end Go.AM

/- What an operation's result hangs on. -/
namespace Go.AM

def idA : AV → List Nat
  | .sl r _ _ _ => [r.id]
  | .ptr r _ _ => [r.id]
  | .mp r => [r.id]
  | .opt _ (.mp r) => [r.id]
  | .opt _ (.sl r _ _ _) => [r.id]
  | .opt _ (.ptr r _ _) => [r.id]
  | _ => []

/-- The roots that an operation may look at; none: any. -/
def rdsOp (op : Op) (orc : Option Orc) (e : Env) : Option (List Nat) :=
  match op with
  | .call c => match c.callee with
    | .value _ => match orc with
      | some (.reads false _) => some []
      | some (.upd ids _ _) => some ids
      | some .skip => some []
      | _ => none
    | _ => some (c.args.toList.flatMap fun x => idA (ev e x).2)
  | .lookup _ m _ _ => some (idA (ev e m).2)
  | .mapUpdate _ m _ _ => some (idA (ev e m).2)
  | .load _ a => some (idA (ev e a).2)
  | .store _ a _ => some (idA (ev e a).2)
  | .indexAddr _ x _ => some (idA (ev e x).2)
  | .slice _ x _ _ _ => some (idA (ev e x).2)
  | _ => some []

def agreeS (R : Option (List Nat)) (s s' : Store) : Prop :=
  match R with
  | some l => ∀ id ∈ l, sget s id = sget s' id
  | none => ∀ id, sget s id = sget s' id

theorem vw_congr {s s' : Store} (h : ∀ id, sget s id = sget s' id) : ∀ (d : Nat) (v : AV), vw s d v = vw s' d v
  | 0, v => by cases v <;> rfl
  | d + 1, v => by
    have hf : vw s d = vw s' d := funext fun v => vw_congr h d v
    have hc : ∀ r : Ref, content s r = content s' r := fun r => content_congr (h r.id)
    cases v <;> simp only [vw, hf, hc]

theorem setCu_congr {s s' : Store} {r : Ref} (es : List (List AV)) (h : sget s r.id = sget s' r.id) : setCu s r es = setCu s' r es := by
  unfold setCu; rw [h]

theorem aLoad_congr {P : Program} {T : TypeId} {s s' : Store} {v : AV} (hs : ∀ id ∈ idA v, sget s id = sget s' id) : aLoad P T s v = aLoad P T s' v := by
  cases v <;> simp only [aLoad]
  rename_i r i o
  have := hs r.id (by simp [idA])
  rw [content_congr this, this]

theorem aStore_congr {P : Program} {T : TypeId} {s s' : Store} {v x : AV} (hs : ∀ id ∈ idA v, sget s id = sget s' id) : aStore P T s x v = aStore P T s' x v := by
  cases v <;> simp only [aStore]
  rename_i r i o
  have := hs r.id (by simp [idA])
  rw [content_congr this]
  simp only [setCu_congr _ this]

theorem aSlice_congr {P : Program} {T : TypeId} {s s' : Store} {v : AV} {a b c : Option (Prop × AV)} (hs : ∀ id ∈ idA v, sget s id = sget s' id) : aSlice P T s v a b c = aSlice P T s' v a b c := by
  cases v <;> simp only [aSlice]
  rename_i r off len kc
  rw [content_congr (hs r.id (by simp [idA]))]

theorem aIndexAddr_congr {P : Program} {T : TypeId} {s s' : Store} {v j : AV} (hs : ∀ id ∈ idA v, sget s id = sget s' id) : aIndexAddr P T s v j = aIndexAddr P T s' v j := by
  cases j <;> simp only [aIndexAddr]
  cases v <;> simp only
  rename_i r off len kc
  rw [content_congr (hs r.id (by simp [idA]))]

theorem srcOf_congr {s s' : Store} {sz : Nat} {v : AV} (hv : ∀ id ∈ idA v, sget s id = sget s' id) : srcOf s sz v = srcOf s' sz v := by
  cases v <;> simp only [srcOf]
  rename_i r off len kc
  rw [content_congr (hv r.id (by simp [idA]))]

theorem aAppend_congr {P : Program} {T T2 : TypeId} {s s' : Store} {p q : AV} {id g : Nat} (h1 : ∀ id ∈ idA p, sget s id = sget s' id) (h2 : ∀ id ∈ idA q, sget s id = sget s' id) : aAppend P T T2 s p q id g = aAppend P T T2 s' p q id g := by
  unfold aAppend
  simp only [srcOf_congr h2]
  cases p <;> simp only
  rename_i r off len kc
  have h3 := h1 r.id (by simp [idA])
  simp only [content_congr h3, h3]

theorem aCopy_congr {P : Program} {T T2 : TypeId} {s s' : Store} {p q : AV} (h1 : ∀ id ∈ idA p, sget s id = sget s' id) (h2 : ∀ id ∈ idA q, sget s id = sget s' id) : aCopy P T T2 s p q = aCopy P T T2 s' p q := by
  unfold aCopy
  simp only [srcOf_congr h2]
  cases p <;> simp only
  rename_i r off len kc
  have h3 := h1 r.id (by simp [idA])
  simp only [content_congr h3, setCu_congr _ h3]

theorem aMLen_congr {P : Program} {T : TypeId} {s s' : Store} {p : AV} (h : ∀ id ∈ idA p, sget s id = sget s' id) : aMLen P T s p = aMLen P T s' p := by
  unfold aMLen
  cases p <;> simp only
  rename_i r
  simp only [mcontent_congr (h r.id (by simp [idA]))]
theorem aBuiltin_congr {P : Program} {b : Builtin} {ts : Array TypeId} {s s' : Store} {l : List (Prop × AV)} {id g : Nat} (h : ∀ p ∈ l, ∀ id ∈ idA p.2, sget s id = sget s' id) : aBuiltin P b ts s l id g = aBuiltin P b ts s' l id g := by
  unfold aBuiltin
  split
  · rename_i p
    have h1 := h p (by simp)
    have h2 := fun T => aMLen_congr (P := P) (T := T) h1
    simp only [h2]
  · rename_i p q
    have h1 := h p (by simp)
    have h2 := h q (by simp)
    simp only [aAppend_congr h1 h2]
  · rename_i p q
    have h1 := h p (by simp)
    have h2 := h q (by simp)
    simp only [aCopy_congr h1 h2]
  · rfl
  · rfl
  · rfl

theorem aLookup_congr {P : Program} {T : TypeId} {s s' : Store} {m k : AV} {ok : Bool} (hs : ∀ id ∈ idA m, sget s id = sget s' id) : aLookup P T s m k ok = aLookup P T s' m k ok := by
  unfold aLookup
  rcases P.underlying T with _ | d
  · rfl
  cases d <;> try rfl
  cases m <;> try rfl
  rename_i r
  simp only [mcontent_congr (hs r.id (by simp [idA]))]
theorem aMapUpdate_congr {P : Program} {T : TypeId} {s s' : Store} {m k v : AV} (hs : ∀ id ∈ idA m, sget s id = sget s' id) : aMapUpdate P T s m k v = aMapUpdate P T s' m k v := by
  unfold aMapUpdate
  rcases P.underlying T with _ | d
  · rfl
  cases d <;> try rfl
  cases m <;> try rfl
  rename_i r
  have h := hs r.id (by simp [idA])
  simp only [mcontent_congr h, h]

theorem entryM_congr {s s' : Store} : ∀ {ids : List Nat} {j : Nat}, (∀ id ∈ ids, sget s id = sget s' id) → entryM s j ids = entryM s' j ids
  | [], _, _ => rfl
  | id :: ids, j, h => by
    unfold entryM
    rw [h id (by simp), entryM_congr (ids := ids) (j := j + 1) fun i hi => h i (by simp [hi])]
theorem aUpd_congr {P : Program} {s s' : Store} {id g : Nat} {ids : List Nat} {s1 : Nat → Store} {res : Nat → AV} {fv : Prop × AV} {l : List (Prop × AV)} (h : ∀ id ∈ ids, sget s id = sget s' id) :
    aUpd P s id g ids s1 res fv l = aUpd P s' id g ids s1 res fv l := by
  unfold aUpd; rw [entryM_congr h]

theorem aCall_congr {P : Program} {s s' : Store} {fr : Bool} {r : AV} {fv : Prop × AV} {l : List (Prop × AV)} (h : fr = false ∨ ∀ id, sget s id = sget s' id) : aCall P s fr r fv l = aCall P s' fr r fv l := by
  have : ∀ l, vws fr s l = vws fr s' l := fun l => by
    unfold vws
    rcases h with h | h
    · simp only [h, Bool.false_eq_true, if_false]
    · have hv : vw s 5 = vw s' 5 := funext fun v => vw_congr h 5 v
      rw [hv]
  unfold aCall
  simp only [this]
end Go.AM

/- An operation's result hangs on its operands and on the roots that they name. -/
namespace Go.AM

section
variable {P : Program} {orc : Option Orc} {id g : Nat} {e e' : Env} {s s' : Store}

def StepSame (P : Program) (orc : Option Orc) (op : Op) (id g : Nat) (e e' : Env) (s s' : Store) : Prop :=
  stepOp P orc op id g e s = stepOp P orc op id g e' s'

theorem parts_congr {parts : Array (Nat × Operand)} (h : ∀ x ∈ parts.toList.map (·.2), ev e x = ev e' x) : (parts.toList.map fun p => (p.1, ev e p.2)) = parts.toList.map fun p => (p.1, ev e' p.2) :=
  List.map_congr_left fun p hp => by rw [h p.2 (List.mem_map.2 ⟨p, hp, rfl⟩)]
theorem optE_congr {o : Option Operand} (h : ∀ x ∈ o.toArray, ev e x = ev e' x) : optE e o = optE e' o := by
  cases o with
  | none => rfl
  | some x => simp only [optE, h x (by simp)]

theorem same_call (c : Call) (he : ∀ x ∈ c.operands, ev e x = ev e' x) (hs : agreeS (rdsOp (.call c) orc e) s s') : StepSame P orc (.call c) id g e e' s s' := by
  unfold StepSame
  obtain ⟨cal, ⟨al⟩, ts⟩ := c
  have hargs : al.map (ev e) = al.map (ev e') := List.map_congr_left fun x hx => he x (by cases cal <;> simp [Call.operands, hx])
  cases cal with
  | value f =>
    have hf := he f (by simp [Call.operands])
    simp only [stepOp, hargs, hf]
    cases orc with
    | none => rfl
    | some o =>
      cases o with
      | reads fr r =>
        simp only
        rw [aCall_congr (s := s) (s' := s')]
        cases fr with
        | false => exact .inl rfl
        | true => exact .inr (by simpa only [rdsOp, agreeS] using hs)
      | upd ids s1 res =>
        simp only
        exact aUpd_congr (by simpa only [rdsOp, agreeS] using hs)
      | skip => rfl
  | invoke r m => simp only [stepOp]
  | builtin b =>
    simp only [stepOp, hargs]
    simp only [rdsOp, agreeS] at hs
    refine aBuiltin_congr fun p hp id hid => ?_
    rw [← hargs] at hp
    obtain ⟨x, hx, rfl⟩ := List.mem_map.1 hp
    exact hs id (List.mem_flatMap.2 ⟨x, hx, hid⟩)

theorem same_load (T : TypeId) (x : Operand) (he : ev e x = ev e' x) (hs : agreeS (rdsOp (.load T x) orc e) s s') : StepSame P orc (.load T x) id g e e' s s' := by
  unfold StepSame
  simp only [rdsOp, agreeS] at hs
  simp only [stepOp, ← he, aLoad_congr hs]
theorem same_store (T : TypeId) (x y : Operand) (he : ev e x = ev e' x) (he2 : ev e y = ev e' y) (hs : agreeS (rdsOp (.store T x y) orc e) s s') : StepSame P orc (.store T x y) id g e e' s s' := by
  unfold StepSame
  simp only [rdsOp, agreeS] at hs
  simp only [stepOp, ← he, ← he2, aStore_congr hs]
theorem same_slice (T : TypeId) (x : Operand) (lo hi mx : Option Operand) (he : ev e x = ev e' x) (h1 : optE e lo = optE e' lo) (h2 : optE e hi = optE e' hi) (h3 : optE e mx = optE e' mx) (hs : agreeS (rdsOp (.slice T x lo hi mx) orc e) s s') : StepSame P orc (.slice T x lo hi mx) id g e e' s s' := by
  unfold StepSame
  simp only [rdsOp, agreeS] at hs
  simp only [stepOp, ← he, ← h1, ← h2, ← h3, aSlice_congr hs]
theorem same_indexAddr (T : TypeId) (x y : Operand) (he : ev e x = ev e' x) (he2 : ev e y = ev e' y) (hs : agreeS (rdsOp (.indexAddr T x y) orc e) s s') : StepSame P orc (.indexAddr T x y) id g e e' s s' := by
  unfold StepSame
  simp only [rdsOp, agreeS] at hs
  simp only [stepOp, ← he, ← he2, aIndexAddr_congr hs]
theorem same_makeFunc (f : Fn) (first captured : Array Operand) (he : ∀ x ∈ captured, ev e x = ev e' x) : StepSame P orc (.makeFunc f first captured) id g e e' s s' := by
  unfold StepSame
  have : captured.toList.map (ev e) = captured.toList.map (ev e') := List.map_congr_left fun x hx => he x (by simpa using hx)
  have h2 : (captured.toList.map fun x => (ev e x).2) = captured.toList.map fun x => (ev e' x).2 := List.map_congr_left fun x hx => by rw [he x (by simpa using hx)]
  cases f <;> simp only [stepOp, this, h2]

theorem stepOp_congr {op : Op} (he : ∀ x ∈ op.operands, ev e x = ev e' x) (hs : agreeS (rdsOp op orc e) s s') : StepSame P orc op id g e e' s s' := by
  cases op <;> simp only [Op.operands] at he
  case call c => exact same_call c he hs
  case load T a => exact same_load T a (he a (by simp)) hs
  case store T a x => exact same_store T a x (he a (by simp)) (he x (by simp)) hs
  case slice T x lo hi mx => exact same_slice T x lo hi mx (he x (by simp)) (optE_congr fun y hy => he y (by simp at hy ⊢; simp [hy])) (optE_congr fun y hy => he y (by simp at hy ⊢; simp [hy])) (optE_congr fun y hy => he y (by simp at hy ⊢; simp [hy])) hs
  case indexAddr T x i => exact same_indexAddr T x i (he x (by simp)) (he i (by simp)) hs
  case makeFunc f first captured => exact same_makeFunc f first captured fun x hx => he x (by simp [hx])
  case lookup T m k ok =>
    unfold StepSame
    simp only [rdsOp, agreeS] at hs
    simp only [stepOp, ← he m (by simp), ← he k (by simp), aLookup_congr hs]
  case mapUpdate T m k v =>
    unfold StepSame
    simp only [rdsOp, agreeS] at hs
    simp only [stepOp, ← he m (by simp), ← he k (by simp), ← he v (by simp), aMapUpdate_congr hs]
  case makeMap T n =>
    unfold StepSame
    cases n with
    | none => rfl
    | some o => simp only [stepOp, he o (by simp)]
  all_goals unfold StepSame
  case move x => simp only [stepOp, he x (by simp)]
  case assign x => simp only [stepOp, he x (by simp)]
  case pick a b c => simp only [stepOp, he a (by simp), he b (by simp), he c (by simp)]
  case box T x => simp only [stepOp, he x (by simp)]
  case build T ps => simp only [stepOp, parts_congr (parts := ps) (fun x hx => he x (by simpa using hx))]
  case buildSlice T n ps => simp only [stepOp, parts_congr (parts := ps) (fun x hx => he x (by simpa using hx))]
  case nilCheck x => simp only [stepOp, he x (by simp)]
  case binOp o T x y T' => simp only [stepOp, he x (by simp), he y (by simp)]
  case unOp o T x => simp only [stepOp, he x (by simp)]
  case convert a b x => simp only [stepOp, he x (by simp)]
  case makeSlice T l c => simp only [stepOp, he l (by simp), he c (by simp)]
  case fieldAddr T x f => simp only [stepOp, he x (by simp)]
  case field T x f => simp only [stepOp, he x (by simp)]
  case index T x i => simp only [stepOp, he x (by simp), he i (by simp)]
  case extract t ix => simp only [stepOp, he t (by simp)]
  all_goals simp only [stepOp]

end
end Go.AM

/- Regions that draw their order: walked once, in the order of the text. -/
namespace Go.AM

structure GRes where
  vc : Prop
  v : AV
  u : Store

def isSkip : Option Orc → Bool
  | some .skip => true
  | _ => false
/-- The guard's word that the operation is not run. -/
def skipG (all : List Oper) (e : Env) (o : Oper) : Option Prop :=
  match o.guard with
  | some (j, want) => match yieldA all e j with
    | (q, .bool b) => some (¬ (q ∧ b = want))
    | _ => none
  | none => none
def gstep (P : Program) (base : Nat) (orc : Nat → Option Orc) (all : List Oper) (k0 : Nat) (i : Nat) (o : Oper) (e : Env) (s : Store) : Option GRes :=
  if isSkip (orc i) = true then match skipG all e o with
    | some p => some ⟨p, .any, []⟩
    | none => none
  else match stepOp P (orc i) o.op (base + o.dst.getD 0) (k0 + 2 * i) e s with
  | none => none
  | some r => match o.guard with
    | none => some ⟨r.vc, r.v, r.u⟩
    | some (j, want) => match yieldA all e j with
      | (q, .bool b) => if r.u.isEmpty then some ⟨(q ∧ b = want) → r.vc, .opt (q ∧ b = want) r.v, []⟩ else some ⟨q ∧ b = want ∧ r.vc, r.v, r.u⟩
      | _ => none

abbrev FP := Option (List Nat) × List Nat

def drun (P : Program) (n base : Nat) (orc : Nat → Option Orc) (all : List Oper) (k0 : Nat) : List Oper → Nat → List FP → Env → Store → (List FP → Env → Store → Prop) → Prop
  | [], _, L, e, s, K => K L e s
  | o :: rest, i, L, e, s, K => match gstep P base orc all k0 i o e s with
    | none => False
    | some r => r.vc ∧ dstOk n o.dst ∧ drun P n base orc all k0 rest (i + 1) (L ++ [(rdsOp o.op (orc i) e, r.u.map (·.1))]) (setE o.dst r.v e) (r.u ++ s) K

def disj (a b : List Nat) : Bool := a.all fun x => !b.contains x
def disjO (a : Option (List Nat)) (b : List Nat) : Bool :=
  match a with
  | some l => disj l b
  | none => b.isEmpty
def indepF (x y : FP) : Bool := disj x.2 y.2 && disjO x.1 y.2 && disjO y.1 x.2
def indepO (ops : Array Oper) (x y : Oper) : Bool := x.apart ops y

/-- What is bound to come behind i. -/
def behind (i : Nat) : List Oper → Nat → List Nat → List Nat
  | [], _, D => D
  | o :: rest, j, D => behind i rest (j + 1) (if o.after.toList.any (fun ed => Region.binds .any ed && (ed.on == i || D.contains ed.on)) then j :: D else D)

def chk1 (ops : List Oper) (L : List FP) (i : Nat) (oi : Oper) : Bool :=
  oi.after.toList.all (fun ed => !Region.binds .any ed || decide (ed.on < i)) &&
  (let D := behind i ops 0 []
   (List.range ops.length).all fun j => decide (j ≤ i) || D.contains j ||
     match ops[j]? with
     | some oj => indepO ops.toArray oi oj && indepF (L.getD i (none, [0])) (L.getD j (none, [0]))
     | none => true)
def chkA (ops : List Oper) (L : List FP) : Bool :=
  (List.range ops.length).all fun i => match ops[i]? with
    | some oi => chk1 ops L i oi
    | none => true

section
variable {P : Program} {n base : Nat} {orc : Nat → Option Orc} {ops : List Oper} {k0 : Nat}

def eqE (e e' : Env) : Prop := ∀ t, eget e t = eget e' t
def eqS (s s' : Store) : Prop := ∀ id, sget s id = sget s' id

theorem eqE.symm {e e' : Env} (h : eqE e e') : eqE e' e := fun t => (h t).symm
theorem eqS.symm {e e' : Store} (h : eqS e e') : eqS e' e := fun t => (h t).symm

theorem eget_setE (d : Option Nat) (v : AV) (e : Env) (t : Nat) : eget (setE d v e) t = if d = some t then v else eget e t := by
  cases d with
  | none => simp [setE]
  | some d => simp [setE, eget_cons]

theorem eqE.setE {e e' : Env} (h : eqE e e') (d : Option Nat) (v : AV) : eqE (setE d v e) (AM.setE d v e') := fun t => by
  rw [eget_setE, eget_setE, h t]
theorem eqS.app {s s' : Store} (h : eqS s s') (u : Store) : eqS (u ++ s) (u ++ s') := fun id => by
  rw [sget_append, sget_append, h id]

theorem ev_congr {e e' : Env} {x : Operand} (h : ∀ t, x = .tmp t → eget e t = eget e' t) : ev e x = ev e' x := by
  cases x with
  | tmp t => simp only [ev, h t rfl]
  | _ => simp only [ev]

def looks (ops : List Oper) (o : Oper) (t : Nat) : Prop := t ∈ o.looksAt ops.toArray

theorem looks_op {o : Oper} {t : Nat} (h : Operand.tmp t ∈ o.op.operands) : looks ops o t :=
  List.mem_append_left _ (List.mem_filterMap.2 ⟨.tmp t, by simpa using h, rfl⟩)

theorem yieldA_congr {e e' : Env} {o : Oper} {j : Nat} {want : Bool} (hg : o.guard = some (j, want)) (h : ∀ t, looks ops o t → eget e t = eget e' t) : yieldA ops e j = yieldA ops e' j := by
  unfold yieldA
  cases hj : ops[j]? with
  | none => rfl
  | some oj =>
    simp only
    cases hd : oj.dst with
    | none => rfl
    | some d =>
      simp only
      rw [h d (by
        refine List.mem_append_right _ ?_
        simp [hg, hj, hd])]

theorem operands_congr {e e' : Env} {o : Oper} (h : ∀ t, looks ops o t → eget e t = eget e' t) : ∀ x ∈ o.op.operands, ev e x = ev e' x := fun x hx =>
  ev_congr fun t ht => h t (looks_op (ht ▸ hx))

theorem rdsOp_congr {e e' : Env} {op : Op} {orc : Option Orc} (h : ∀ x ∈ op.operands, ev e x = ev e' x) : rdsOp op orc e = rdsOp op orc e' := by
  cases op <;> simp only [Op.operands] at h <;> simp only [rdsOp]
  case load T a => rw [h a (by simp)]
  case lookup T a b c => rw [h a (by simp)]
  case mapUpdate T a b c => rw [h a (by simp)]
  case store T a b => rw [h a (by simp)]
  case indexAddr T a b => rw [h a (by simp)]
  case slice T a b c d => rw [h a (by simp)]
  case call c =>
    have hm : ∀ x ∈ c.args.toList, idA (ev e x).2 = idA (ev e' x).2 := fun x hx => by
      rw [h x (by
        have : x ∈ c.args := by simpa using hx
        unfold Call.operands
        cases c.callee <;> simp [this])]
    have hf : (c.args.toList.flatMap fun x => idA (ev e x).2) = c.args.toList.flatMap fun x => idA (ev e' x).2 := by
      generalize c.args.toList = l at hm
      induction l with
      | nil => rfl
      | cons a l ih => simp only [List.flatMap_cons, hm a (by simp), ih (fun x hx => hm x (by simp [hx]))]
    cases c.callee <;> simp only [hf]

theorem gstep_congr {i : Nat} {o : Oper} {e e' : Env} {s s' : Store} (he : ∀ t, looks ops o t → eget e t = eget e' t) (hs : agreeS (rdsOp o.op (orc i) e) s s') :
    gstep P base orc ops k0 i o e s = gstep P base orc ops k0 i o e' s' := by
  unfold gstep
  have h0 : skipG ops e o = skipG ops e' o := by
    unfold skipG
    cases hg : o.guard with
    | none => rfl
    | some jw =>
      obtain ⟨j, want⟩ := jw
      simp only [yieldA_congr hg he]
  rw [h0]
  by_cases hsk : isSkip (orc i) = true
  · rw [if_pos hsk, if_pos hsk]
  rw [if_neg hsk, if_neg hsk]
  have h1 : stepOp P (orc i) o.op (base + o.dst.getD 0) (k0 + 2 * i) e s = stepOp P (orc i) o.op (base + o.dst.getD 0) (k0 + 2 * i) e' s' := stepOp_congr (operands_congr he) hs
  rw [h1]
  cases stepOp P (orc i) o.op (base + o.dst.getD 0) (k0 + 2 * i) e' s' with
  | none => rfl
  | some r =>
    simp only
    cases hg : o.guard with
    | none => rfl
    | some jw =>
      obtain ⟨j, want⟩ := jw
      simp only [yieldA_congr hg he]

/-- Every order of the operations that are not listed yet comes to K. -/
def Any (P : Program) (n base : Nat) (orc : Nat → Option Orc) (ops : List Oper) (k0 : Nat) (T : Nat → FP) (K : Env → Store → Prop) : Nat → Array Bool → Env → Store → Prop
  | 0, listed, e, s => Region.ready .any ops.toArray listed = [] ∧ K e s
  | fuel + 1, listed, e, s => (Region.ready .any ops.toArray listed = [] → K e s) ∧ ∀ i ∈ Region.ready .any ops.toArray listed, ∃ o r, ops[i]? = some o ∧ gstep P base orc ops k0 i o e s = some r ∧ r.vc ∧ dstOk n o.dst ∧
    rdsOp o.op (orc i) e = (T i).1 ∧ r.u.map (·.1) = (T i).2 ∧ Any P n base orc ops k0 T K fuel (listed.setIfInBounds i true) (setE o.dst r.v e) (r.u ++ s)

variable {T : Nat → FP} {K : Env → Store → Prop}

theorem agree_all {R : Option (List Nat)} {s s' : Store} (h : eqS s s') : agreeS R s s' := by
  unfold agreeS; cases R with
  | none => exact h
  | some l => exact fun id _ => h id

theorem Any.congr (hK : ∀ e e' s s', eqE e e' → eqS s s' → K e s → K e' s') : ∀ (fuel : Nat) (listed : Array Bool) (e e' : Env) (s s' : Store), eqE e e' → eqS s s' →
    Any P n base orc ops k0 T K fuel listed e s → Any P n base orc ops k0 T K fuel listed e' s'
  | 0, _, _, _, _, _, he, hs, h => ⟨h.1, hK _ _ _ _ he hs h.2⟩
  | fuel + 1, _, e, e', s, s', he, hs, h => ⟨fun h0 => hK _ _ _ _ he hs (h.1 h0), fun i hi => by
    obtain ⟨o, r, h1, h2, h3, h4, h5, h6, h7⟩ := h.2 i hi
    exact ⟨o, r, h1, by rw [← h2]; exact (gstep_congr (fun t _ => he t) (agree_all hs)).symm, h3, h4, by rw [← h5]; exact (rdsOp_congr (operands_congr (ops := ops) fun t _ => he t)).symm, h6,
      Any.congr hK fuel _ _ _ _ _ (he.setE _ _) (hs.app _) h7⟩⟩

theorem disj_spec {a b : List Nat} (h : disj a b = true) : ∀ x ∈ a, x ∉ b := fun x hx hb => by
  have := List.all_eq_true.1 h x hx
  simp [hb] at this

theorem agree_put {R : Option (List Nat)} {s u : Store} (h : disjO R (u.map (·.1)) = true) : agreeS R s (u ++ s) := by
  unfold agreeS
  cases R with
  | none =>
    simp only [disjO] at h
    cases u with
    | nil => exact fun _ => rfl
    | cons => simp at h
  | some l => exact fun id hid => by rw [sget_append, if_neg (disj_spec h id hid)]

theorem Any.first (hK : ∀ e e' s s', eqE e e' → eqS s s' → K e s → K e' s') {i : Nat} {oi : Oper} (hi : ops[i]? = some oi) {D : List Nat}
    (hD : ∀ j ∈ D, ∃ o, ops[j]? = some o ∧ ∃ ed ∈ o.after, Region.binds .any ed = true ∧ (ed.on = i ∨ ed.on ∈ D)) {r : GRes} (hdst : dstOk n oi.dst) (hT2 : r.u.map (·.1) = (T i).2) (hvc : r.vc) :
    ∀ (fuel : Nat) (listed : Array Bool) (e : Env) (s : Store),
      (∀ j oj, ops[j]? = some oj → j ≠ i → j ∉ D → listed.getD j true = false → oi.apart ops.toArray oj = true ∧ indepF (T i) (T j) = true) →
      i ∈ Region.ready .any ops.toArray listed → (∀ j ∈ D, listed.getD j false = false) → rdsOp oi.op (orc i) e = (T i).1 → gstep P base orc ops k0 i oi e s = some r →
      Any P n base orc ops k0 T K fuel (listed.setIfInBounds i true) (setE oi.dst r.v e) (r.u ++ s) → Any P n base orc ops k0 T K (fuel + 1) listed e s
  | 0, listed, e, s, hfree, hr, hun, hT1, hg, H => by
    refine ⟨fun h => (by rw [h] at hr; cases hr), fun j hj => ?_⟩
    by_cases hji : j = i
    · subst hji; exact ⟨oi, r, hi, hg, hvc, hdst, hT1, hT2, H⟩
    · have := ready_mono hj hji
      rw [H.1] at this
      cases this
  | fuel + 1, listed, e, s, hfree, hr, hun, hT1, hg, H => by
    refine ⟨fun h => (by rw [h] at hr; cases hr), fun j hj => ?_⟩
    by_cases hji : j = i
    · subst hji; exact ⟨oi, r, hi, hg, hvc, hdst, hT1, hT2, H⟩
    · obtain ⟨oj, rj, g1, g2, g3, g4, g5, g6, g7⟩ := H.2 j (ready_mono hj hji)
      obtain ⟨hjun, oj', hoj', hall⟩ := mem_ready.1 hj
      have hilt : i < listed.size := by
        rcases Nat.lt_or_ge i listed.size with h | h
        · exact h
        · have h0 := (mem_ready.1 hr).1
          simp [Array.getElem?_eq_none h] at h0
      have hiun : listed.getD i false = false := by
        have h0 := (mem_ready.1 hr).1
        simp [hilt] at h0 ⊢; exact h0
      have hjD : j ∉ D := fun hjD => by
        obtain ⟨o, ho, ed, hed, hb, hon⟩ := hD j hjD
        simp only [List.getElem?_toArray] at hoj'
        rw [hoj'] at ho
        obtain rfl := Option.some.inj ho
        have h1 := hall ed hed hb
        rcases hon with hon | hon
        · rw [hon, hiun] at h1; cases h1
        · rw [hun _ hon] at h1; cases h1
      obtain ⟨hap, hind⟩ := hfree j oj g1 hji hjD hjun
      obtain ⟨a1, a2, a3⟩ := Oper.apart_spec hap
      simp only [indepF, Bool.and_eq_true] at hind
      obtain ⟨⟨d1, d2⟩, d3⟩ := hind
      -- j first: it sees the same
      have eJ : ∀ t, looks ops oj t → eget (setE oi.dst r.v e) t = eget e t := fun t ht => by
        rw [eget_setE, if_neg fun hd => a1 t hd ht]
      have eI : ∀ t, looks ops oi t → eget e t = eget (setE oj.dst rj.v e) t := fun t ht => by
        rw [eget_setE, if_neg fun hd => a3 t hd ht]
      have g5' : rdsOp oj.op (orc j) e = (T j).1 := by rw [← g5]; exact (rdsOp_congr (operands_congr eJ)).symm
      have g2' : gstep P base orc ops k0 j oj e s = some rj := by
        rw [← g2]
        refine gstep_congr (fun t ht => (eJ t ht).symm) ?_
        rw [g5']
        exact agree_put (by rw [hT2]; exact d3)
      have hT1' : rdsOp oi.op (orc i) (setE oj.dst rj.v e) = (T i).1 := by rw [← hT1]; exact (rdsOp_congr (operands_congr eI)).symm
      have hg' : gstep P base orc ops k0 i oi (setE oj.dst rj.v e) (rj.u ++ s) = some r := by
        rw [← hg]
        refine (gstep_congr eI ?_).symm
        rw [hT1]
        exact agree_put (by rw [g6]; exact d2)
      refine ⟨oj, rj, g1, g2', g3, g4, g5', g6, Any.first hK hi hD hdst hT2 hvc fuel _ _ _ (fun k ok hk hki hkD hkun => ?_) (ready_mono hr (Ne.symm hji)) (fun k hk => ?_) hT1' hg' ?_⟩
      · refine hfree k ok hk hki hkD ?_
        by_cases hjk : j = k
        · subst hjk; exact hjun
        · rw [Go.getD_set_ne true hjk] at hkun; exact hkun
      · rw [Go.getD_set_ne false fun (e : j = k) => hjD (by rw [e]; exact hk)]; exact hun k hk
      · rw [Array.setIfInBounds_comm _ _ hji]
        refine Any.congr hK _ _ _ _ _ _ (fun t => ?_) (fun id => ?_) g7
        · simp only [eget_setE]
          by_cases h1 : oj.dst = some t
          · rw [if_pos h1, if_neg fun h2 => a2 t h2 h1, if_pos h1]
          · rw [if_neg h1, if_neg h1]
        · simp only [sget_append, hT2, g6]
          by_cases h1 : id ∈ (T i).2
          · have := disj_spec d1 id h1
            rw [if_neg this, if_pos h1, if_pos h1]
          · rw [if_neg h1, if_neg h1]

theorem behind_spec (i : Nat) : ∀ (l : List Oper) (j : Nat) (D : List Nat), (∀ m, l[m]? = ops[j + m]?) →
    (∀ x ∈ D, ∃ o, ops[x]? = some o ∧ ∃ ed ∈ o.after, Region.binds .any ed = true ∧ (ed.on = i ∨ ed.on ∈ D)) →
    ∀ x ∈ behind i l j D, ∃ o, ops[x]? = some o ∧ ∃ ed ∈ o.after, Region.binds .any ed = true ∧ (ed.on = i ∨ ed.on ∈ behind i l j D)
  | [], _, D, _, h => h
  | o :: l, j, D, hl, h => by
    unfold behind
    refine behind_spec i l (j + 1) _ (fun m => by have := hl (m + 1); simpa [Nat.add_assoc, Nat.add_comm 1 m] using this) ?_
    split
    · rename_i hany
      intro x hx
      rcases List.mem_cons.1 hx with rfl | hx
      · refine ⟨o, by simpa using (hl 0).symm, ?_⟩
        obtain ⟨ed, he, hb⟩ := List.any_eq_true.1 hany
        simp only [Bool.and_eq_true, Bool.or_eq_true, beq_iff_eq, List.contains_iff_mem] at hb
        exact ⟨ed, by simpa using he, hb.1, hb.2.imp id (List.mem_cons_of_mem _)⟩
      · obtain ⟨o', h1, ed, h2, h3, h4⟩ := h x hx
        exact ⟨o', h1, ed, h2, h3, h4.imp id (List.mem_cons_of_mem _)⟩
    · exact h

/-- The operations listed are those before i. -/
def Upto (ops : List Oper) (i : Nat) (listed : Array Bool) : Prop := listed.size = ops.length ∧ ∀ j, j < ops.length → listed.getD j true = decide (j < i)

theorem Any.of_drun (hK : ∀ e e' s s', eqE e e' → eqS s s' → K e s → K e' s') {LL : List FP} (hc : chkA ops LL = true) : ∀ (rest : List Oper) (i : Nat) (L : List FP) (e : Env) (s : Store) (listed : Array Bool),
    (∀ m, rest[m]? = ops[i + m]?) → i + rest.length = ops.length → L.length = i → (∃ L', LL = L ++ L' ∧ L'.length = rest.length) → Upto ops i listed →
    drun P n base orc ops k0 rest i L e s (fun L' e s => L' = LL ∧ K e s) → Any P n base orc ops k0 (fun i => LL.getD i (none, [0])) K rest.length listed e s
  | [], i, L, e, s, listed, hl, hi, hL, hLL, hu, h => by
    refine ⟨?_, h.2⟩
    cases hr : Region.ready .any ops.toArray listed with
    | nil => rfl
    | cons x xs =>
      have hx : x ∈ Region.ready .any ops.toArray listed := by rw [hr]; simp
      obtain ⟨h0, o, ho, _⟩ := mem_ready.1 hx
      have hlt : x < ops.length := by
        have := (Array.getElem?_eq_some_iff.1 ho).1
        simpa using this
      rw [hu.2 x hlt] at h0
      simp at hi h0; omega
  | o :: rest, i, L, e, s, listed, hl, hi, hL, hLL, hu, h => by
    have h0 : ops[i]? = some o := by simpa using (hl 0).symm
    have hilt : i < ops.length := by simp at hi; omega
    unfold drun at h
    split at h
    · exact h.elim
    · rename_i r hr
      obtain ⟨hvc, hd, hrest⟩ := h
      have hci : chk1 ops LL i o = true := by
        have := List.all_eq_true.1 hc i (List.mem_range.2 hilt)
        simpa only [h0] using this
      simp only [chk1, Bool.and_eq_true] at hci
      obtain ⟨hc1, hc2⟩ := hci
      obtain ⟨L', hLe, hLl⟩ := hLL
      -- what drun records at i is what LL holds
      have hrec : ∀ (rest : List Oper) (i : Nat) (L : List FP) (e : Env) (s : Store), drun P n base orc ops k0 rest i L e s (fun L' e s => L' = LL ∧ K e s) → ∃ L'', LL = L ++ L'' := by
        intro rest
        induction rest with
        | nil => intro i L e s h; exact ⟨[], by simpa using h.1.symm⟩
        | cons o rest ih =>
          intro i L e s h
          unfold drun at h
          split at h
          · exact h.elim
          · obtain ⟨L'', hh⟩ := ih _ _ _ _ h.2.2
            exact ⟨_, by rw [hh, List.append_assoc]⟩
      obtain ⟨L'', hLL2⟩ := hrec _ _ _ _ _ hrest
      have hTi : LL.getD i (none, [0]) = (rdsOp o.op (orc i) e, r.u.map (·.1)) := by
        rw [hLL2, List.getD_eq_getElem?_getD]
        simp [← hL]
      have hready : i ∈ Region.ready .any ops.toArray listed := by
        refine mem_ready.2 ⟨by rw [hu.2 i hilt]; simp, o, by simpa using h0, fun ed hed hb => ?_⟩
        have := List.all_eq_true.1 hc1 ed (by simpa using hed)
        simp only [hb, Bool.not_true, Bool.false_or, decide_eq_true_eq] at this
        have h2 := hu.2 ed.on (by omega)
        have hs : ed.on < listed.size := by rw [hu.1]; omega
        simp [hs, this] at h2 ⊢; exact h2
      have hlen : (o :: rest).length = rest.length + 1 := rfl
      rw [hlen]
      refine Any.first hK h0 (D := behind i ops 0 []) (behind_spec i ops 0 [] (by simp) (by simp)) (r := r) hd (by rw [hTi]) hvc rest.length listed e s (fun j oj hj hne hjD hjun => ?_) hready (fun j hj => ?_) (by rw [hTi]) hr ?_
      · have hjlt : j < ops.length := (List.getElem?_eq_some_iff.1 hj).1
        have := List.all_eq_true.1 hc2 j (List.mem_range.2 hjlt)
        rw [hu.2 j hjlt] at hjun
        simp only [decide_eq_false_iff_not, Nat.not_lt] at hjun
        have hgt : ¬ j ≤ i := by omega
        simp only [hgt, decide_false, Bool.false_or, Bool.or_eq_true, List.contains_iff_mem, hjD, false_or, hj, Bool.and_eq_true] at this
        exact this
      · obtain ⟨oj, ho, _⟩ := behind_spec (ops := ops) i ops 0 [] (by simp) (by simp) j hj
        have hjlt : j < ops.length := (List.getElem?_eq_some_iff.1 ho).1
        have hjs : j < listed.size := by rw [hu.1]; exact hjlt
        have h2 := hu.2 j hjlt
        have hji : i ≤ j := by
          rcases Nat.lt_or_ge j i with hlt | hge
          · exfalso
            -- everything behind i lies behind i in the text
            have hmin : ∀ j, j < i → j ∉ behind i ops 0 [] := by
              intro j
              induction j using Nat.strongRecOn with
              | _ j ih =>
                intro hlt hj
                obtain ⟨oj, ho, ed, hed, hb, hon⟩ := behind_spec (ops := ops) i ops 0 [] (by simp) (by simp) j hj
                have hjlt : j < ops.length := (List.getElem?_eq_some_iff.1 ho).1
                have hcj := List.all_eq_true.1 hc j (List.mem_range.2 hjlt)
                simp only [ho, chk1, Bool.and_eq_true] at hcj
                have := List.all_eq_true.1 hcj.1 ed (by simpa using hed)
                simp only [hb, Bool.not_true, Bool.false_or, decide_eq_true_eq] at this
                rcases hon with hon | hon
                · omega
                · exact ih ed.on this (by omega) hon
            exact hmin j hlt hj
          · exact hge
        have : ¬ j < i := by omega
        simp [hjs, this] at h2 ⊢; exact h2
      · refine Any.of_drun hK hc rest (i + 1) _ _ _ _ (fun m => by have := hl (m + 1); simpa [Nat.add_assoc, Nat.add_comm 1 m] using this) (by simp at hi; omega) (by simp [hL]) ?_ ?_ hrest
        · refine ⟨L'', hLL2, ?_⟩
          have h1 := congrArg List.length hLe
          have h2 := congrArg List.length hLL2
          simp at h1 h2 hLl; omega
        · refine ⟨by simp [hu.1], fun j hj => ?_⟩
          by_cases hij : i = j
          · subst hij
            have : i < listed.size := by rw [hu.1]; exact hilt
            simp [this]
          · rw [Go.getD_set_ne true hij, hu.2 j hj]
            have : j < i ↔ j < i + 1 := by omega
            simp [this]

end
end Go.AM

/- Regions that draw their order, over the machine. -/
namespace Go.AM

section
variable {P : Program} {n base : Nat} {orc : Nat → Option Orc} {ops : List Oper} {k0 : Nat} {T : Nat → FP} {Q : AX → Post}

def clkL (k : Nat) (listed : Array Bool) : Nat → Prop := fun g => g < k ∨ ∃ i, listed.getD i false = true ∧ (g = k + 2 * i ∨ g = k + 2 * i + 1)

theorem getD_lt {listed : Array Bool} {i : Nat} (h : listed.getD i false = true) : i < listed.size := by
  rcases Nat.lt_or_ge i listed.size with h1 | h1
  · exact h1
  · simp [Array.getElem?_eq_none h1] at h

theorem Any.sound : ∀ (fuel : Nat) (listed : Array Bool) (e : Env) (s : Store), listed.size = ops.length →
    Any P n base orc ops k0 T (fun e s => Q .normal e s (k0 + 2 * ops.length)) fuel listed e s →
    ∀ x0 ρ a w, Goes x0 ⟨ρ, s, clkL k0 listed, w, x0.F⟩ → St ⟨ρ, s, clkL k0 listed, w, x0.F⟩ e n a → wpAny P .any ops.toArray (LiftX x0 n Q) fuel listed a w := by
  have done : ∀ (listed : Array Bool) (e : Env) (s : Store), listed.size = ops.length → Q .normal e s (k0 + 2 * ops.length) → ∀ x0 ρ a w, Goes x0 ⟨ρ, s, clkL k0 listed, w, x0.F⟩ → St ⟨ρ, s, clkL k0 listed, w, x0.F⟩ e n a → LiftX x0 n Q .normal a w := by
    intro listed e s hsz hQ x0 ρ a w hg hs
    have hgo := hs.ok.goes_grow (s' := s) (c' := clk (k0 + 2 * ops.length)) (w' := w) (fun _ _ h => h) (fun g hg => by
      rcases hg with hg | ⟨i, hi, hg⟩
      · exact Nat.lt_of_lt_of_le hg (by omega)
      · have := getD_lt hi
        show g < _
        omega) (.refl _ _)
    exact ⟨ρ, e, s, _, hQ, hg.trans hgo, ⟨hgo.ok, hs.size, hs.defers, fun t => (hs.env t).mono hgo.le⟩⟩
  intro fuel
  induction fuel with
  | zero => intro listed e s hsz h x0 ρ a w hg hs; exact ⟨h.1, done listed e s hsz h.2 x0 ρ a w hg hs⟩
  | succ fuel ih =>
    intro listed e s hsz h x0 ρ a w hg hs
    refine ⟨fun h0 => done listed e s hsz (h.1 h0) x0 ρ a w hg hs, fun i hi => ?_⟩
    obtain ⟨o, r, h1, h2, hvc, hd, _, _, hrest⟩ := h.2 i hi
    have hun := (mem_ready.1 hi).1
    have hilt : i < ops.length := (List.getElem?_eq_some_iff.1 h1).1
    have hiF : listed.getD i false = false := by
      have : i < listed.size := by omega
      simp [this] at hun ⊢; exact hun
    have hfr : ¬ clkL k0 listed (k0 + 2 * i) ∧ ¬ clkL k0 listed (k0 + 2 * i + 1) := by
      refine ⟨fun hc => ?_, fun hc => ?_⟩ <;> rcases hc with hc | ⟨j, hj, hc⟩ <;> first | omega | skip
      all_goals
        have : j = i := by omega
        rw [this, hiF] at hj; cases hj
    have hbd : ∀ g, clkL k0 listed g → g < k0 + 2 * ops.length := fun g hg => by
      rcases hg with hg | ⟨j, hj, hg⟩
      · omega
      · have := getD_lt hj
        omega
    have hcm : ∀ g, clkL k0 listed g → clkL k0 (listed.setIfInBounds i true) g := fun g hg => by
      rcases hg with hg | ⟨j, hj, hg⟩
      · exact .inl hg
      · exact .inr ⟨j, getD_set_true hj, hg⟩
    have hcg : ∀ g, (g = k0 + 2 * i ∨ g = k0 + 2 * i + 1) → clkL k0 (listed.setIfInBounds i true) g := fun g hg => .inr ⟨i, by
      have : i < listed.size := by omega
      simp [this], hg⟩
    have hsz' : (listed.setIfInBounds i true).size = ops.length := by simpa using hsz
    unfold gstep at h2
    unfold wpOp
    simp only [List.getElem?_toArray, h1]
    split at h2
    · unfold skipG at h2
      split at h2
      · rename_i p hp
        obtain rfl := Option.some.inj h2
        split at hp
        · rename_i j want hgd
          split at hp
          · rename_i q b hy
            obtain rfl := Option.some.inj hp
            have hyd : Region.wanted o (yielded ops.toArray a.tmps) = false := by
              by_cases hq1 : q
              · have := yielded_of hs hy hq1
                have hne : b ≠ want := fun e => hvc ⟨hq1, e⟩
                simp [Region.wanted, hgd, this, hne]
              · have := yielded_not hs hy hq1
                simp [Region.wanted, hgd, this]
            rw [if_neg (by simp [hyd])]
            have hgo2 := hs.ok.goes_grow (s' := s) (c' := clkL k0 (listed.setIfInBounds i true)) (w' := w) (fun _ _ h => h) hcm (.refl _ _)
            exact ih _ _ _ hsz' hrest x0 ρ _ w (hg.trans hgo2) (put_env hgo2.le hs hgo2.ok hd (.any _))
          · cases hp
        · cases hp
      · cases h2
    split at h2
    · cases h2
    · rename_i rr hr
      have hrun : ∀ (v : AV) (s' : Store), rr.vc → (∀ y u, Rel y rr.v u → Rel y v u) → s' = rr.u ++ s → Any P n base orc ops k0 T (fun e s => Q .normal e s (k0 + 2 * ops.length)) fuel (listed.setIfInBounds i true) (setE o.dst v e) s' → o.wp P a w (wpAny P .any ops.toArray (LiftX x0 n Q) fuel (listed.setIfInBounds i true)) (LiftX x0 n Q) := by
        intro v s' hvc hrel hs' hrest
        refine step_sound (x := ⟨ρ, s, clkL k0 listed, w, x0.F⟩) hs.ok hs.env hr hvc hfr.1 hfr.2 (B := k0 + 2 * ops.length) hbd fun y u hgo hys hyc hru => ?_
        have hgo2 := hgo.ok.goes_grow (s' := y.s) (c' := clkL k0 (listed.setIfInBounds i true)) (w' := y.w) (fun _ _ h => h) (fun g hg => by
          rcases hyc g hg with h1 | h1 | h1
          · exact hcm g h1
          · exact hcg g (.inl h1)
          · exact hcg g (.inr h1)) (.refl _ _)
        have hall := hg.trans (hgo.trans hgo2)
        have hF : y.F = x0.F := hgo.F
        rw [hs', ← hys] at hrest
        rw [hF] at hall hgo2
        exact ih _ _ _ hsz' hrest x0 y.ρ _ y.w hall (put_env ((hgo.trans hgo2).le) hs hgo2.ok hd ((hrel _ _ hru).mono hgo2.le))
      split at h2
      · rename_i hgd
        obtain rfl := Option.some.inj h2
        rw [if_pos (by simp [Region.wanted, hgd])]
        exact .inl (hrun rr.v _ hvc (fun _ _ h => h) rfl hrest)
      · rename_i j want hgd
        split at h2
        · rename_i q b hy
          split at h2
          · rename_i hu
            rw [List.isEmpty_iff] at hu
            obtain rfl := Option.some.inj h2
            by_cases hq : q ∧ b = want
            · have hyd := yielded_of hs hy hq.1
              rw [if_pos (by simp [Region.wanted, hgd, hyd, hq.2])]
              refine .inl (hrun _ s (hvc hq) (fun y u hr => .opt _ _ _ (fun _ => hr) (fun hn => absurd hq hn)) (by rw [hu]; rfl) hrest)
            · have hyd : Region.wanted o (yielded ops.toArray a.tmps) = false := by
                by_cases hq1 : q
                · have := yielded_of hs hy hq1
                  have hne : b ≠ want := fun e => hq ⟨hq1, e⟩
                  simp [Region.wanted, hgd, this, hne]
                · have := yielded_not hs hy hq1
                  simp [Region.wanted, hgd, this]
              rw [if_neg (by simp [hyd])]
              have hgo2 := hs.ok.goes_grow (s' := s) (c' := clkL k0 (listed.setIfInBounds i true)) (w' := w) (fun _ _ h => h) hcm (.refl _ _)
              exact ih _ _ _ hsz' hrest x0 ρ _ w (hg.trans hgo2) (put_env hgo2.le hs hgo2.ok hd (.opt _ _ _ (fun h => absurd h hq) (fun _ => rfl)))
          · obtain rfl := Option.some.inj h2
            have hyd := yielded_of hs hy hvc.1
            rw [if_pos (by simp [Region.wanted, hgd, hyd, hvc.2.1])]
            exact .inl (hrun rr.v _ hvc.2.2 (fun _ _ h => h) rfl hrest)
        · cases h2

theorem goes_eqS {x0 : Cx} {ρ : Pl → Option (Nat × Nat)} {s s' : Store} {c : Nat → Prop} {w : World} {e : Env} {n : Nat} {a : Act} (h : eqS s s') (hs : St ⟨ρ, s, c, w, x0.F⟩ e n a) : Goes ⟨ρ, s, c, w, x0.F⟩ ⟨ρ, s', c, w, x0.F⟩ :=
  hs.ok.goes_grow (s' := s') (c' := c) (w' := w) (fun id R hR => by rw [h id]; exact hR) (fun _ h => h) (.refl _ _)

/-- The states that are alike to one of Q's. -/
def alike (Q : Post) : Post := fun e s k => ∃ e' s', eqE e' e ∧ eqS s' s ∧ Q e' s' k

theorem Lift.of_alike {x0 : Cx} {n : Nat} {K : Post} {a : Act} {w : World} (h : Lift x0 n (alike K) a w) : Lift x0 n K a w := by
  obtain ⟨ρ, e, s, k, ⟨e', s', he, hs, hK⟩, h2, h3⟩ := h
  have hgo := goes_eqS hs.symm h3
  exact ⟨ρ, e', s', k, hK, h2.trans hgo, ⟨hgo.ok, h3.size, h3.defers, fun t => by rw [he t]; exact (h3.env t).mono hgo.le⟩⟩

/-- A region that draws its order, walked in the order of the text; behind it only the named slots and roots are kept. -/
theorem AW.regionD {P : Program} {n id : Nat} {l : List Oper} {Q : AX → Post} {e : Env} {s : Store} {k : Nat} (hm : P.follows .mixedOrders = true) (base : Nat) (orc : Nat → Option Orc) (ks is : List Nat)
    (h : drun P n base orc l k l 0 [] e s fun L e s => chkA l L = true ∧ Q .normal (keepE ks e) (keepS is s) (k + 2 * l.length)) : AW P n (.region id l.toArray true) Q e s k := by
  intro x0 ρ a w hg hs
  let Q' : AX → Post := thenQ (alike fun e s k => Q .normal (keepE ks e) (keepS is s) k) Q
  -- what is recorded at the end
  have hend : ∀ (rest : List Oper) (i : Nat) (L : List FP) (e : Env) (s : Store), drun P n base orc l k rest i L e s (fun L e s => chkA l L = true ∧ Q .normal (keepE ks e) (keepS is s) (k + 2 * l.length)) →
      ∃ LL, chkA l LL = true ∧ drun P n base orc l k rest i L e s (fun L' e s => L' = LL ∧ Q' .normal e s (k + 2 * l.length)) ∧ ∃ L', LL = L ++ L' ∧ L'.length = rest.length := by
    intro rest
    induction rest with
    | nil => intro i L e s h; exact ⟨L, h.1, ⟨rfl, e, s, fun _ => rfl, fun _ => rfl, h.2⟩, [], by simp, rfl⟩
    | cons o rest ih =>
      intro i L e s h
      unfold drun at h
      split at h
      · exact h.elim
      · rename_i r hr
        obtain ⟨LL, h1, h2, L', h3, h4⟩ := ih _ _ _ _ h.2.2
        refine ⟨LL, h1, ?_, _, by rw [h3, List.append_assoc], by simp [h4]⟩
        unfold drun
        simp only [hr]
        exact ⟨h.1, h.2.1, h2⟩
  obtain ⟨LL, hc, hdr, hLL⟩ := hend l 0 [] e s h
  have hany := Any.of_drun (n := n) (K := fun e s => Q' .normal e s (k + 2 * l.length)) (fun e e' s s' he hs ⟨e1, s1, h1, h2, h3⟩ => ⟨e1, s1, fun t => (h1 t).trans (he t), fun t => (h2 t).trans (hs t), h3⟩) hc l 0 [] e s (Array.replicate l.length false)
    (by simp) (by simp) rfl hLL ⟨by simp, fun j hj => by simp [hj]⟩ hdr
  have hgo : Goes ⟨ρ, s, clk k, w, x0.F⟩ ⟨ρ, s, clkL k (Array.replicate l.length false), { w with drawn := w.drawn + 1 }, x0.F⟩ :=
    hs.ok.goes_grow (fun _ _ h => h) (fun g hg => .inl hg) ⟨rfl, rfl, rfl, Nat.le_refl _, fun _ _ _ => rfl, Nat.le_succ _⟩
  have := Any.sound (Q := Q') l.length _ e s (by simp) hany x0 ρ a { w with drawn := w.drawn + 1 } (hg.trans hgo) ⟨hgo.ok, hs.size, hs.defers, fun t => (hs.env t).mono hgo.le⟩
  refine wp_mono (wp_region_any hm (by simpa using this)) fun ex a' w' hl => ?_
  cases ex with
  | normal => exact Lift.keep ks is (Lift.of_alike hl)
  | _ => exact hl

end
end Go.AM

/- A writing function's contract out of its body. -/
namespace Go.AM

/-- How the roots at the return become the contract's: (number, number in the contract, with a new mark?). -/
def settleM (s0 s : Store) (k : Nat) : List (Nat × Nat × Bool) → Option (List Mv)
  | [] => some []
  | (src, dst, true) :: l => match sget s src, settleM s0 s k l with
    | some R, some M => some (⟨src, R, dst, k, k⟩ :: M)
    | _, _ => none
  | (src, dst, false) :: l => match sget s src, sget s0 src, settleM s0 s k l with
    | some R, some R0, some M => if R.gen = R0.gen ∧ src = dst then some (⟨src, R, dst, R.gen, k⟩ :: M) else none
    | _, _, _ => none

def settles (s0 : Store) (k : Nat) (L : List (Nat × Nat × Bool)) (res : AV) (s1 : Store) (v : AV) (s : Store) : Prop :=
  match settleM s0 s k L with
  | some M => res = ren (mvRef M) 4 v ∧ s1 = mvStore M 4 M ∧ nodupB (L.map (·.1)) = true ∧ nodupB (L.map (·.2.1)) = true
  | none => False

theorem settleM_spec {s0 s : Store} {k : Nat} : ∀ {L : List (Nat × Nat × Bool)} {M : List Mv}, settleM s0 s k L = some M → M.map (·.src) = L.map (·.1) ∧ M.map (·.dst) = L.map (·.2.1) ∧
    ∀ e ∈ M, sget s e.src = some e.R ∧ e.ver = k ∧ (e.gen = k ∨ (e.gen = e.R.gen ∧ e.src = e.dst ∧ ∃ R0, sget s0 e.src = some R0 ∧ R0.gen = e.gen))
  | [], M, h => by
    simp only [settleM, Option.some.injEq] at h
    subst h; simp
  | (src, dst, true) :: L, M, h => by
    unfold settleM at h
    split at h
    · rename_i R M' h1 h2
      obtain rfl := Option.some.inj h
      obtain ⟨k1, k2, k3⟩ := settleM_spec h2
      refine ⟨by simp [k1], by simp [k2], fun e he => ?_⟩
      rcases List.mem_cons.1 he with rfl | he
      · exact ⟨h1, rfl, .inl rfl⟩
      · exact k3 e he
    · cases h
  | (src, dst, false) :: L, M, h => by
    unfold settleM at h
    split at h
    · rename_i R R0 M' h1 h0 h2
      split at h
      · rename_i hc
        obtain rfl := Option.some.inj h
        obtain ⟨k1, k2, k3⟩ := settleM_spec h2
        refine ⟨by simp [k1], by simp [k2], fun e he => ?_⟩
        rcases List.mem_cons.1 he with rfl | he
        · exact ⟨h1, rfl, .inr ⟨rfl, hc.2, R0, h0, hc.1.symm⟩⟩
        · exact k3 e he
      · cases h
    · cases h

theorem nodup_inj {M : List Mv} (h : (M.map (·.src)).Nodup) : ∀ e ∈ M, ∀ e' ∈ M, e.src = e'.src → e = e' := by
  induction M with
  | nil => intro e he; cases he
  | cons a M ih =>
    rw [List.map_cons, List.nodup_cons] at h
    intro e he e' he' hh
    rcases List.mem_cons.1 he with h1 | h1 <;> rcases List.mem_cons.1 he' with h2 | h2
    · rw [h1, h2]
    · exact absurd (List.mem_map.2 ⟨e', h2, by rw [← hh, h1]⟩) h.1
    · exact absurd (List.mem_map.2 ⟨e, h1, by rw [hh, h2]⟩) h.1
    · exact ih h.2 e h1 e' h2 hh

theorem settles_sound {ρ : Pl → Option (Nat × Nat)} {s0 : Store} {c : Nat → Prop} {w : World} {F : Nat → Prop} {k : Nat} (hk : ¬ c k) (h0 : StOk ⟨ρ, s0, c, w, F⟩) {y : Cx} (hgo : Goes ⟨ρ, s0, c, w, F⟩ y) {L : List (Nat × Nat × Bool)} {res : AV} {s1 : Store} {v : AV} {u : Value}
    (hs : settles s0 k L res s1 v y.s) (hr : Rel y v u) : ∃ ρ', Goes ⟨ρ, s0, c, w, F⟩ ⟨ρ', s1, fun g => c g ∨ g = k ∨ g = k + 1, y.w, F⟩ ∧ Rel ⟨ρ', s1, fun g => c g ∨ g = k ∨ g = k + 1, y.w, F⟩ res u := by
  unfold settles at hs
  split at hs
  · rename_i M hM
    obtain ⟨rfl, rfl, n1, n2⟩ := hs
    obtain ⟨e1, e2, e3⟩ := settleM_spec hM
    have hM' : ∀ e ∈ M, sget y.s e.src = some e.R := fun e he => (e3 e he).1
    have hF : y.F = F := hgo.F
    have hdst : (M.map (·.dst)).Nodup := by rw [e2]; exact nodupB_spec n2
    have hsrc := nodup_inj (by rw [e1]; exact nodupB_spec n1 : (M.map (·.src)).Nodup)
    have hc : ∀ e ∈ M, (fun g => c g ∨ g = k ∨ g = k + 1) e.gen ∧ (fun g => c g ∨ g = k ∨ g = k + 1) e.ver := fun e he => by
      obtain ⟨_, h2, h3⟩ := e3 e he
      refine ⟨?_, .inr (.inl h2)⟩
      rcases h3 with h3 | ⟨_, _, R0, h4, h5⟩
      · exact .inr (.inl h3)
      · rw [← h5]; exact .inl (h0.gens _ _ h4).1
    obtain ⟨r1, r2, r3⟩ := hgo.ok.rename 4 (c' := fun g => c g ∨ g = k ∨ g = k + 1) (F' := y.F) hM' hdst hsrc hc (fun b hb => .inl hb) (fun b hb ho => by
      obtain ⟨e, _, sub, yy, base, k1, k2⟩ := mv_owned hM' ho
      exact (hgo.ok.apart b hb).2 ⟨_, _, _, k1, k2⟩)
    rw [hF] at r1 r2 r3
    refine ⟨mvρ M y.ρ, ⟨rfl, ⟨fun g hg => .inl hg, fun b hb => ?_, fun r hr sz es' hcon => ?_⟩, r1, hgo.ext⟩, r3 4 _ _ hr⟩
    · obtain ⟨k1, k2⟩ := hgo.le.imm b hb
      exact ⟨r2 b k1, k2⟩
    · -- an old reference that still holds: its root was kept
      have hp := pcontent_of_rcontent hcon
      obtain ⟨e, es, g1, g2, g3⟩ := mv_pcontent hM' hp
      obtain ⟨hm, hid⟩ := findD_some g1
      obtain ⟨h1, h2, h3⟩ := e3 e hm
      unfold rcontent at hcon
      rw [show (⟨mvρ M y.ρ, mvStore M 4 M, fun g => c g ∨ g = k ∨ g = k + 1, y.w, F⟩ : Cx).s = mvStore M 4 M from rfl, sget_mvStore] at hcon
      simp only [Ref.pl] at g1 g2 hid
      simp only [g1, Option.map_some, mvRoot] at hcon
      split at hcon
      · rename_i hg
        rcases h3 with h3 | ⟨h3, h4, _⟩
        · exact absurd (by rw [← h3, hg]; exact hr.1 : c k) hk
        · have hsub : r.sub = none := by
            cases hs : r.sub with
            | none => rfl
            | some x =>
              obtain ⟨i, o, v'⟩ := x
              simp only [hs] at hcon
              split at hcon
              · rename_i hv
                exact absurd (by rw [← h2, hv]; exact hr.2 i o v' hs : c k) hk
              · cases hcon
          simp only [hsub, Option.map_none] at hcon g2
          have hcy : rcontent y.s r = some (sz, es) := by
            unfold rcontent
            rw [← hid, ← h4, h1]
            simp only [pcontent, h1] at g2
            simp only [hsub, ← h3, hg, if_true]
            exact g2
          obtain ⟨es0, m1, m2, m3, m4⟩ := hgo.le.ref r hr sz es hcy
          refine ⟨es0, m1, by rw [mv_len g3]; exact m2, ?_, m4⟩
          rw [← m3]
          show mvρ M y.ρ (r.id, r.sub.map _) = y.ρ (r.id, r.sub.map _)
          simp only [mvρ, g1, h4, hid]
      · cases hcon
  · exact hs.elim

theorem Upd.of_body {P : Program} {f : FuncId} {fn : Func} {cd : Code} {args : List AV} {res : Nat → AV} {s0 : Store} {s1 : Nat → Store} {n : Nat} {rs : List ResultVar} (hf : P.funcs[f]? = some fn) (hb : fn.body = some cd) (hm : fn.ntmps = n) (hrs : fn.results.toList = rs) (hn : args.length ≤ n)
    (h : ∀ k K, k + 2 ≤ K → (∀ id R, sget s0 id = some R → R.gen < K ∧ R.ver < K) → AW P n cd (retQ P rs fun v s _ => ∃ L, settles s0 k L (res k) (s1 k) v s) (argsE 0 args) s0 K) : Upd P f s0 args res s1 := by
  subst hm; subst hrs
  intro c B k ρ w F us hB hk hk1 hst hl hr
  refine calls_of_wp hf hb ?_
  let K := max B (k + 2)
  have hcK : ∀ g, c g → clk K g := fun g hg => Nat.lt_of_lt_of_le (hB g hg) (Nat.le_max_left _ _)
  have hgo0 := hst.goes_grow (s' := s0) (c' := clk K) (w' := w) (fun _ _ h => h) hcK (.refl _ _)
  have hSt : St ⟨ρ, s0, clk K, w, F⟩ (argsE 0 args) fn.ntmps { tmps := us.toArray ++ Array.replicate (fn.ntmps - us.toArray.size) undef, defers := [] } := by
    refine ⟨hgo0.ok, by simp; omega, rfl, fun t => ?_⟩
    rw [eget_argsE]
    simp only [Nat.zero_le, if_true, Nat.sub_zero]
    by_cases ht : t < args.length
    · have := (hr t ht).mono hgo0.le
      have e : (us.toArray ++ Array.replicate (fn.ntmps - us.toArray.size) undef).getD t undef = us.getD t undef := by
        have : t < us.length := by omega
        simp [Array.getElem?_append, this]
      rw [e]
      exact this
    · rw [getD_out (by omega)]; exact .any _
  have := h k K (Nat.le_max_right _ _) (fun id R hR => ⟨hcK _ (hst.gens id R hR).1, hcK _ (hst.gens id R hR).2⟩) ⟨ρ, s0, c, w, F⟩ ρ _ w hgo0 hSt
  refine wp_mono this fun ex a' w' hl => ?_
  have fin : Lift ⟨ρ, s0, c, w, F⟩ fn.ntmps (fun e s kk => resOk P fn.results.toList e s fun v => ∃ L, settles s0 k L (res k) (s1 k) v s) a' w' →
      a'.defers = [] ∧ ∃ v, (results fn a'.tmps).run P w' = .ok v w' ∧ ∃ u ρ', Ending.returned v = .returned u ∧ Goes ⟨ρ, s0, c, w, F⟩ ⟨ρ', s1 k, fun g => c g ∨ g = k ∨ g = k + 1, w', F⟩ ∧ Rel ⟨ρ', s1 k, fun g => c g ∨ g = k ∨ g = k + 1, w', F⟩ (res k) u := fun hl => by
    obtain ⟨ρ', e, s, kk, h1, h2, h3⟩ := hl
    obtain ⟨v, u, ⟨L, k1⟩, k2, k3⟩ := resOk_sound h3 h1
    obtain ⟨ρ2, m1, m2⟩ := settles_sound hk hst h2 k1 k3
    exact ⟨h3.defers, u, k2, u, ρ2, rfl, m1, m2⟩
  cases ex with
  | normal => exact fin hl
  | ret => exact fin hl
  | exit id =>
    obtain ⟨_, _, _, _, h1, _⟩ := hl
    exact h1.elim
  | _ => exact hl.elim

end Go.AM

/- Steps of the state without an operation. -/
namespace Go.AM

section
variable {P : Program} {n : Nat} {c : Code} {Q : AX → Post} {e : Env} {s : Store} {k : Nat}

theorem clk_succ {k : Nat} : ∀ g, clk k g ∨ g = k → clk (k + 1) g := fun g h => by
  rcases h with h | h
  · exact Nat.lt_succ_of_lt h
  · exact h ▸ Nat.lt_succ_self _

/-- A step of the state that the old state allows. -/
theorem AW.step {s' : Store} (hgo : ∀ ρ w F, StOk ⟨ρ, s, clk k, w, F⟩ → ∃ ρ', Goes ⟨ρ, s, clk k, w, F⟩ ⟨ρ', s', (fun g => clk k g ∨ g = k), w, F⟩) (h : AW P n c Q e s' (k + 1)) : AW P n c Q e s k := by
  intro x0 ρ a w hg hst
  obtain ⟨ρ', h1⟩ := hgo ρ w x0.F hst.ok
  have h2 := h1.ok.goes_grow (s' := s') (c' := clk (k + 1)) (w' := w) (fun _ _ h => h) clk_succ (.refl _ _)
  exact h x0 ρ' a w (hg.trans (h1.trans h2)) ⟨h2.ok, hst.size, hst.defers, fun t => (hst.env t).mono (h1.trans h2).le⟩

theorem AW.keep (ks is : List Nat) (h : AW P n c Q (keepE ks e) (keepS is s) k) : AW P n c Q e s k :=
  AW.forget h (fun t => eget_keep e t ks) (fun id R => sget_keep s id R is) (Nat.le_refl _)

/-- The states are alike. -/
theorem AW.alike {e' : Env} {s' : Store} (he : eqE e e') (hs : eqS s s') (h : AW P n c Q e' s' k) : AW P n c Q e s k :=
  AW.forget h (fun t => .inr (he t).symm) (fun id R hR => by rw [hs id]; exact hR) (Nat.le_refl _)

theorem AW.adopt {pid i o d gd len : Nat} {kc : Option Nat} {R D : Root} (hR : sget s pid = some R) (hcell : (R.es.getD i []).getD o .any = .sl ⟨d, gd, none⟩ 0 len kc)
    (hD : sget s d = some D) (hgd : D.gen = gd) (hlen : D.es.length = len) (hflat : noOsl D.es) (hne : d ≠ pid) (hRz : R.sz ≠ mapSz) (hDz : D.sz ≠ mapSz)
    (h : AW P n c Q e ((d, none) :: (pid, some ⟨R.gen, k, R.sz, R.es.set i ((R.es.getD i []).set o (.osl D.sz D.es))⟩) :: s) (k + 1)) : AW P n c Q e s k :=
  AW.step (fun _ _ _ hst => ⟨_, hst.adopt k (clk_fresh.1) hR hcell hD hgd hlen hflat hRz hDz hne⟩) h

theorem AW.freeze {e' : Env} (d : Nat) (he : ∀ t, eget e' t = .any ∨ eget e' t = vw s d (eget e t)) (h : AW P n c Q e' [] k) : AW P n c Q e s k := by
  intro x0 ρ a w hg hst
  have hgo := hst.ok.goes_grow (s' := []) (c' := clk k) (w' := w) (fun id R hR => by cases hR) (fun _ h => h) (.refl _ _)
  refine h x0 ρ a w (hg.trans hgo) ⟨hgo.ok, hst.size, hst.defers, fun t => ?_⟩
  rcases he t with h1 | h1
  · rw [h1]; exact .any _
  · rw [h1]
    refine .pure _ _ (vw_sound hst.ok (fun b hb hF => ⟨hb, ?_, hF⟩) d _ _ (hst.env t))
    rintro ⟨π, y, base, h1, _⟩
    simp [pcontent, sget] at h1

/-- Cells that hold nil slices are owned inner slices. -/
theorem StOk.nils_own {x : Cx} (h : StOk x) (g : Nat) (hg : ¬ x.c g) {pid sz : Nat} {R : Root} {es' : List (List AV)} (hR : sget x.s pid = some R) (hRz : R.sz ≠ mapSz) (hl : es'.length = R.es.length)
    (hes : ∀ i, i < R.es.length → (es'.getD i []).length = (R.es.getD i []).length ∧ ∀ j, (es'.getD i []).getD j .any = (R.es.getD i []).getD j .any ∨ ((R.es.getD i []).getD j .any = .nilsl ∧ (es'.getD i []).getD j .any = .osl sz [])) :
    ∃ ρ', Goes x ⟨ρ', (pid, some ⟨R.gen, g, R.sz, es'⟩) :: x.s, (fun k => x.c k ∨ k = g), x.w, x.F⟩ := by
  classical
  have hes2 : ∀ i j, (es'.getD i []).getD j .any = (R.es.getD i []).getD j .any ∨ ((R.es.getD i []).getD j .any = .nilsl ∧ (es'.getD i []).getD j .any = .osl sz []) := fun i j => by
    by_cases hi : i < R.es.length
    · exact (hes i hi).2 j
    · have h1 : es'.getD i [] = [] := getD_out (by omega) _
      have h2 : R.es.getD i [] = [] := getD_out (by omega) _
      rw [h1, h2]; exact .inl rfl
  let ρ' : Pl → Option (Nat × Nat) := fun π => match π.2 with
    | some (i, o) => if π.1 = pid ∧ (R.es.getD i []).getD o .any = .nilsl then none else x.ρ π
    | none => x.ρ π
  have hρn : ∀ id, ρ' (id, none) = x.ρ (id, none) := fun _ => rfl
  have hρs : ∀ id i o, ρ' (id, some (i, o)) = if id = pid ∧ (R.es.getD i []).getD o .any = .nilsl then none else x.ρ (id, some (i, o)) := fun _ _ _ => rfl
  have hρne : ∀ π : Pl, π.1 ≠ pid → ρ' π = x.ρ π := fun π hn => by
    obtain ⟨id, sub⟩ := π
    cases sub with
    | none => rfl
    | some io => obtain ⟨i, o⟩ := io; rw [hρs, if_neg fun h => hn h.1]
  -- a place of the new store is an old one, or it is empty
  have hpc : ∀ π y, pcontent ((pid, some ⟨R.gen, g, R.sz, es'⟩) :: x.s) π = some y →
      (π = (pid, none) ∧ y = (R.sz, es')) ∨ (∃ i o, π = (pid, some (i, o)) ∧ (R.es.getD i []).getD o .any = .nilsl ∧ y = (sz, []) ∧ ρ' π = none) ∨ (π ≠ (pid, none) ∧ pcontent x.s π = some y ∧ ρ' π = x.ρ π) := by
    intro π y hy
    obtain ⟨id, sub⟩ := π
    by_cases hid : pid = id
    · subst hid
      rw [pcontent_at] at hy
      cases sub with
      | none => exact .inl ⟨rfl, by simpa using hy.symm⟩
      | some io =>
        obtain ⟨i, o⟩ := io
        obtain ⟨sz', q⟩ := y
        have h1 := inner_some hy
        rcases hes2 i o with h2 | ⟨h2, h3⟩
        · refine .inr (.inr ⟨by simp, ?_, ?_⟩)
          · rw [pcontent_of_root hR]; exact inner_of (by rw [← h2]; exact h1)
          · rw [hρs, if_neg]
            rintro ⟨_, h4⟩
            rw [← h2] at h4
            simp only at h1
            rw [h1] at h4; cases h4
        · simp only at h1
          rw [h3] at h1
          simp only [AV.osl.injEq] at h1
          exact .inr (.inl ⟨i, o, rfl, h2, by rw [h1.1, h1.2], by rw [hρs, if_pos ⟨rfl, h2⟩]⟩)
    · rw [pcontent_ne hid] at hy
      exact .inr (.inr ⟨fun h => hid (by simpa using (congrArg Prod.fst h).symm), hy, hρne _ fun h => hid h.symm⟩)
  have hpnone : pcontent x.s (pid, none) = some (R.sz, R.es) := by rw [pcontent_of_root hR]
  refine ⟨ρ', ?_⟩
  generalize hx1 : (⟨ρ', (pid, some ⟨R.gen, g, R.sz, es'⟩) :: x.s, (fun k => x.c k ∨ k = g), x.w, x.F⟩ : Cx) = x1
  have e1s : x1.s = (pid, some ⟨R.gen, g, R.sz, es'⟩) :: x.s := by rw [← hx1]
  have e1ρ : x1.ρ = ρ' := by rw [← hx1]
  have e1w : x1.w = x.w := by rw [← hx1]
  have e1c : x1.c = fun k => x.c k ∨ k = g := by rw [← hx1]
  have e1F : x1.F = x.F := by rw [← hx1]
  have hown : ∀ b, x1.owned b → x.owned b := by
    rintro b ⟨π, y, base, h1, h2⟩
    rw [e1s] at h1
    rw [e1ρ] at h2
    rcases hpc π y h1 with ⟨rfl, rfl⟩ | ⟨i, o, rfl, _, _, h3⟩ | ⟨_, h3, h4⟩
    · exact ⟨_, _, _, hpnone, h2⟩
    · rw [h3] at h2; cases h2
    · exact ⟨_, _, _, h3, by rw [← h4]; exact h2⟩
  have hle : x.le x1 := by
    refine ⟨fun k h => by rw [e1c]; exact .inl h, fun b hb => ⟨⟨by rw [e1w]; exact hb.1, fun ho => hb.2.1 (hown b ho), by rw [e1F]; exact hb.2.2⟩, by rw [e1w]⟩, fun r hr sz' q hcon => ?_⟩
    rw [e1s] at hcon
    by_cases hid : pid = r.id
    · unfold rcontent at hcon
      rw [sget_cons, if_pos hid] at hcon
      simp only at hcon
      split at hcon
      · rename_i hgen
        cases hs : r.sub with
        | none =>
          simp only [hs, Option.some.injEq, Prod.mk.injEq] at hcon
          obtain ⟨rfl, rfl⟩ := hcon
          refine ⟨R.es, ?_, by omega, ?_, fun _ _ _ => by rw [e1w]⟩
          · unfold rcontent; rw [← hid, hR]; simp [hgen, hs]
          · rw [e1ρ]; simp only [Ref.pl, hs, Option.map_none]; exact hρn _
        | some v =>
          obtain ⟨i, o, v⟩ := v
          simp only [hs] at hcon
          split at hcon
          · rename_i hv; subst hv; exact absurd (hr.2 i o _ hs) hg
          · cases hcon
      · cases hcon
    · rw [rcontent_ne hid] at hcon
      exact ⟨q, hcon, Nat.le_refl _, by rw [e1ρ]; exact hρne _ fun h => hid h.symm, fun _ _ _ => by rw [e1w]⟩
  refine ⟨e1F, hle, ⟨fun π sz' q b base hp hρ => ?_, fun π sz' q hp hρ => ?_, fun π π' y y' b base base' hp hp' hρ hρ' => ?_, fun id R' hR' => ?_, fun π sz' q hp => ?_, fun b hb => ?_, h.gl.mono hle.imm⟩, by rw [e1w]; exact .refl _ _⟩
  · rw [e1s] at hp
    rw [e1ρ] at hρ
    have cell : ∀ (π : Pl) i j a u, x1.ρ (π.1, some (i, j)) = x.ρ (π.1, some (i, j)) → CellOk x π i j a u → CellOk x1 π i j a u := fun π i j a u hr hc => by
      cases a with
      | osl s' q' => exact ⟨hc.1, by rw [hr, e1w]; exact hc.2⟩
      | _ => exact CellOk.of_rel (fun _ _ h => by cases h) ((CellOk.rel (fun _ _ h => by cases h) hc).mono hle)
    rcases hpc π _ hp with ⟨rfl, hy⟩ | ⟨i, o, rfl, _, _, h3⟩ | ⟨n1, h3, h4⟩
    · simp only [Prod.mk.injEq] at hy
      obtain ⟨rfl, rfl⟩ := hy
      have hrow := h.rows _ _ _ _ _ hpnone hρ
      refine ⟨fun _ => ?_, fun e => absurd e hRz, by rw [e1w]; exact hrow.lt⟩
      obtain ⟨cs, T, k1, k2, k3⟩ := hrow.cells hRz
      refine ⟨cs, T, by rw [e1w]; exact k1, by rw [hl]; exact k2, fun i j hi hj => ?_⟩
      obtain ⟨u, m1, m2⟩ := k3 i j (by omega) hj
      refine ⟨u, m1, ?_⟩
      rcases hes2 i j with h2 | ⟨h2, h3⟩
      · rw [h2]
        by_cases hn : (R.es.getD i []).getD j .any = .nilsl
        · rw [hn] at m2 ⊢
          exact CellOk.of_rel (fun _ _ h => by cases h) ((CellOk.rel (fun _ _ h => by cases h) m2).mono hle)
        · refine cell _ i j _ u ?_ m2
          rw [e1ρ, hρs, if_neg fun h => hn h.2]
      · rw [h3]
        rw [h2] at m2
        refine ⟨rfl, ?_⟩
        rw [e1ρ, hρs, if_pos ⟨rfl, h2⟩]
        obtain ⟨a, ha⟩ := Rel.nilsl_inv (CellOk.rel (fun _ _ h => by cases h) m2)
        exact ⟨rfl, rfl, a, ha⟩
    · rw [h3] at hρ; cases hρ
    · rw [h4] at hρ
      have hrow := h.rows _ _ _ _ _ h3 hρ
      refine ⟨fun hsz => ?_, fun hsz => (hrow.map hsz).mono hle (by rw [e1w]), by rw [e1w]; exact hrow.lt⟩
      obtain ⟨cs, T, k1, k2, k3⟩ := hrow.cells hsz
      refine ⟨cs, T, by rw [e1w]; exact k1, k2, fun i j hi hj => ?_⟩
      obtain ⟨u, m1, m2⟩ := k3 i j hi hj
      refine ⟨u, m1, ?_⟩
      by_cases hid : π.1 = pid
      · obtain ⟨id, sub⟩ := π
        simp only at hid
        subst hid
        cases sub with
        | none => exact absurd rfl n1
        | some io =>
          -- an inner place holds no inner slices
          generalize (q.getD i []).getD j .any = a at m2
          cases a with
          | osl s' q' => exact absurd m2.1 (by simp)
          | _ => exact CellOk.of_rel (fun _ _ h => by cases h) ((CellOk.rel (fun _ _ h => by cases h) m2).mono hle)
      · exact cell π i j _ u (by rw [e1ρ]; exact hρne (π.1, some (i, j)) hid) m2
  · rw [e1s] at hp
    rw [e1ρ] at hρ
    rcases hpc π _ hp with ⟨rfl, hy⟩ | ⟨i, o, rfl, _, hy, _⟩ | ⟨n1, h3, h4⟩
    · simp only [Prod.mk.injEq] at hy
      obtain ⟨rfl, rfl⟩ := hy
      have := h.nils _ _ _ hpnone hρ
      rw [this] at hl
      exact List.length_eq_zero_iff.1 hl
    · simp only [Prod.mk.injEq] at hy; exact hy.2
    · rw [h4] at hρ; exact h.nils _ _ _ h3 hρ
  · rw [e1s] at hp hp'
    rw [e1ρ] at hρ hρ'
    have old : ∀ π y b base, pcontent ((pid, some ⟨R.gen, g, R.sz, es'⟩) :: x.s) π = some y → ρ' π = some (b, base) → ∃ y', pcontent x.s π = some y' ∧ x.ρ π = some (b, base) := fun π y b base h1 h2 => by
      rcases hpc π y h1 with ⟨rfl, rfl⟩ | ⟨i, o, rfl, _, _, h3⟩ | ⟨_, h3, h4⟩
      · exact ⟨_, hpnone, h2⟩
      · rw [h3] at h2; cases h2
      · exact ⟨_, h3, by rw [← h4]; exact h2⟩
    obtain ⟨_, a1, a2⟩ := old _ _ _ _ hp hρ
    obtain ⟨_, b1, b2⟩ := old _ _ _ _ hp' hρ'
    exact h.inj _ _ _ _ _ _ _ a1 b1 a2 b2
  · rw [e1s, sget_cons] at hR'
    rw [e1c]
    split at hR'
    · simp only [Option.some.injEq] at hR'; subst hR'; exact ⟨.inl (h.gens _ _ hR).1, .inr rfl⟩
    · have := h.gens id R' hR'; exact ⟨.inl this.1, .inl this.2⟩
  · rw [e1s] at hp
    rcases hpc π _ hp with ⟨rfl, hy⟩ | ⟨i, o, rfl, _, hy, _⟩ | ⟨n1, h3, h4⟩
    · simp only [Prod.mk.injEq] at hy
      obtain ⟨rfl, rfl⟩ := hy
      intro hsz e he
      obtain ⟨i, hi, rfl⟩ := List.mem_iff_getElem.1 he
      have h1 := (hes i (by omega)).1
      rw [List.getD_eq_getElem?_getD, List.getElem?_eq_getElem hi, List.getD_eq_getElem?_getD, List.getElem?_eq_getElem (by omega)] at h1
      simp only [Option.getD_some] at h1
      rw [h1]
      exact h.lens _ _ _ hpnone hRz _ (List.getElem_mem _)
    · simp only [Prod.mk.injEq] at hy; rw [hy.2]; intro _ e he; cases he
    · exact h.lens _ _ _ h3
  · rw [e1F] at hb
    obtain ⟨k1, k2⟩ := h.apart b hb
    exact ⟨by rw [e1w]; exact k1, fun ho => k2 (hown b ho)⟩

theorem AW.nils_own {pid : Nat} (sz : Nat) {R : Root} (es' : List (List AV)) (hR : sget s pid = some R) (hRz : R.sz ≠ mapSz) (hl : es'.length = R.es.length)
    (hes : ∀ i, i < R.es.length → (es'.getD i []).length = (R.es.getD i []).length ∧ ∀ j, (es'.getD i []).getD j .any = (R.es.getD i []).getD j .any ∨ ((R.es.getD i []).getD j .any = .nilsl ∧ (es'.getD i []).getD j .any = .osl sz []))
    (h : AW P n c Q e ((pid, some ⟨R.gen, k, R.sz, es'⟩) :: s) (k + 1)) : AW P n c Q e s k :=
  AW.step (fun _ _ _ hst => hst.nils_own k clk_fresh.1 hR hRz hl hes) h

end
end Go.AM

/- Values seen as pure trees in new memory; weaker readings of values; a nil slice is an empty root; a body's contract. -/
namespace Go.AM

/-- A value as a pure tree that reads in owned memory alone. -/
def vwF (s : Store) : Nat → AV → AV
  | 0, v => match v with
    | .int k n => .int k n
    | .bool b => .bool b
    | .str b => .str b
    | .nilp => .nilp
    | .nilsl => .nilsl
    | .nilq b => .nilq b
    | _ => .any
  | d + 1, v => match v with
    | .int k n => .int k n
    | .bool b => .bool b
    | .str b => .str b
    | .nilp => .nilp
    | .nilsl => .nilsl
    | .nilq b => .nilq b
    | .rsl sz [] => .rsl sz []
    | .sl r off len _ => match content s r with
      | some (sz, es) => .rsl sz (((es.drop off).take len).map fun cs => cs.map fun c => match c with
        | .osl sz es => .rsl sz (es.map fun cs => cs.map (vwF s d))
        | c => vwF s d c)
      | none => .any
    | .ptr r i o => match content s r with
      | some (_, es) => .rptr (((es.getD i []).drop o).map fun c => match c with
        | .osl sz es => .rsl sz (es.map fun cs => cs.map (vwF s d))
        | c => vwF s d c)
      | none => .any
    | .agg cs => .agg (cs.map (vwF s d))
    | .tup cs => .tup (cs.map (vwF s d))
    | .fn f cs => .fn f (cs.map (vwF s d))
    | _ => .any

def vwcF (s : Store) (d : Nat) (c : AV) : AV :=
  match c with
  | .osl sz es => .rsl sz (es.map fun cs => cs.map (vwF s d))
  | c => vwF s d c

/-- A place seen as an immutable slice. -/
theorem place_rslF {x : Cx} (h : StOk x) {imm0 : Nat → Prop} (himm : ∀ b, x.owned b → imm0 b) {π : Pl} {sz : Nat} {es : List (List AV)} (hp : pcontent x.s π = some (sz, es))
    {off len : Nat} {u : Value} (hle : off + len ≤ es.length) (hd : Hdr x.w (x.ρ π) sz off len u) (f : AV → AV)
    (hf : ∀ i j c v, i < es.length → j < sz → (es.getD i []).getD j .any = c → CellOk x π i j c v → RelP imm0 x.w (f c) v) :
    RelP imm0 x.w (.rsl sz (((es.drop off).take len).map fun cs => cs.map f)) u := by
  have hlen : ((es.drop off).take len).length = len := by simp; omega
  unfold Hdr at hd
  split at hd
  · obtain ⟨_, rfl, a, rfl⟩ := hd
    simpa using RelP.rnil sz a 0
  · rename_i b base hρ
    obtain ⟨a, cap, rfl, hc, hcase⟩ := hd
    by_cases hl0 : len = 0
    · subst hl0; simpa using RelP.rnil sz a cap
    rcases hcase with hc0 | ⟨rfl, hsz⟩
    · omega
    · have hszm : sz ≠ mapSz := fun e => by
        obtain ⟨_, _, l, c, m1, _⟩ := (h.rows _ _ _ _ _ hp hρ).map e
        have hbs : blockSize x.w b = 0 := by simp [blockSize, m1]
        rw [hbs, e] at hsz
        have : 1 ≤ off + cap := by omega
        have := Nat.mul_le_mul_right mapSz this
        unfold mapSz at *
        omega
      obtain ⟨cs, T, g1, g2, g3⟩ := (h.rows _ _ _ _ _ hp hρ).cells hszm
      have hb : imm0 b := himm b ⟨π, _, base, hp, hρ⟩
      have hlens := h.lens _ _ _ hp hszm
      have hcell : ∀ i j, i < len → j < sz → ∃ v, x.w.cell? ⟨b, base + off * sz + i * sz + j, none⟩ = some v ∧ RelP imm0 x.w (f ((es.getD (off + i) []).getD j .any)) v := fun i j hi hj => by
        obtain ⟨v, e1, e2⟩ := g3 (off + i) j (by omega) hj
        refine ⟨v, ?_, hf _ _ _ _ (by omega) hj rfl e2⟩
        rw [Nat.add_mul, ← Nat.add_assoc] at e1
        simp [World.cell?, g1, e1]
      have hget : ∀ i, i < len → (((es.drop off).take len).map fun cs => cs.map f).getD i [] = (es.getD (off + i) []).map f := fun i hi => by
        simp [List.getD_eq_getElem?_getD, hi]
        rw [List.getElem?_eq_getElem (by omega)]
        simp
      have hll : ∀ i, i < len → (es.getD (off + i) []).length = sz := fun i hi => by
        rw [List.getD_eq_getElem?_getD, List.getElem?_eq_getElem (by omega)]
        exact hlens _ (List.getElem_mem _)
      have := RelP.rsl (imm := imm0) (w := x.w) sz (((es.drop off).take len).map fun cs => cs.map f) b (base + off * sz) cap
        (fun i j => (x.w.cell? ⟨b, base + off * sz + i * sz + j, none⟩).getD undef) (by simpa using (show min len (es.length - off) ≤ cap by omega)) hb
        (fun e he => by
          obtain ⟨cs', hcs', rfl⟩ := List.mem_map.1 he
          simp only [List.length_map]
          exact hlens _ (List.mem_of_mem_drop (List.mem_of_mem_take hcs')))
        (fun i j hi hj => by
          simp only [List.length_map, hlen] at hi
          obtain ⟨v, e1, _⟩ := hcell i j hi hj
          rw [e1]; rfl)
        (fun i j hi hj => by
          simp only [List.length_map, hlen] at hi
          obtain ⟨v, e1, e2⟩ := hcell i j hi hj
          simp only [e1, Option.getD_some, hget i hi]
          rw [getD_map_vw f _ _ .any _ (by rw [hll i hi]; exact hj)]
          exact e2)
      simp only [List.length_map, hlen] at this
      exact this

theorem vwF_sound {x : Cx} (h : StOk x) {imm0 : Nat → Prop} (himm : ∀ b, x.owned b → imm0 b) : ∀ (d : Nat) (v : AV) (u : Value), Rel x v u → RelP imm0 x.w (vwF x.s d v) u := by
  have hfl : ∀ (d : Nat) (v : AV) (u : Value), Rel x v u → vwF x.s d v = .any ∨ (vwF x.s d v = v ∧ ((∃ k n, v = .int k n) ∨ (∃ b, v = .bool b) ∨ (∃ b, v = .str b) ∨ v = .nilp ∨ v = .nilsl ∨ (∃ b, v = .nilq b) ∨ ∃ sz, v = .rsl sz [])) → RelP imm0 x.w (vwF x.s d v) u := by
    rintro d v u hr (e | ⟨e, h1⟩)
    · rw [e]; exact .any _
    rw [e]
    rcases h1 with ⟨k, n, rfl⟩ | ⟨b, rfl⟩ | ⟨b, rfl⟩ | rfl | rfl | ⟨b, rfl⟩ | ⟨sz, rfl⟩
    all_goals (cases hr with | pure _ _ hp => cases hp <;> first | exact RelP.nilq _ _ (by assumption) | constructor | (rename_i h1 _ _ _ _; exact RelP.rnil _ _ _))
  intro d
  induction d with
  | zero =>
    intro v u hr
    cases v
    case int | bool | str | nilp | nilsl | nilq => exact hfl 0 _ u hr (.inr ⟨rfl, by simp⟩)
    all_goals exact .any u
  | succ d ih =>
    intro v u hr
    have hlist : ∀ (cs : List AV) (vs : List Value), cs.length = vs.length → (∀ i, i < cs.length → Rel x (cs.getD i .any) (vs.getD i undef)) →
        ∀ i, i < (cs.map (vwF x.s d)).length → RelP imm0 x.w ((cs.map (vwF x.s d)).getD i .any) (vs.getD i undef) := fun cs vs _ hh i hi => by
      simp only [List.length_map] at hi
      rw [getD_map_vw _ _ _ .any _ hi]
      exact ih _ _ (hh i hi)
    have hcell : ∀ (π : Pl) (i j : Nat) (c : AV) (v : Value) (sz : Nat) (es : List (List AV)), pcontent x.s π = some (sz, es) → i < es.length → j < sz → (es.getD i []).getD j .any = c → CellOk x π i j c v → RelP imm0 x.w (vwcF x.s d c) v := by
      intro π i j c v sz es hp hi hj hc hco
      unfold vwcF
      split
      · rename_i sz' q
        obtain ⟨hπ, hh⟩ := hco
        have hpi : pcontent x.s (π.1, some (i, j)) = some (sz', q) := by
          unfold pcontent at hp ⊢
          cases e1 : sget x.s π.1 with
          | none => simp [e1] at hp
          | some R =>
            simp only [e1, hπ, Option.some.injEq, Prod.mk.injEq] at hp
            simp only
            rw [← hp.2] at hc
            exact inner_of hc
        have := place_rslF h himm hpi (off := 0) (len := q.length) (by omega) hh (vwF x.s d) (fun i' j' c' v' _ _ _ hco' => by
          refine ih _ _ (hco'.rel fun sz'' q'' e => ?_)
          subst e
          exact absurd hco'.1 (by simp))
        simpa using this
      · rename_i hno
        exact ih _ _ (hco.rel fun sz'' q'' e => hno _ _ e)
    cases v
    case int | bool | str | nilp | nilsl | nilq => exact hfl (d + 1) _ u hr (.inr ⟨rfl, by simp⟩)
    case rsl sz es => cases es with
      | nil => exact hfl (d + 1) _ u hr (.inr ⟨rfl, by simp⟩)
      | cons => exact .any u
    case sl r off len kc =>
      obtain ⟨a, cap, rfl, _, hok, hh⟩ := hr.sl_inv
      simp only [vwF]
      split
      · rename_i sz es hc
        obtain ⟨h1, h2⟩ := hh _ _ hc
        exact place_rslF h himm (pcontent_of_content hc) h1 h2 (vwcF x.s d) (fun i j c v hi hj hc' hco => hcell _ _ _ _ _ _ _ (pcontent_of_content hc) hi hj hc' hco)
      · exact .any _
    case ptr r i o =>
      obtain ⟨a, rfl, hok, hh⟩ := hr.ptr_inv
      simp only [vwF]
      split
      · rename_i sz es hc
        obtain ⟨hi, b, base, hρ, rfl⟩ := hh _ _ hc
        have hp := pcontent_of_content hc
        have hszm := (content_iff.1 hc).2
        obtain ⟨cs, T, g1, g2, g3⟩ := (h.rows _ _ _ _ _ hp hρ).cells hszm
        have hlen : (es.getD i []).length = sz := by
          rw [List.getD_eq_getElem?_getD, List.getElem?_eq_getElem hi]; exact h.lens _ _ _ hp hszm _ (List.getElem_mem hi)
        have hb : imm0 b := himm b ⟨_, _, base, hp, hρ⟩
        have hcl : ∀ j, j < ((es.getD i []).drop o).length → ∃ v, x.w.cell? ⟨b, base + i * sz + o + j, none⟩ = some v ∧ RelP imm0 x.w (vwcF x.s d ((es.getD i []).getD (o + j) .any)) v := fun j hj => by
          simp only [List.length_drop, hlen] at hj
          obtain ⟨v, e1, e2⟩ := g3 i (o + j) hi (by omega)
          refine ⟨v, by rw [Nat.add_assoc]; simp [World.cell?, g1, e1], hcell _ _ _ _ _ _ _ hp hi (by omega) rfl e2⟩
        refine .rptr _ b _ (fun j => (x.w.cell? ⟨b, base + i * sz + o + j, none⟩).getD undef) hb (fun j hj => ?_) (fun j hj => ?_)
        · simp only [List.length_map] at hj
          obtain ⟨v, e1, _⟩ := hcl j hj
          simp [e1]
        · simp only [List.length_map] at hj
          obtain ⟨v, e1, e2⟩ := hcl j hj
          simp only [e1, Option.getD_some]
          have : (((es.getD i []).drop o).map (vwcF x.s d)).getD j .any = vwcF x.s d ((es.getD i []).getD (o + j) .any) := by
            rw [getD_map_vw _ _ _ .any _ hj]
            simp [List.getD_eq_getElem?_getD]
          exact this ▸ e2
      · exact .any _
    case agg cs =>
      obtain ⟨vs, rfl, hl, hh⟩ := hr.agg_inv
      exact .agg _ vs (by simpa using hl) (hlist cs vs hl hh)
    case tup cs =>
      obtain ⟨vs, rfl, hl, hh⟩ := hr.tup_inv
      exact .tup _ vs (by simpa using hl) (hlist cs vs hl hh)
    case fn f cs =>
      obtain ⟨vs, rfl, hl, hh⟩ := hr.fn_inv
      exact .fn f _ vs (by simpa using hl) (hlist cs vs hl hh)
    all_goals exact .any u

end Go.AM

/- Weaker readings of values; nil slices as empty roots; the contract of a body that reads. -/
namespace Go.AM

/-- What is read as v may be read as v'. -/
def Wk (v v' : AV) : Prop := ∀ imm w u, RelP imm w v u → RelP imm w v' u

theorem Wk.refl (v : AV) : Wk v v := fun _ _ _ h => h
theorem Wk.of_eq {v v' : AV} (h : v = v') : Wk v v' := h ▸ Wk.refl v
theorem Wk.trans {a b c : AV} (h : Wk a b) (k : Wk b c) : Wk a c := fun _ _ _ r => k _ _ _ (h _ _ _ r)
theorem Wk.any (v : AV) : Wk v .any := fun _ _ u _ => .any u
theorem Wk.nilq (b : Bool) : Wk (.nilq b) .nilsl := fun _ _ _ h => by
  cases h; exact .nilsl _
theorem Wk.nil (sz : Nat) : Wk .nilsl (.rsl sz []) := fun _ _ _ h => by
  cases h; exact .rnil _ _ _

theorem Wk.list {cs cs' : List AV} (hl : cs.length = cs'.length) (h : ∀ i, i < cs.length → Wk (cs.getD i .any) (cs'.getD i .any)) {imm : Nat → Prop} {w : World} {vs : List Value}
    (hr : ∀ i, i < cs.length → RelP imm w (cs.getD i .any) (vs.getD i undef)) : ∀ i, i < cs'.length → RelP imm w (cs'.getD i .any) (vs.getD i undef) :=
  fun i hi => h i (by omega) _ _ _ (hr i (by omega))
theorem Wk.agg {cs cs' : List AV} (hl : cs.length = cs'.length) (h : ∀ i, i < cs.length → Wk (cs.getD i .any) (cs'.getD i .any)) : Wk (.agg cs) (.agg cs') := fun _ _ _ hr => by
  cases hr with | agg _ vs hl' hr' => exact .agg _ _ (by omega) (Wk.list hl h hr')
theorem Wk.tup {cs cs' : List AV} (hl : cs.length = cs'.length) (h : ∀ i, i < cs.length → Wk (cs.getD i .any) (cs'.getD i .any)) : Wk (.tup cs) (.tup cs') := fun _ _ _ hr => by
  cases hr with | tup _ vs hl' hr' => exact .tup _ _ (by omega) (Wk.list hl h hr')
theorem Wk.rsl {sz : Nat} {es es' : List (List AV)} (hl : es.length = es'.length) (hs : ∀ i, i < es.length → (es.getD i []).length = (es'.getD i []).length)
    (h : ∀ i j, i < es.length → j < (es.getD i []).length → Wk ((es.getD i []).getD j .any) ((es'.getD i []).getD j .any)) : Wk (.rsl sz es) (.rsl sz es') := fun imm w u hr => by
  cases hr with
  | rnil _ a cap => obtain rfl := List.length_eq_zero_iff.1 hl.symm; exact .rnil _ _ _
  | rsl _ _ b base cap val hc hb hs' hv hr' =>
    have hrow : ∀ i, i < es.length → (es.getD i []).length = sz := fun i hi => by
      rw [List.getD_eq_getElem?_getD, List.getElem?_eq_getElem hi]; exact hs' _ (List.getElem_mem hi)
    rw [hl]
    refine .rsl sz es' b base cap val (by omega) hb (fun e he => ?_) (fun i j hi hj => hv i j (by omega) hj) (fun i j hi hj => h i j (by omega) (by rw [hrow i (by omega)]; exact hj) _ _ _ (hr' i j (by omega) hj))
    obtain ⟨i, hi, rfl⟩ := List.mem_iff_getElem.1 he
    have := hs i (by omega)
    rw [hrow i (by omega)] at this
    rw [this, List.getD_eq_getElem?_getD, List.getElem?_eq_getElem hi]; rfl
inductive WkL : List AV → List AV → Prop
  | nil : WkL [] []
  | cons {a a' : AV} {l l' : List AV} (h : Wk a a') (t : WkL l l') : WkL (a :: l) (a' :: l')
theorem WkL.spec {l l' : List AV} (h : WkL l l') : l.length = l'.length ∧ ∀ i, i < l.length → Wk (l.getD i .any) (l'.getD i .any) := by
  induction h with
  | nil => exact ⟨rfl, by simp⟩
  | cons h t ih =>
    refine ⟨by simp [ih.1], fun i hi => ?_⟩
    cases i with
    | zero => simpa using h
    | succ i => simpa using ih.2 i (by simpa using hi)

theorem Reads.wk {P : Program} {f : FuncId} {fr : Bool} {args args' : List AV} {r r' : AV} (h : Reads P f fr args' r) (ha : WkL args args') (hr : Wk r r') : Reads P f fr args r' := by
  obtain ⟨hl, hw⟩ := ha.spec
  intro w F us hF hgl hlen hrel
  exact (h w F us hF hgl (by omega) (Wk.list hl hw hrel)).mono fun e w' ⟨u, h1, h2, h3⟩ => ⟨u, h1, h2, hr _ _ _ h3⟩

/-- A nil slice becomes the reference to an empty root. -/
theorem AW.nilOwn {P : Program} {n : Nat} {c : Code} {Q : AX → Post} {e : Env} {s : Store} {k : Nat} (t id sz : Nat) (he : eget e t = .nilsl)
    (h : AW P n c Q ((t, .sl ⟨id, k, none⟩ 0 0 none) :: e) ((id, some ⟨k, k, sz, []⟩) :: s) (k + 1)) (hz0 : sz ≠ mapSz := by decide) : AW P n c Q e s k := by
  intro x0 ρ a w hg hst
  have h1 := hst.ok.reroot k clk_fresh.1 id sz hz0 [] none w (fun i o sz' q e => by simp at e) (by simp) (Nat.le_refl _) (fun _ _ _ => rfl) (fun _ _ => rfl) rfl rfl rfl rfl
  have h2 := h1.ok.goes_grow (s' := (id, some ⟨k, k, sz, []⟩) :: s) (c' := clk (k + 1)) (w' := w) (fun _ _ h => h) clk_succ (.refl _ _)
  refine h x0 _ a w (hg.trans (h1.trans h2)) ⟨h2.ok, hst.size, hst.defers, fun t' => ?_⟩
  rw [eget_cons]
  by_cases ht : t = t'
  · subst ht
    rw [if_pos rfl]
    have h3 := hst.env t
    rw [he] at h3
    obtain ⟨ad, e0⟩ := h3.nilsl_inv
    rw [e0]
    refine .sl _ _ _ _ _ _ (by simp) ⟨show clk (k + 1) k from Nat.lt_succ_self _, by simp⟩ fun sz' es hc => ?_
    have hc := (content_iff.1 hc).1
    simp only [rcontent, sget_cons, if_true] at hc
    simp only [Option.some.injEq, Prod.mk.injEq] at hc
    obtain ⟨rfl, rfl⟩ := hc
    refine ⟨by simp, ?_⟩
    simp only [Ref.pl, Option.map_none, upd_self]
    exact ⟨rfl, rfl, _, rfl⟩
  · rw [if_neg ht]
    exact (hst.env t').mono (h1.trans h2).le

theorem reads_core {P : Program} {f : FuncId} {fn : Func} {c : Code} {args : List AV} {n : Nat} {rs : List ResultVar} (hf : P.funcs[f]? = some fn) (hb : fn.body = some c) (hm : fn.ntmps = n) (hrs : fn.results.toList = rs) (hn : args.length ≤ n) {G : AV → Store → Nat → Prop}
    (h : AW P n c (retQ P rs G) (argsE 0 args) [] 0) {w : World} {F : Nat → Prop} {us : List Value} (hF : ∀ b, F b → b < w.heap.size) (hgl : GL (immF w F) w) (hl : us.length = args.length) (hr : ∀ i, i < args.length → RelP (immF w F) w (args.getD i .any) (us.getD i undef)) :
    Calls P f us.toArray w fun e w' => ∃ u ρ v s k, e = .returned u ∧ Ext (fun _ => False) w w' ∧ G v s k ∧ Goes ⟨fun _ => none, [], clk 0, w, F⟩ ⟨ρ, s, clk k, w', F⟩ ∧ Rel ⟨ρ, s, clk k, w', F⟩ v u := by
  subst hm; subst hrs
  refine calls_of_wp hf hb ?_
  have hst : St ⟨fun _ => none, [], clk 0, w, F⟩ (argsE 0 args) fn.ntmps { tmps := us.toArray ++ Array.replicate (fn.ntmps - us.toArray.size) undef, defers := [] } := by
    refine ⟨start_ok hF hgl, by simp; omega, rfl, fun t => ?_⟩
    rw [eget_argsE]
    simp only [Nat.zero_le, if_true, Nat.sub_zero]
    by_cases ht : t < args.length
    · have := hr t ht
      have e : (us.toArray ++ Array.replicate (fn.ntmps - us.toArray.size) undef).getD t undef = us.getD t undef := by
        have : t < us.length := by omega
        simp [Array.getElem?_append, this]
      rw [e]
      exact .pure _ _ (this.mono fun b hb => ⟨⟨hb.1, fun ⟨π, y, base, h1, _⟩ => by simp [pcontent, sget] at h1, hb.2⟩, rfl⟩)
    · rw [getD_out (by omega)]; exact .any _
  have := h ⟨fun _ => none, [], clk 0, w, F⟩ (fun _ => none) _ w (.refl hst.ok) hst
  refine wp_mono this fun ex a' w' hl => ?_
  have fin : Lift ⟨fun _ => none, [], clk 0, w, F⟩ fn.ntmps (fun e s k => resOk P fn.results.toList e s fun v => G v s k) a' w' →
      a'.defers = [] ∧ ∃ v, (results fn a'.tmps).run P w' = .ok v w' ∧ ∃ u ρ v' s k, Ending.returned v = .returned u ∧ Ext (fun _ => False) w w' ∧ G v' s k ∧ Goes ⟨fun _ => none, [], clk 0, w, F⟩ ⟨ρ, s, clk k, w', F⟩ ∧ Rel ⟨ρ, s, clk k, w', F⟩ v' u := fun hl => by
    obtain ⟨ρ, e, s, k, h1, h2, h3⟩ := hl
    obtain ⟨v, u, k1, k2, k3⟩ := resOk_sound h3 h1
    exact ⟨h3.defers, u, k2, u, ρ, v, s, k, rfl, ⟨h2.ext.os, h2.ext.tape, h2.ext.output, h2.ext.size, fun b hb _ => h2.ext.block b hb fun ⟨π, y, base, e1, _⟩ => by simp [pcontent, sget] at e1, h2.ext.drawn⟩, k1, h2, k3⟩
  cases ex with
  | normal => exact fin hl
  | ret => exact fin hl
  | exit id =>
    obtain ⟨_, _, _, _, h1, _⟩ := hl
    exact h1.elim
  | _ => exact hl.elim

/-- The contract of a body that writes nothing old. -/
theorem Reads.body {P : Program} {f : FuncId} {fn : Func} {c : Code} {args : List AV} {r : AV} {n : Nat} {rs : List ResultVar} (hf : P.funcs[f]? = some fn) (hb : fn.body = some c) (hm : fn.ntmps = n) (hrs : fn.results.toList = rs) (hn : args.length ≤ n)
    (h : AW P n c (retQ P rs fun v s _ => Wk (vw s 5 v) r) (argsE 0 args) [] 0) : Reads P f false args r := by
  intro w F us hF hgl hl hr
  refine (reads_core hf hb hm hrs hn h hF hgl hl hr).mono fun e w' ⟨u, ρ, v, s, k, h1, h2, h3, h4, h5⟩ => ⟨u, h1, h2, ?_⟩
  exact h3 _ _ _ (vw_sound h4.ok (imm0 := immF w' F) (fun b hb hF => ⟨hb, hF⟩) 5 v u h5)

/-- The same, where the answer lies in new memory. -/
theorem Reads.bodyF {P : Program} {f : FuncId} {fn : Func} {c : Code} {args : List AV} {r : AV} {n : Nat} {rs : List ResultVar} (hf : P.funcs[f]? = some fn) (hb : fn.body = some c) (hm : fn.ntmps = n) (hrs : fn.results.toList = rs) (hn : args.length ≤ n)
    (h : AW P n c (retQ P rs fun v s _ => Wk (vwF s 5 v) r) (argsE 0 args) [] 0) : Reads P f true args r := by
  intro w F us hF hgl hl hr
  have hr' : ∀ i, i < args.length → RelP (immF w fun _ => False) w (args.getD i .any) (us.getD i undef) := fun i hi => (hr i hi).mono fun b hb => ⟨⟨hb.1, fun h => h⟩, rfl⟩
  refine (reads_core hf hb hm hrs hn h (F := fun _ => False) (fun _ h => h.elim) (hgl.mono fun b hb => ⟨⟨hb.1, fun h => h⟩, rfl⟩) hl hr').mono fun e w' ⟨u, ρ, v, s, k, h1, h2, h3, h4, h5⟩ => ⟨u, h1, h2, ?_⟩
  refine h3 _ _ _ (vwF_sound h4.ok (fun b hb => ⟨?_, fun hlt => ?_⟩) 5 v u h5)
  · obtain ⟨π, y, base, k1, k2⟩ := hb
    exact h4.ok.live_lt k1 k2
  · simp only [if_true] at hlt
    exact (h4.le.imm b ⟨hlt, fun ⟨π, y, base, e1, _⟩ => by simp [pcontent, sget] at e1, fun h => h⟩).1.2.1 hb

end Go.AM

/- The views, step by step. -/
namespace Go.AM
theorem env_cons {k : Nat} {v v' : AV} {l l' : Env} (h : v = v') (t : l = l') : (k, v) :: l = (k, v') :: l' := by rw [h, t]
theorem st_cons {k : Nat} {g g' v v' sz : Nat} {es es' : List (List AV)} {l l' : Store} (hg : g = g') (hv : v = v') (h : es = es') (t : l = l') : ((k, some ⟨g, v, sz, es⟩) :: l : Store) = (k, some ⟨g', v', sz, es'⟩) :: l' := by rw [h, t, hg, hv]
theorem int_eq {k : IntKind} {a b : Int} (h : a = b) : AV.int k a = .int k b := by rw [h]
theorem bool_eq {a b : Bool} (h : a = b) : AV.bool a = .bool b := by rw [h]
theorem rsl_eq {sz : Nat} {a b : List (List AV)} (h : a = b) : AV.rsl sz a = .rsl sz b := by rw [h]
theorem osl_eq {sz : Nat} {a b : List (List AV)} (h : a = b) : AV.osl sz a = .osl sz b := by rw [h]
theorem sl_eq {r r' : Ref} {o o' l l' : Nat} {kc : Option Nat} (hr : r = r') (ho : o = o') (h : l = l') : AV.sl r o l kc = .sl r' o' l' kc := by rw [hr, ho, h]
theorem ptr_eq {r r' : Ref} {o o' l l' : Nat} (hr : r = r') (ho : o = o') (h : l = l') : AV.ptr r o l = .ptr r' o' l' := by rw [hr, ho, h]
theorem agg_eq {a b : List AV} (h : a = b) : AV.agg a = .agg b := by rw [h]
theorem row_cons {v v' : AV} {l l' : List AV} (h : v = v') (t : l = l') : v :: l = v' :: l' := by rw [h, t]
theorem es_cons {v v' : List AV} {l l' : List (List AV)} (h : v = v') (t : l = l') : v :: l = v' :: l' := by rw [h, t]
/-- A root becomes the content of a cell that refers to it. -/
def adoptP (s : Store) (pid i o d k : Nat) (K : Store → Prop) : Prop :=
  match sget s pid, sget s d with
  | some R, some D => match (R.es.getD i []).getD o .any with
    | .sl r off len _ => r.id = d ∧ r.gen = D.gen ∧ r.sub = none ∧ off = 0 ∧ d ≠ pid ∧ D.es.length = len ∧ noOsl D.es ∧ R.sz ≠ mapSz ∧ D.sz ≠ mapSz ∧ K ((d, none) :: (pid, some ⟨R.gen, k, R.sz, R.es.set i ((R.es.getD i []).set o (.osl D.sz D.es))⟩) :: s)
    | _ => False
  | _, _ => False
theorem AW.adoptK {P : Program} {n : Nat} {c : Code} {Q : AX → Post} {e : Env} {s : Store} {k : Nat} (pid i o d : Nat) (h : adoptP s pid i o d k fun s' => AW P n c Q e s' (k + 1)) : AW P n c Q e s k := by
  unfold adoptP at h
  split at h
  · rename_i R D hR hD
    split at h
    · rename_i r off len kc hcell
      obtain ⟨h1, h2, h3, rfl, h5, h6, h7, h9, h10, h8⟩ := h
      obtain ⟨id, gen, sub⟩ := r
      simp only at h1 h2 h3
      subst h1; subst h2; subst h3
      exact AW.adopt hR hcell hD rfl h6 h7 h5 h9 h10 h8
    · exact h.elim
  · exact h.elim
theorem AW.loopE {P : Program} {n : Nat} {Q : AX → Post} {e : Env} {s : Store} {k : Nat} {c : Code} (I : Nat → Post) (h0 : ∃ m, I m e s k)
    (hr : ∀ m e s k, I m e s k → AW P n c (thenQ (fun e' s' k' => ∃ m', m' < m ∧ I m' e' s' k') Q) e s k) : AW P n (.loop c) Q e s k :=
  h0.elim fun m h => AW.loop I m h hr
section
variable (s : Store) (d : Nat)
theorem vw_int (k n) : vw s d (.int k n) = .int k n := by cases d <;> rfl
theorem vw_bool (b) : vw s d (.bool b) = .bool b := by cases d <;> rfl
theorem vw_str (b) : vw s d (.str b) = .str b := by cases d <;> rfl
theorem vw_nilp : vw s d .nilp = .nilp := by cases d <;> rfl
theorem vw_nilsl : vw s d .nilsl = .nilsl := by cases d <;> rfl
theorem vw_nilq (b) : vw s d (.nilq b) = .nilq b := by cases d <;> rfl
theorem vw_rsl (sz es) : vw s d (.rsl sz es) = .rsl sz es := by cases d <;> rfl
theorem vw_rptr (cs) : vw s d (.rptr cs) = .rptr cs := by cases d <;> rfl
theorem vw_any : vw s d .any = .any := by cases d <;> rfl
theorem vw_agg (cs) : vw s (d + 1) (.agg cs) = .agg (cs.map (vw s d)) := rfl
theorem vw_tup (cs) : vw s (d + 1) (.tup cs) = .tup (cs.map (vw s d)) := rfl
theorem vw_fn (f cs) : vw s (d + 1) (.fn f cs) = .fn f (cs.map (vw s d)) := rfl
theorem vw_sl (r off len kc) : vw s (d + 1) (.sl r off len kc) = match content s r with
  | some (sz, es) => .rsl sz (((es.drop off).take len).map fun cs => cs.map (vwc s d))
  | none => .any := rfl
theorem vw_ptr (r i o) : vw s (d + 1) (.ptr r i o) = match content s r with
  | some (_, es) => .rptr (((es.getD i []).drop o).map (vwc s d))
  | none => .any := rfl
theorem vwc_osl (sz es) : vwc s d (.osl sz es) = .rsl sz (es.map fun cs => cs.map (vw s d)) := rfl
theorem vwc_int (k n) : vwc s d (.int k n) = .int k n := vw_int s d k n
theorem vwc_bool (b) : vwc s d (.bool b) = .bool b := vw_bool s d b
theorem vwc_str (b) : vwc s d (.str b) = .str b := vw_str s d b
theorem vwc_nilp : vwc s d .nilp = .nilp := vw_nilp s d
theorem vwc_nilsl : vwc s d .nilsl = .nilsl := vw_nilsl s d
theorem vwc_rsl (sz es) : vwc s d (.rsl sz es) = .rsl sz es := vw_rsl s d sz es
theorem vwc_rptr (cs) : vwc s d (.rptr cs) = .rptr cs := vw_rptr s d cs
theorem vwc_sl (r off len kc) : vwc s d (.sl r off len kc) = vw s d (.sl r off len kc) := rfl
theorem vwc_ptr (r i o) : vwc s d (.ptr r i o) = vw s d (.ptr r i o) := rfl

theorem vwF_int (k n) : vwF s d (.int k n) = .int k n := by cases d <;> rfl
theorem vwF_bool (b) : vwF s d (.bool b) = .bool b := by cases d <;> rfl
theorem vwF_str (b) : vwF s d (.str b) = .str b := by cases d <;> rfl
theorem vwF_nilp : vwF s d .nilp = .nilp := by cases d <;> rfl
theorem vwF_nilsl : vwF s d .nilsl = .nilsl := by cases d <;> rfl
theorem vwF_nilq (b) : vwF s d (.nilq b) = .nilq b := by cases d <;> rfl
theorem vwF_rnil (sz) : vwF s (d + 1) (.rsl sz []) = .rsl sz [] := rfl
theorem vwF_agg (cs) : vwF s (d + 1) (.agg cs) = .agg (cs.map (vwF s d)) := rfl
theorem vwF_tup (cs) : vwF s (d + 1) (.tup cs) = .tup (cs.map (vwF s d)) := rfl
theorem vwF_sl (r off len kc) : vwF s (d + 1) (.sl r off len kc) = match content s r with
  | some (sz, es) => .rsl sz (((es.drop off).take len).map fun cs => cs.map (vwcF s d))
  | none => .any := rfl
theorem vwF_ptr (r i o) : vwF s (d + 1) (.ptr r i o) = match content s r with
  | some (_, es) => .rptr (((es.getD i []).drop o).map (vwcF s d))
  | none => .any := rfl
theorem vwcF_osl (sz es) : vwcF s d (.osl sz es) = .rsl sz (es.map fun cs => cs.map (vwF s d)) := rfl
theorem vwcF_int (k n) : vwcF s d (.int k n) = .int k n := vwF_int s d k n
theorem vwcF_bool (b) : vwcF s d (.bool b) = .bool b := vwF_bool s d b
theorem vwcF_nilsl : vwcF s d .nilsl = .nilsl := vwF_nilsl s d
theorem vwcF_nilp : vwcF s d .nilp = .nilp := vwF_nilp s d
theorem vwcF_sl (r off len kc) : vwcF s d (.sl r off len kc) = vwF s d (.sl r off len kc) := rfl
theorem vwcF_ptr (r i o) : vwcF s d (.ptr r i o) = vwF s d (.ptr r i o) := rfl

/-- Lists of one-cell rows. -/
theorem vw_map_int (k : IntKind) (l : List Int) : (l.map fun x => [AV.int k x]).map (fun cs => cs.map (vw s d)) = l.map fun x => [AV.int k x] := by
  simp [vw_int]
theorem vwc_map_int (k : IntKind) (l : List Int) : (l.map fun x => [AV.int k x]).map (fun cs => cs.map (vwc s d)) = l.map fun x => [AV.int k x] := by
  simp [vwc_int]
theorem vwc_map_bool (l : List Bool) : (l.map fun x => [AV.bool x]).map (fun cs => cs.map (vwc s d)) = l.map fun x => [AV.bool x] := by
  simp [vwc_bool]
theorem vwF_map_int (k : IntKind) (l : List Int) : (l.map fun x => [AV.int k x]).map (fun cs => cs.map (vwF s d)) = l.map fun x => [AV.int k x] := by
  simp [vwF_int]
theorem vwcF_map_int (k : IntKind) (l : List Int) : (l.map fun x => [AV.int k x]).map (fun cs => cs.map (vwcF s d)) = l.map fun x => [AV.int k x] := by
  simp [vwcF_int]
theorem vwcF_map_bool (l : List Bool) : (l.map fun x => [AV.bool x]).map (fun cs => cs.map (vwcF s d)) = l.map fun x => [AV.bool x] := by
  simp [vwcF_bool]
end
end Go.AM

