/-
  An evaluator of the model's code over abstract values, and its soundness, part 3.
-/
import Derived.Test.YtlpfhodieopmhaaGreatDoorAeB
import Derived.LoopN
import Derived.ChangeSame
set_option linter.unusedVariables false
set_option linter.unusedSimpArgs false
set_option linter.unusedSectionVars false
set_option linter.unnecessarySimpa false
namespace Go.Proofs.YtlpfhodieopmhaaGreatDoor.Ae
open Go.RowKit

def Lst (listed : Array Bool) (i : Nat) : Prop := listed.getD i false = true
def DC (ops : Array Oper) (L : Nat → Prop) : Prop := ∀ i o, L i → ops[i]? = some o → ∀ p ∈ preds o, L p
def Anc (ops : Array Oper) (o : Oper) (j : Nat) : Prop := ∀ L : Nat → Prop, DC ops L → (∀ p ∈ preds o, L p) → L j
def TB (ops : Array Oper) (tbl : List (Nat × List Nat)) : Prop := ∀ i j, j ∈ lkA tbl i → ∃ o, ops[i]? = some o ∧ Anc ops o j

theorem elN_mem {i : Nat} : ∀ {l : List Nat}, elN i l = true ↔ i ∈ l
  | [] => by simp [elN]
  | j :: l => by
    simp only [elN, Bool.or_eq_true, List.mem_cons, elN_mem (l := l)]
    constructor
    · rintro (h | h)
      · exact .inl (Nat.eq_of_beq_eq_true h)
      · exact .inr h
    · rintro (h | h)
      · subst h; exact .inl (Nat.beq_refl i)
      · exact .inr h

theorem ancOf_ok {ops : Array Oper} {tbl : List (Nat × List Nat)} (ht : TB ops tbl) {o : Oper} {j : Nat} : ∀ {ps : List Nat}, j ∈ ancOf tbl ps → (∀ p ∈ ps, p ∈ preds o) → Anc ops o j
  | [], h, _ => by simp [ancOf] at h
  | p :: ps, h, hp => by
    have h : j = p ∨ (j ∈ lkA tbl p ∨ j ∈ ancOf tbl ps) := by
      rcases mem_addN h with e | e
      · exact .inl e
      · exact .inr (mem_uniN e)
    rcases h with h | h | h
    · subst h
      exact fun L _ hL => hL _ (hp _ List.mem_cons_self)
    · obtain ⟨op, h1, h2⟩ := ht p j h
      exact fun L hd hL => h2 L hd (hd p op (hL p (hp p List.mem_cons_self)) h1)
    · exact ancOf_ok ht h fun q hq => hp q (List.mem_cons_of_mem _ hq)

theorem TB.cons {ops : Array Oper} {tbl : List (Nat × List Nat)} (ht : TB ops tbl) {i : Nat} {o : Oper} (ho : ops[i]? = some o) : TB ops ((i, ancOf tbl (preds o)) :: tbl) := by
  intro i' j hj
  simp only [lkA] at hj
  cases hb : Nat.beq i i' with
  | true =>
    rw [hb] at hj
    have e := Nat.eq_of_beq_eq_true hb
    subst e
    exact ⟨o, ho, ancOf_ok ht hj fun _ h => h⟩
  | false => rw [hb] at hj; exact ht i' j hj

theorem preds_mem {o : Oper} {p : Nat} : p ∈ preds o ↔ ∃ e ∈ o.after, Region.binds .any e = true ∧ e.on = p := by
  simp only [preds, List.mem_map, List.mem_filter]
  constructor
  · rintro ⟨e, ⟨h1, h2⟩, h3⟩
    exact ⟨e, by simpa using h1, h2, h3⟩
  · rintro ⟨e, h1, h2, h3⟩
    exact ⟨e, ⟨by simpa using h1, h2⟩, h3⟩

/-- What a good plan says of its next operation. -/
structure Nxt (P : Program) (ops : Array Oper) (done : List Nat) (tbl : List (Nat × List Nat)) (last : Option Nat) (i : Nat) (ls : List Nat) (rest : List (Nat × List Nat)) (o : Oper) : Prop where
  new : i ∉ done
  pre : ∀ p ∈ preds o, p ∈ done
  rd : ∀ t ∈ o.looksAt ops, ∀ j ∈ done, ∀ oj, ops[j]? = some oj → oj.dst = some t → j ∈ ancOf tbl (preds o)
  dst : ∀ j oj d, j ≠ i → ops[j]? = some oj → o.dst = some d → oj.dst ≠ some d
  hv : hvN P ops done o = true → (∀ h, last = some h → h ∈ ancOf tbl (preds o)) ∧
    (∀ l ol, ops[l]? = some ol → l ∉ done → l ≠ i → opK P ol.op ≠ 0 → ∃ p ∈ preds ol, p ∉ done) ∧
    (∀ l ∈ done, ∀ ol, ops[l]? = some ol → opK P ol.op = 2 → l ∈ ancOf tbl (preds o) ∨ l ∈ ls) ∧
    (∀ d, o.dst = some d → ∀ j ∈ done, ∀ oj, ops[j]? = some oj → d ∈ oj.looksAt ops → j ∈ ancOf tbl (preds o)) ∧
    (∀ l ∈ ls, ∀ ol, ops[l]? = some ol → opK P ol.op = 2) ∧
    planGo P ops (i :: done) ((i, ancOf tbl (preds o)) :: tbl) (some i) rest = true
  li : hvN P ops done o = false → ls = [] ∧ planGo P ops (i :: done) ((i, ancOf tbl (preds o)) :: tbl) last rest = true

theorem lookOK_ok {ops : Array Oper} {done anc : List Nat} {d : Nat} (h : lookOK ops done anc (some d) = true) : ∀ j ∈ done, ∀ oj, ops[j]? = some oj → d ∈ oj.looksAt ops → j ∈ anc := by
  intro j hj oj hoj hd
  simp only [lookOK, List.all_eq_true] at h
  have := h j hj
  rw [hoj] at this
  simp only [Bool.or_eq_true, Bool.not_eq_true'] at this
  rcases this with h1 | h1
  · rw [elN_mem.2 hd] at h1; cases h1
  · exact elN_mem.1 h1

theorem planGo_cons {P : Program} {ops : Array Oper} {done : List Nat} {tbl : List (Nat × List Nat)} {last : Option Nat} {i : Nat} {ls : List Nat} {rest : List (Nat × List Nat)} (h : planGo P ops done tbl last ((i, ls) :: rest) = true) :
    ∃ o, ops[i]? = some o ∧ Nxt P ops done tbl last i ls rest o := by
  simp only [planGo] at h
  cases ho : ops[i]? with
  | none => rw [ho] at h; cases h
  | some o =>
    rw [ho] at h
    simp only [Bool.and_eq_true, Bool.not_eq_true', List.all_eq_true] at h
    obtain ⟨⟨⟨⟨h1, h2⟩, h3⟩, h4⟩, h5⟩ := h
    refine ⟨o, rfl, ⟨(fun hi => by rw [elN_mem.2 hi] at h1; cases h1), fun p hp => elN_mem.1 (h2 p hp), fun t ht j hj oj hoj hd => ?_, fun j oj d hji hoj hd hd' => ?_, fun hh => ?_, fun hh => ?_⟩⟩
    · have := h3 t ht
      simp only [rdOK, List.all_eq_true] at this
      have := this j hj
      rw [hoj] at this
      simp only [Bool.or_eq_true] at this
      rcases this with h6 | h6
      · rw [hd] at h6; simp at h6
      · exact elN_mem.1 h6
    · simp only [dstOK, List.all_eq_true, List.mem_range] at h4
      have := h4 j (Array.getElem?_eq_some_iff.1 hoj).1
      rw [hoj] at this
      simp only [Bool.or_eq_true] at this
      rcases this with h6 | h6 | h6
      · exact hji (Nat.eq_of_beq_eq_true h6)
      · rw [hd] at h6; cases h6
      · rw [hd, hd'] at h6; simp at h6
    · rw [hh] at h5
      simp only [Bool.and_eq_true] at h5
      obtain ⟨⟨⟨⟨⟨g1, g2⟩, g3⟩, g4⟩, g6⟩, g5⟩ := h5
      refine ⟨fun q hq => by subst hq; exact elN_mem.1 g1, fun l ol hol hl hli hk => ?_, fun l hl ol hol hk => ?_, fun d hd => ?_, fun l hl ol hol => ?_, g5⟩
      · simp only [List.all_eq_true, List.mem_range] at g2
        have := g2 l (Array.getElem?_eq_some_iff.1 hol).1
        rw [hol] at this
        simp only [Bool.or_eq_true, List.any_eq_true, Bool.not_eq_true'] at this
        rcases this with (h6 | h6) | h6 | ⟨p, h6, h7⟩
        · exact absurd (elN_mem.1 h6) hl
        · exact absurd (Nat.eq_of_beq_eq_true h6) hli
        · exact absurd (Nat.eq_of_beq_eq_true h6) hk
        · exact ⟨p, h6, fun hp => by rw [elN_mem.2 hp] at h7; cases h7⟩
      · simp only [List.all_eq_true] at g3
        have := g3 l hl
        rw [hol] at this
        simp only [Bool.or_eq_true, Bool.not_eq_true'] at this
        rcases this with (h6 | h6) | h6
        · rw [hk] at h6; cases h6
        · exact .inl (elN_mem.1 h6)
        · exact .inr (elN_mem.1 h6)
      · rw [hd] at g4
        exact lookOK_ok g4
      · simp only [List.all_eq_true] at g6
        have := g6 l hl
        rw [hol] at this
        exact Nat.eq_of_beq_eq_true this
    · rw [hh] at h5
      simp only [Bool.and_eq_true] at h5
      exact ⟨by simpa using h5.1, h5.2⟩

theorem planGo_nil {P : Program} {ops : Array Oper} {done : List Nat} {tbl : List (Nat × List Nat)} {last : Option Nat} (h : planGo P ops done tbl last [] = true) : ∀ i, i < ops.size → i ∈ done := by
  intro i hi
  simp only [planGo, List.all_eq_true, List.mem_range] at h
  exact elN_mem.1 (h i hi)

/-- Behind a heavy operation every other one of memory waits for it. -/
theorem chain {P : Program} {ops : Array Oper} {L : Nat → Prop} (hd : DC ops L) {i : Nat} {o : Oper} (ho : ops[i]? = some o) (hk : opK P o.op = 0) (hp : ∀ p ∈ preds o, L p) :
    ∀ {rest : List (Nat × List Nat)} {done : List Nat} {tbl : List (Nat × List Nat)} {h : Nat}, planGo P ops done tbl (some h) rest = true → TB ops tbl → i ∉ done → L h
  | [], done, tbl, h, hg, _, hi => absurd (planGo_nil hg i (Array.getElem?_eq_some_iff.1 ho).1) hi
  | (i', ls) :: rest, done, tbl, h, hg, ht, hi => by
    obtain ⟨o', ho', N⟩ := planGo_cons hg
    cases hh : hvN P ops done o' with
    | true =>
      obtain ⟨g1, _, _, _, _, g5⟩ := N.hv hh
      have key : (∀ p ∈ preds o', L p) → L h := fun hp' => ancOf_ok ht (g1 h rfl) (fun _ h => h) L hd hp'
      by_cases e : i' = i
      · subst e
        rw [ho] at ho'
        cases ho'
        exact key hp
      · have := chain hd ho hk hp g5 (ht.cons ho') (fun e' => (List.mem_cons.1 e').elim (fun e'' => e e''.symm) hi)
        exact key (hd i' o' this ho')
    | false =>
      obtain ⟨_, g2⟩ := N.li hh
      have e : i' ≠ i := fun e => by
        subst e
        rw [ho] at ho'
        cases ho'
        simp only [hvN, Bool.or_eq_false_iff] at hh
        rw [hk] at hh
        exact absurd hh.1 (by decide)
      exact chain hd ho hk hp g2 (ht.cons ho') (fun e' => (List.mem_cons.1 e').elim (fun e'' => e e''.symm) hi)

/-- If nothing may come up any more, all has come up. -/
theorem complete {P : Program} {ops : Array Oper} {L : Nat → Prop} (hr : ∀ i o, ops[i]? = some o → (∀ p ∈ preds o, L p) → L i) :
    ∀ {rest : List (Nat × List Nat)} {done : List Nat} {tbl : List (Nat × List Nat)} {last : Option Nat}, planGo P ops done tbl last rest = true → (∀ j ∈ done, L j) → ∀ i, i < ops.size → L i
  | [], done, tbl, last, hg, hd => fun i hi => hd i (planGo_nil hg i hi)
  | (i', ls) :: rest, done, tbl, last, hg, hd => by
    obtain ⟨o', ho', N⟩ := planGo_cons hg
    have h1 : L i' := hr i' o' ho' fun p hp => hd p (N.pre p hp)
    have h2 : ∀ j ∈ i' :: done, L j := fun j hj => by
      rcases List.mem_cons.1 hj with e | e
      · subst e; exact h1
      · exact hd j e
    cases hh : hvN P ops done o' with
    | true => exact complete hr (N.hv hh).2.2.2.2.2 h2
    | false => exact complete hr (N.li hh).2 h2

end Go.Proofs.YtlpfhodieopmhaaGreatDoor.Ae

namespace Go.Proofs.YtlpfhodieopmhaaGreatDoor.Ae
open Go.RowKit

def Gd (ops : Array Oper) (env : Env) (o : Oper) : Bool → Prop
  | true => o.guard = none ∨ ∃ j want d g, o.guard = some (j, want) ∧ (ops[j]?).bind (·.dst) = some d ∧ lk env d = some g ∧ ∀ x y : RO, gdP g want x y = x
  | false => ∃ j want d g, o.guard = some (j, want) ∧ (ops[j]?).bind (·.dst) = some d ∧ lk env d = some g ∧ ∀ x y : RO, gdP g want x y = y

theorem gdP_cases {g : AV} {want : Bool} {x y : RO} {r : AV × AH} (h : gdP g want x y = some r) : ((∀ x y : RO, gdP g want x y = x) ∧ x = some r) ∨ ((∀ x y : RO, gdP g want x y = y) ∧ y = some r) := by
  unfold gdP at h ⊢
  cases g with
  | bool b =>
    simp only at h ⊢
    cases hb : (b == want) with
    | true => rw [hb] at h; exact .inl ⟨fun _ _ => rfl, h⟩
    | false => rw [hb] at h; exact .inr ⟨fun _ _ => rfl, h⟩
  | tup cs =>
    cases cs with
    | nil => exact .inr ⟨fun _ _ => rfl, h⟩
    | cons _ _ => cases h
  | _ => cases h

theorem opK_le (P : Program) (op : Op) : opK P op = 0 ∨ opK P op = 1 ∨ opK P op = 2 ∨ opK P op = 3 := by
  unfold opK
  repeat' split
  all_goals decide

/-- What is promised of an operation that is planned, but not carried out yet. -/
def Pv (P : Program) (cf : Cf) (cl : Caller) (nb : Nat) (env : Env) (H : AH) (φ : Lay) (o : Oper) (v : AV) : Prop :=
  (opK P o.op = 1 ∧ ∀ H k, opc P cf cl o.op env H k = k v H) ∨
  (opK P o.op = 2 ∧ ∃ v', (∀ φ cv, V φ v' cv → V φ v cv) ∧ ∀ H2 : AH, (∀ b ob, H.objs.get b = some ob → H2.objs.get b = some ob) → ∀ k, opc P cf cl o.op env H2 k = k v' H2) ∨
  (opK P o.op = 3 ∧ ∃ wh elem es n rows mk b, (∀ H k, opc P cf cl o.op env H k = newO wh elem es n rows H k mk) ∧ (∀ c, blk (mk c) = some c) ∧ v = mk b ∧ H.objs.get b = some ⟨rows, n, es, elem, false, 0, wh⟩ ∧ φ b = none ∧ nb ≤ b)

def Pend (P : Program) (cf : Cf) (cl : Caller) (ops : Array Oper) (nb : Nat) (env : Env) (H : AH) (φ : Lay) (o : Oper) : Prop :=
  ∃ d v, o.dst = some d ∧ lk env d = some v ∧ ((Gd ops env o false ∧ v = .tup []) ∨ (Gd ops env o true ∧ Pv P cf cl nb env H φ o v))

theorem looks_opc {P : Program} {cf : Cf} {cl : Caller} {ops : Array Oper} {o : Oper} {env env' : Env} (h : ∀ t ∈ o.looksAt ops, lk env t = lk env' t) (H : AH) (k : KV) : opc P cf cl o.op env H k = opc P cf cl o.op env' H k :=
  opc_congr fun x hx t e => h t (List.mem_append_left _ (List.mem_filterMap.2 ⟨x, by simpa using hx, by rw [e]⟩))

theorem looks_Gd {ops : Array Oper} {o : Oper} {env env' : Env} (h : ∀ t ∈ o.looksAt ops, lk env t = lk env' t) {b : Bool} (hg : Gd ops env o b) : Gd ops env' o b := by
  have key : ∀ {j want d}, o.guard = some (j, want) → (ops[j]?).bind (·.dst) = some d → lk env d = lk env' d := fun {j want d} h1 h2 => h d (List.mem_append_right _ (by simp [h1, h2]))
  cases b with
  | true =>
    rcases hg with hg | ⟨j, want, d, g, h1, h2, h3, h4⟩
    · exact .inl hg
    · exact .inr ⟨j, want, d, g, h1, h2, (key h1 h2) ▸ h3, h4⟩
  | false =>
    obtain ⟨j, want, d, g, h1, h2, h3, h4⟩ := hg
    exact ⟨j, want, d, g, h1, h2, (key h1 h2) ▸ h3, h4⟩

theorem Pv.agree {P : Program} {cf : Cf} {cl : Caller} {ops : Array Oper} {nb : Nat} {env env' : Env} {H : AH} {φ : Lay} {o : Oper} {v : AV} (h : Pv P cf cl nb env H φ o v) (hl : ∀ t ∈ o.looksAt ops, lk env t = lk env' t) : Pv P cf cl nb env' H φ o v := by
  have e : ∀ H k, opc P cf cl o.op env' H k = opc P cf cl o.op env H k := fun H k => (looks_opc hl H k).symm
  rcases h with ⟨h1, h2⟩ | ⟨h1, v', h2, h3⟩ | ⟨h1, wh, elem, es, n, rows, mk, b, h2, h3⟩
  · exact .inl ⟨h1, fun H k => by rw [e, h2]⟩
  · exact .inr (.inl ⟨h1, v', h2, fun H2 hk k => by rw [e, h3 H2 hk]⟩)
  · exact .inr (.inr ⟨h1, wh, elem, es, n, rows, mk, b, fun H k => by rw [e, h2], h3⟩)

theorem kind3 {P : Program} {cf : Cf} {cl : Caller} {op : Op} {env : Env} {H : AH} {k : KV} {r : AV × AH} (hk : opK P op = 3) (h : opc P cf cl op env H k = some r) : ∃ wh elem es n rows mk, Mk P cf cl op env wh elem es n rows mk := by
  cases op with
  | alloc t => exact alloc_new h
  | box t x => exact box_new h
  | buildSlice t n ps => exact buildSlice_new h
  | makeSlice t l c => exact makeSlice_new h
  | convert s d x => exact convert_new hk h
  | call c =>
    simp only [opK] at hk
    cases hc : c.callee with
    | builtin b => rw [hc] at hk; cases b <;> cases hk
    | value f => rw [hc] at hk; cases hk
    | invoke x n => rw [hc] at hk; cases hk
  | _ => simp only [opK] at hk; cases hk

/-- An environment cut down. -/
noncomputable def resE (p : Nat → Prop) : Env → Env
  | [] => []
  | (t, v) :: r => @ite _ (p t) (Classical.propDecidable _) ((t, v) :: resE p r) (resE p r)

theorem lk_resE {p : Nat → Prop} {t : Nat} (ht : p t) : ∀ {env : Env}, lk (resE p env) t = lk env t
  | [] => rfl
  | (t', v) :: r => by
    unfold resE
    by_cases h : p t'
    · rw [if_pos h]
      simp only [lk]
      rw [lk_resE ht]
    · rw [if_neg h]
      have : Nat.beq t' t = false := by
        rw [Bool.eq_false_iff]
        intro e
        have := Nat.eq_of_beq_eq_true e
        subst this
        exact h ht
      simp only [lk, this, cond_false]
      exact lk_resE ht

theorem lk_resE' {p : Nat → Prop} {t : Nat} {v : AV} : ∀ {env : Env}, lk (resE p env) t = some v → p t
  | [], h => by simp [resE, lk] at h
  | (t', v') :: r, h => by
    unfold resE at h
    by_cases hp : p t'
    · rw [if_pos hp] at h
      simp only [lk] at h
      cases hb : Nat.beq t' t with
      | true =>
        have := Nat.eq_of_beq_eq_true hb
        subst this
        exact hp
      | false =>
        rw [hb] at h
        exact lk_resE' h
    · rw [if_neg hp] at h
      exact lk_resE' h

theorem lk_psh {d : Option Nat} {v : AV} {env : Env} {t : Nat} : lk (psh d v env) t = if d = some t then some v else lk env t := by
  cases d with
  | none => simp [psh]
  | some d =>
    simp only [psh, lk]
    cases hb : Nat.beq d t with
    | true => have := Nat.eq_of_beq_eq_true hb; subst this; simp
    | false =>
      have : d ≠ t := fun e => by subst e; rw [Nat.beq_refl] at hb; cases hb
      simp [this]

/-- The temporaries of which everyone has come up that was planned to write them. -/
def Fre (ops : Array Oper) (listed : Array Bool) (done : List Nat) (t : Nat) : Prop := ∀ j ∈ done, ∀ oj, ops[j]? = some oj → oj.dst = some t → Lst listed j

structure Sim (P : Program) (cf : Cf) (cl : Caller) (ops : Array Oper) (n base : Nat) (φ0 : Lay) (H0 : AH) (w0 : World) (φ : Lay) (H : AH) (w : World) (env : Env) (a : Act) (listed : Array Bool) (done : List Nat) : Prop where
  st : Step base φ0 H0 w0 φ H w
  size : a.tmps.size = n
  nod : a.defers = []
  tmp : ∀ t v, lk env t = some v → Fre ops listed done t → ∃ cv, a.tmps[t]? = some cv ∧ V φ v cv
  sub : ∀ j, Lst listed j → j ∈ done
  dc : DC ops (Lst listed)
  lsz : listed.size = ops.size
  pend : ∀ j ∈ done, ¬ Lst listed j → ∃ oj, ops[j]? = some oj ∧ Pend P cf cl ops H0.next env H φ oj
  look : ∀ j ∈ done, ¬ Lst listed j → ∀ oj, ops[j]? = some oj → ∀ t ∈ oj.looksAt ops, ∀ i ∈ done, ∀ oi, ops[i]? = some oi → oi.dst = some t → Anc ops oj i
  apart : ∀ i ∈ done, ∀ j ∈ done, i ≠ j → ¬ Lst listed i → ¬ Lst listed j → ∀ oi oj di dj vi vj b, ops[i]? = some oi → ops[j]? = some oj → oi.dst = some di → oj.dst = some dj → lk env di = some vi → lk env dj = some vj →
    opK P oi.op = 3 → opK P oj.op = 3 → blk vi = some b → blk vj = some b → False

section
variable {P : Program} {cf : Cf} {cl : Caller} {ops : Array Oper} {n base : Nat} {φ0 φ : Lay} {H0 H : AH} {w0 w : World} {env : Env} {a : Act} {listed : Array Bool} {done : List Nat} {Q : Exit → Act → World → Prop} {r : AV × AH}

theorem Sim.cut (S : Sim P cf cl ops n base φ0 H0 w0 φ H w env a listed done) : St n φ (resE (Fre ops listed done) env) a :=
  ⟨fun t v h => by
    have hp := lk_resE' h
    rw [lk_resE hp] at h
    exact S.tmp t v h hp, S.size, S.nod⟩

theorem Gd_wanted {o : Oper} {b : Bool} (hs : St n φ env a) (hg : Gd ops env o b) : Region.wanted o (yielded ops a.tmps) = b := by
  cases b with
  | true =>
    rcases hg with hg | ⟨j, want, d, g, h1, h2, h3, h4⟩
    · simp [Region.wanted, hg]
    · rcases gdP_ok (r := (.any, ⟨.e, 0⟩)) hs h1 h2 h3 (h4 (some (.any, ⟨.e, 0⟩)) none) with ⟨g1, _⟩ | ⟨_, g2⟩
      · exact g1
      · cases g2
  | false =>
    obtain ⟨j, want, d, g, h1, h2, h3, h4⟩ := hg
    rcases gdP_ok (r := (.any, ⟨.e, 0⟩)) hs h1 h2 h3 (h4 none (some (.any, ⟨.e, 0⟩))) with ⟨_, g2⟩ | ⟨g1, _⟩
    · cases g2
    · exact g1

theorem Lst_set {i j : Nat} (hi : i < listed.size) : Lst (listed.setIfInBounds i true) j ↔ j = i ∨ Lst listed j := by
  unfold Lst
  by_cases e : j = i
  · subst e
    simp [hi]
  · simp [e, Array.getElem?_setIfInBounds_ne (Ne.symm e)]

/-- The temporaries behind an operation. -/
theorem put_get {d : Option Nat} {cv : Value} {t : Nat} (h : d ≠ some t) : (a.put d cv).tmps[t]? = a.tmps[t]? := by
  cases d with
  | none => rfl
  | some d =>
    have : d ≠ t := fun e => h (by rw [e])
    simp [Act.put, Array.getElem?_setIfInBounds_ne this]

theorem put_get' {d : Nat} {cv : Value} (h : d < a.tmps.size) : (a.put (some d) cv).tmps[d]? = some cv := by simp [Act.put, h]

/-- An operation that was planned has come up. -/
theorem Sim.light (S : Sim P cf cl ops n base φ0 H0 w0 φ H w env a listed done) (hcl : ClOK P cf cl) (hp : PrOK P cf) (hg : GlobOK φ0 cf.ng)
    (hd : ∀ o ∈ ops.toList, ∀ t, o.dst = some t → t < n) (hdi : ∀ (i j : Nat) (oi oj : Oper) (d : Nat), i ≠ j → ops[i]? = some oi → ops[j]? = some oj → oi.dst = some d → oj.dst ≠ some d)
    {i : Nat} {o : Oper} (hi : i ∈ done) (hu : ¬ Lst listed i) (ho : ops[i]? = some o) (hpre : ∀ p ∈ preds o, Lst listed p) {K : Act → World → Prop}
    (hK : ∀ φ' w' a', Sim P cf cl ops n base φ0 H0 w0 φ' H w' env a' (listed.setIfInBounds i true) done → K a' w') : wpOp P ops Q i K a w := by
  obtain ⟨o', ho', d, v, hdst, hlk, hv⟩ := S.pend i hi hu
  rw [ho] at ho'
  cases ho'
  have hs := S.cut
  have hil : i < listed.size := by rw [S.lsz]; exact (Array.getElem?_eq_some_iff.1 ho).1
  have hdn : d < n := hd o (by have : ops.toList[i]? = some o := by simpa using ho
                               exact List.mem_of_getElem? this) d hdst
  have hag : ∀ t ∈ o.looksAt ops, lk env t = lk (resE (Fre ops listed done) env) t := fun t ht => (lk_resE fun j hj oj hoj hdj => S.look i hi hu o ho t ht j hj oj hoj hdj (Lst listed) S.dc hpre).symm
  have hge : GlobOK φ cf.ng := hg.mono S.st.le
  -- what is to be shown of the state behind it
  have fin : ∀ φ' w' cv, Step base φ0 H0 w0 φ' H w' → φ.le φ' → (∀ b, φ b = none → b < H.next → φ' b = none ∨ (opK P o.op = 3 ∧ blk v = some b)) → V φ' v cv → K (a.put o.dst cv) w' := by
    intro φ' w' cv st' hle hno hV
    refine hK φ' w' _ ⟨st', by rw [put_size]; exact S.size, by rw [put_nod]; exact S.nod, fun t u ht hf => ?_, fun j hj => ?_, fun j oj hj hoj p hp => ?_, by simp [S.lsz], fun j hj hju => ?_, fun j hj hju => ?_, fun i' hi' j hj hne hu1 hu2 => ?_⟩
    · by_cases e : d = t
      · subst e
        rw [hlk] at ht
        cases ht
        refine ⟨cv, ?_, hV⟩
        rw [hdst]
        exact put_get' (by rw [S.size]; exact hdn)
      · obtain ⟨c, c1, c2⟩ := S.tmp t u ht fun j hj oj hoj hdj => by
          rcases (Lst_set hil).1 (hf j hj oj hoj hdj) with e' | e'
          · subst e'
            rw [ho] at hoj
            cases hoj
            rw [hdst] at hdj
            cases hdj
            exact absurd rfl e
          · exact e'
        exact ⟨c, by rw [put_get (by rw [hdst]; intro e'; cases e'; exact e rfl)]; exact c1, c2.mono hle⟩
    · rcases (Lst_set hil).1 hj with e | e
      · subst e; exact hi
      · exact S.sub j e
    · refine (Lst_set hil).2 (.inr ?_)
      rcases (Lst_set hil).1 hj with e | e
      · subst e
        rw [ho] at hoj
        cases hoj
        exact hpre p hp
      · exact S.dc j oj e hoj p hp
    · have hju' : ¬ Lst listed j := fun e => hju ((Lst_set hil).2 (.inr e))
      have hji : j ≠ i := fun e => hju ((Lst_set hil).2 (.inl e))
      obtain ⟨oj, hoj, dj, vj, g1, g2, g3⟩ := S.pend j hj hju'
      refine ⟨oj, hoj, dj, vj, g1, g2, ?_⟩
      rcases g3 with g3 | ⟨g3, g4⟩
      · exact .inl g3
      · refine .inr ⟨g3, ?_⟩
        rcases g4 with g4 | g4 | ⟨g4, wh, elem, es, n', rows, mk, b, g5, g6, g7, g8, g9, g10⟩
        · exact .inl g4
        · exact .inr (.inl g4)
        · refine .inr (.inr ⟨g4, wh, elem, es, n', rows, mk, b, g5, g6, g7, g8, ?_, g10⟩)
          have hb : b < H.next := Nat.lt_of_not_le fun hh => by have := (S.st.rel.next b hh).1; rw [g8] at this; cases this
          rcases hno b g9 hb with e | ⟨e1, e2⟩
          · exact e
          · exact (S.apart i hi j hj (Ne.symm hji) hu hju' o oj d dj v vj b ho hoj hdst g1 hlk g2 e1 g4 e2 (by rw [g7]; exact g6 b)).elim
    · exact S.look j hj fun e => hju ((Lst_set hil).2 (.inr e))
    · exact S.apart i' hi' j hj hne (fun e => hu1 ((Lst_set hil).2 (.inr e))) (fun e => hu2 ((Lst_set hil).2 (.inr e)))
  unfold wpOp
  simp only [ho]
  rcases hv with ⟨g1, g2⟩ | ⟨g1, g2⟩
  · rw [Gd_wanted hs (looks_Gd hag g1)]
    simp only [Bool.false_eq_true, if_false]
    exact fin φ w undef S.st (Lay.le_refl _) (fun b hb _ => .inl hb) (by rw [g2]; exact undef_ok)
  · rw [if_pos (Gd_wanted hs (looks_Gd hag g1))]
    refine .inl ?_
    have usual : ∀ v', (∀ k, opc P cf cl o.op env H k = k v' H) → (∀ φ cv, V φ v' cv → V φ v cv) → o.wp P a w K Q := by
      intro v' h1 h2
      refine opc_ok (k := fun v H => some (v, H)) (r := (v', H)) hcl hp hge hs.env S.st.rel (by rw [← looks_opc hag, h1]) (fun u H' φ' w' cv e1 e2 e3 => ?_)
      cases e1
      exact fin φ' w' cv (S.st.trans e2) e2.le (fun b hb hb' => .inl (e2.virt b hb' hb).1) (h2 _ _ e3)
    rcases g2 with ⟨g2, g3⟩ | ⟨g2, v', g3, g4⟩ | ⟨g2, wh, elem, es, n', rows, mk, b, g3, g4, g5, g6, g7, g8⟩
    · exact usual v (fun k => g3 H k) (fun _ _ h => h)
    · exact usual v' (fun k => g4 H (fun _ _ h => h) k) g3
    · have hnew : ∃ wh elem es n rows mk, Mk P cf cl o.op (resE (Fre ops listed done) env) wh elem es n rows mk := by
        have h0 : opc P cf cl o.op (resE (Fre ops listed done) env) ⟨.e, 0⟩ (fun v H => some (v, H)) = some (mk 0, ⟨Tm.set .e 0 (some ⟨rows, n', es, elem, false, 0, wh⟩), 1⟩) := by
          rw [← looks_opc hag, g3]; rfl
        exact kind3 g2 h0
      obtain ⟨wh', elem', es', n'', rows', mk', m1, m2, m3⟩ := hnew
      have same : mk' b = mk b ∧ (⟨rows', n'', es', elem', false, 0, wh'⟩ : AObj) = ⟨rows, n', es, elem, false, 0, wh⟩ := by
        have e1 := m1 ⟨.e, b⟩ fun v H => some (v, H)
        rw [← looks_opc hag, g3] at e1
        simp only [newO, Option.some.injEq, Prod.mk.injEq, AH.mk.injEq] at e1
        refine ⟨e1.1.symm, ?_⟩
        have e2 := congrArg (fun t : Tm AObj => t.get b) e1.2.1
        simp only [Tm.get_set, if_true, Option.some.injEq] at e2
        exact e2.symm
      refine m3 o φ a w K Q rfl hge hs.env fun w' cv C lo hi' F => ?_
      have hb : b < H.next := Nat.lt_of_not_le fun hh => by have := (S.st.rel.next b hh).1; rw [g6] at this; cases this
      have ho' : RelO (φ.set b (w.heap.size, 0, C.size)) w' ⟨rows, n', es, elem, false, 0, wh⟩ w.heap.size 0 C.size := by
        rw [← same.2]
        exact RelO.fresh F.block F.one F.fits F.whole F.free fun q row c x u i1 i2 i3 i4 i5 => (F.holds q row c x u i1 i2 i3 i4 i5).mono (Lay.le_set g7)
      have hrel := Rel.bind S.st.rel F.below g6 g7 (Nat.le_refl _) F.size ho'
      refine fin (φ.set b (w.heap.size, 0, C.size)) w' cv ⟨Lay.le_trans S.st.le (Lay.le_set g7), hrel, S.st.below.trans (F.below.mono S.st.rel.base), S.st.next, fun c hc hc0 => ?_⟩ (Lay.le_set g7) (fun c hc hc' => ?_) ?_
      · obtain ⟨s1, s2⟩ := S.st.virt c hc hc0
        exact ⟨by rw [Lay.set_other (by omega)]; exact s1, s2⟩
      · by_cases e : c = b
        · subst e
          exact .inr ⟨g2, by rw [g5]; exact g4 c⟩
        · exact .inl (by rw [Lay.set_other e]; exact hc)
      · rw [g5, ← same.1]
        exact F.val b _ (Lay.set_same _ _ _)
theorem kind2 {op : Op} (hk : opK P op = 2) : ∃ t x, op = .load t x := by
  cases op with
  | load t x => exact ⟨t, x, rfl⟩
  | call c =>
    simp only [opK] at hk
    cases hc : c.callee with
    | builtin b => rw [hc] at hk; cases b <;> cases hk
    | value f => rw [hc] at hk; cases hk
    | invoke x n => rw [hc] at hk; cases hk
  | convert s d x =>
    simp only [opK] at hk
    cases hd : P.underlying d with
    | none => rw [hd] at hk; cases hk
    | some dd =>
      rw [hd] at hk
      cases dd <;> simp only at hk <;> try (cases hk; done)
      cases hs : P.underlying s with
      | none => rw [hs] at hk; cases hk
      | some sd => rw [hs] at hk; cases sd <;> cases hk
  | _ => simp only [opK] at hk; cases hk

theorem load2 {o : Oper} {k : KV} (hk : opK P o.op = 2) (h : opc P cf cl o.op env H k = some r) :
    ∃ v, k v H = some r ∧ ∀ H2 : AH, (∀ b ob, H.objs.get b = some ob → H2.objs.get b = some ob) → ∀ k', opc P cf cl o.op env H2 k' = k' v H2 := by
  obtain ⟨t, x, e⟩ := kind2 hk
  rw [e] at h ⊢
  exact load_dt h

/-- Of loads it is shown that they would yield the same. -/
theorem chkLs_ok : ∀ {ls : List Nat} {env : Env} {H : AH} {rest : RO}, (∀ l ∈ ls, ∀ ol, ops[l]? = some ol → opK P ol.op = 2) → chkLs P cf cl ops ls env H rest = some r → rest = some r ∧ ∀ i ∈ ls, ∃ o d v, ops[i]? = some o ∧ o.dst = some d ∧ lk env d = some v ∧
    (Gd ops env o false ∨ (Gd ops env o true ∧ ∃ v', sameV v v' = true ∧ ∀ H2 : AH, (∀ b ob, H.objs.get b = some ob → H2.objs.get b = some ob) → ∀ k, opc P cf cl o.op env H2 k = k v' H2))
  | [], env, H, rest, _, h => ⟨h, fun i hi => by cases hi⟩
  | i :: ls, env, H, rest, hls, h => by
    simp only [chkLs] at h
    cases ho : ops[i]? with
    | none => rw [ho] at h; cases h
    | some o =>
      rw [ho] at h
      simp only at h
      have hk := hls i List.mem_cons_self o ho
      have hls' : ∀ l ∈ ls, ∀ ol, ops[l]? = some ol → opK P ol.op = 2 := fun l hl => hls l (List.mem_cons_of_mem _ hl)
      cases hd : o.dst with
      | none => rw [hd] at h; cases h
      | some d =>
        rw [hd] at h
        simp only at h
        cases hv : lk env d with
        | none => rw [hv] at h; cases h
        | some v =>
          rw [hv] at h
          simp only at h
          have chk : ∀ {v' x}, chkP v v' x = some r → sameV v v' = true ∧ x = some r := fun {v' x} e => by
            unfold chkP at e
            cases hs : sameV v v' with
            | true => rw [hs] at e; exact ⟨rfl, e⟩
            | false => rw [hs] at e; cases e
          have fin : chkLs P cf cl ops ls env H rest = some r → (Gd ops env o false ∨ (Gd ops env o true ∧ ∃ v', sameV v v' = true ∧ ∀ H2 : AH, (∀ b ob, H.objs.get b = some ob → H2.objs.get b = some ob) → ∀ k, opc P cf cl o.op env H2 k = k v' H2)) →
              rest = some r ∧ ∀ i' ∈ i :: ls, ∃ o d v, ops[i']? = some o ∧ o.dst = some d ∧ lk env d = some v ∧
                (Gd ops env o false ∨ (Gd ops env o true ∧ ∃ v', sameV v v' = true ∧ ∀ H2 : AH, (∀ b ob, H.objs.get b = some ob → H2.objs.get b = some ob) → ∀ k, opc P cf cl o.op env H2 k = k v' H2)) := fun h1 h2 => by
            obtain ⟨g1, g2⟩ := chkLs_ok hls' h1
            refine ⟨g1, fun i' hi' => ?_⟩
            rcases List.mem_cons.1 hi' with e | e
            · subst e; exact ⟨o, d, v, ho, hd, hv, h2⟩
            · exact g2 i' e
          cases hgu : o.guard with
          | none =>
            rw [hgu] at h
            simp only at h
            obtain ⟨v', g1, g2⟩ := load2 hk h
            obtain ⟨g3, g4⟩ := chk g1
            exact fin g4 (.inr ⟨.inl hgu, v', g3, g2⟩)
          | some jw =>
            obtain ⟨j, want⟩ := jw
            rw [hgu] at h
            simp only at h
            cases hj : (ops[j]?).bind (·.dst) with
            | none => rw [hj] at h; cases h
            | some dg =>
              rw [hj] at h
              simp only at h
              cases hlg : lk env dg with
              | none => rw [hlg] at h; cases h
              | some g =>
                rw [hlg] at h
                simp only [jn] at h
                rcases gdP_cases h with ⟨h1, h2⟩ | ⟨h1, h2⟩
                · obtain ⟨v', g1, g2⟩ := load2 hk h2
                  obtain ⟨g3, g4⟩ := chk g1
                  exact fin g4 (.inr ⟨.inr ⟨j, want, dg, g, hgu, hj, hlg, h1⟩, v', g3, g2⟩)
                · exact fin h2 (.inl ⟨j, want, dg, g, hgu, hj, hlg, h1⟩)

theorem H_ext {H' : AH} (hn : ∀ b, H.next ≤ b → H.objs.get b = none) {o : AObj} : ∀ b ob, H.objs.get b = some ob → (⟨H.objs.set H.next (some o), H'.next⟩ : AH).objs.get b = some ob := fun b ob h => by
  show (H.objs.set H.next (some o)).get b = some ob
  rw [Tm.get_set, if_neg]
  · exact h
  · intro e
    rw [hn b (by omega)] at h
    cases h

/-- A light operation is planned: memory is as it was. -/
theorem Sim.plan (S : Sim P cf cl ops n base φ0 H0 w0 φ H w env a listed done) {tbl : List (Nat × List Nat)} {last : Option Nat} {i : Nat} {ls : List Nat} {rest : List (Nat × List Nat)} {o : Oper} (ht : TB ops tbl) (ho : ops[i]? = some o)
    (N : Nxt P ops done tbl last i ls rest o) (hh : hvN P ops done o = false) {v : AV} {H' : AH} (hst : Step base φ0 H0 w0 φ H' w) (hext : ∀ b ob, H.objs.get b = some ob → H'.objs.get b = some ob)
    (hv : (Gd ops env o false ∧ v = .tup []) ∨ (Gd ops env o true ∧ Pv P cf cl H0.next env H' φ o v)) (hb : opK P o.op = 3 → ∀ b, blk v = some b → H.next ≤ b) :
    Sim P cf cl ops n base φ0 H0 w0 φ H' w (psh o.dst v env) a listed (i :: done) := by
  have hd : ∃ d, o.dst = some d ∧ d ∉ o.looksAt ops ∧ ∀ j ∈ done, ∀ oj, ops[j]? = some oj → d ∉ oj.looksAt ops := by
    simp only [hvN, Bool.or_eq_false_iff] at hh
    cases hd : o.dst with
    | none => rw [hd] at hh; cases hh.2
    | some d =>
      rw [hd] at hh
      simp only [Bool.or_eq_false_iff, Bool.not_eq_false'] at hh
      refine ⟨d, rfl, fun e => ?_, fun j hj oj hoj e => ?_⟩
      · rw [elN_mem.2 e] at hh; cases hh.2.1
      · have := lookOK_ok hh.2.2 j hj oj hoj e
        cases this
  obtain ⟨d, hd1, hd2, hd3⟩ := hd
  have hil : ¬ Lst listed i := fun e => N.new (S.sub i e)
  have lko : ∀ t, t ≠ d → lk (psh o.dst v env) t = lk env t := fun t h => by
    rw [lk_psh, if_neg]
    rw [hd1]
    intro e
    cases e
    exact h rfl
  have hni : ∀ j, j ∈ done → j ≠ i := fun j hj e => N.new (e ▸ hj)
  have ago : ∀ t ∈ o.looksAt ops, lk env t = lk (psh o.dst v env) t := fun t ht => (lko t fun e => hd2 (e ▸ ht)).symm
  have agj : ∀ j ∈ done, ∀ oj, ops[j]? = some oj → ∀ t ∈ oj.looksAt ops, lk env t = lk (psh o.dst v env) t := fun j hj oj hoj t ht => (lko t fun e => hd3 j hj oj hoj (e ▸ ht)).symm
  refine ⟨hst, S.size, S.nod, fun t u htu hf => ?_, fun j hj => List.mem_cons_of_mem _ (S.sub j hj), S.dc, S.lsz, fun j hj hju => ?_, fun j hj hju oj hoj t ht' i' hi' oi hoi hdi => ?_, fun i1 hi1 i2 hi2 hne hu1 hu2 oi oj di dj vi vj b g1 g2 g3 g4 g5 g6 g7 g8 g9 g10 => ?_⟩
  · by_cases e : t = d
    · subst e
      exact absurd (hf i List.mem_cons_self o ho hd1) hil
    · rw [lko t e] at htu
      exact S.tmp t u htu fun j hj => hf j (List.mem_cons_of_mem _ hj)
  · rcases List.mem_cons.1 hj with e | e
    · subst e
      refine ⟨o, ho, d, v, hd1, by rw [lk_psh, if_pos hd1], ?_⟩
      rcases hv with ⟨g1, g2⟩ | ⟨g1, g2⟩
      · exact .inl ⟨looks_Gd ago g1, g2⟩
      · exact .inr ⟨looks_Gd ago g1, g2.agree ago⟩
    · obtain ⟨oj, hoj, dj, vj, g1, g2, g3⟩ := S.pend j e hju
      have hdj : dj ≠ d := fun e' => by subst e'; exact N.dst j oj dj (hni j e) hoj hd1 g1
      refine ⟨oj, hoj, dj, vj, g1, by rw [lko dj hdj]; exact g2, ?_⟩
      rcases g3 with ⟨g3, g4⟩ | ⟨g3, g4⟩
      · exact .inl ⟨looks_Gd (agj j e oj hoj) g3, g4⟩
      · refine .inr ⟨looks_Gd (agj j e oj hoj) g3, Pv.agree (ops := ops) ?_ (agj j e oj hoj)⟩
        rcases g4 with g4 | ⟨g4, v', g5, g6⟩ | ⟨g4, wh, elem, es, n', rows, mk, b, g5, g6, g7, g8, g9⟩
        · exact .inl g4
        · exact .inr (.inl ⟨g4, v', g5, fun H2 hk k => g6 H2 (fun b ob hb => hk b ob (hext b ob hb)) k⟩)
        · exact .inr (.inr ⟨g4, wh, elem, es, n', rows, mk, b, g5, g6, g7, hext _ _ g8, g9⟩)
  · rcases List.mem_cons.1 hj with e | e
    · subst e
      rw [ho] at hoj
      cases hoj
      rcases List.mem_cons.1 hi' with e' | e'
      · subst e'
        rw [ho] at hoi
        cases hoi
        rw [hd1] at hdi
        cases hdi
        exact absurd ht' hd2
      · exact ancOf_ok ht (N.rd t ht' i' e' oi hoi hdi) fun _ h => h
    · rcases List.mem_cons.1 hi' with e' | e'
      · subst e'
        rw [ho] at hoi
        cases hoi
        rw [hd1] at hdi
        cases hdi
        exact absurd ht' (hd3 j e oj hoj)
      · exact S.look j e hju oj hoj t ht' i' e' oi hoi hdi
  · have old : ∀ j ∈ done, ¬ Lst listed j → ∀ oj dj vj, ops[j]? = some oj → oj.dst = some dj → lk (psh o.dst v env) dj = some vj → opK P oj.op = 3 → blk vj = some b → b < H.next := fun j hj hju oj dj vj h1 h2 h3 h4 h5 => by
      obtain ⟨oj', hoj, dj', vj', q1, q2, q3⟩ := S.pend j hj hju
      rw [h1] at hoj
      cases hoj
      rw [h2] at q1
      cases q1
      have hdj : dj ≠ d := fun e' => by subst e'; exact N.dst j oj dj (hni j hj) h1 hd1 h2
      rw [lko dj hdj, q2] at h3
      cases h3
      rcases q3 with ⟨_, q4⟩ | ⟨_, q4⟩
      · rw [q4] at h5; cases h5
      · rcases q4 with ⟨q4, _⟩ | ⟨q4, _⟩ | ⟨_, wh, elem, es, n', rows, mk, b', q5, q6, q7, q8, q9⟩
        · rw [h4] at q4; cases q4
        · rw [h4] at q4; cases q4
        · rw [q7, q6] at h5
          cases h5
          exact Nat.lt_of_not_le fun hh => by have := (S.st.rel.next b hh).1; rw [q8] at this; cases this
    rcases List.mem_cons.1 hi1 with e1 | e1 <;> rcases List.mem_cons.1 hi2 with e2 | e2
    · exact hne (e1.trans e2.symm)
    · subst e1
      rw [ho] at g1
      cases g1
      rw [hd1] at g3
      cases g3
      rw [lk_psh, if_pos hd1] at g5
      cases g5
      have h1 := hb g7 b g9
      have h2 := old i2 e2 hu2 oj dj vj g2 g4 g6 g8 g10
      omega
    · subst e2
      rw [ho] at g2
      cases g2
      rw [hd1] at g4
      cases g4
      rw [lk_psh, if_pos hd1] at g6
      cases g6
      have h1 := hb g8 b g10
      have h2 := old i1 e1 hu1 oi di vi g1 g3 g5 g7 g9
      omega
    · have hdi : di ≠ d := fun e' => by subst e'; exact N.dst i1 oi di (hni i1 e1) g1 hd1 g3
      have hdj : dj ≠ d := fun e' => by subst e'; exact N.dst i2 oj dj (hni i2 e2) g2 hd1 g4
      rw [lko di hdi] at g5
      rw [lko dj hdj] at g6
      exact S.apart i1 e1 i2 e2 hne hu1 hu2 oi oj di dj vi vj b g1 g2 g3 g4 g5 g6 g7 g8 g9 g10
end

end Go.Proofs.YtlpfhodieopmhaaGreatDoor.Ae

namespace Go.Proofs.YtlpfhodieopmhaaGreatDoor.Ae
open Go.RowKit

section
variable {P : Program} {cf : Cf} {cl : Caller} {ops : Array Oper} {n base : Nat} {φ0 φ : Lay} {H0 H : AH} {w0 w : World} {env : Env} {a : Act} {listed : Array Bool} {done : List Nat} {Q : Exit → Act → World → Prop} {r : AV × AH}

theorem Gd_both {o : Oper} (h1 : Gd ops env o true) (h2 : Gd ops env o false) : False := by
  obtain ⟨j, want, d, g, e1, e2, e3, e4⟩ := h2
  rcases h1 with h1 | ⟨j', want', d', g', f1, f2, f3, f4⟩
  · rw [e1] at h1; cases h1
  · rw [e1] at f1; cases f1
    rw [e2] at f2; cases f2
    rw [e3] at f3; cases f3
    have := (f4 none (some (.any, ⟨.e, 0⟩))).symm.trans (e4 none (some (.any, ⟨.e, 0⟩)))
    cases this

/-- The next operation of memory comes up. -/
theorem Sim.heavy (S : Sim P cf cl ops n base φ0 H0 w0 φ H w env a listed done) (hcl : ClOK P cf cl) (hp : PrOK P cf) (hg : GlobOK φ0 cf.ng)
    (hd : ∀ o ∈ ops.toList, ∀ t, o.dst = some t → t < n) {tbl : List (Nat × List Nat)} {last : Option Nat} {i : Nat} {ls : List Nat} {rest : List (Nat × List Nat)} {o : Oper} (ht : TB ops tbl) (ho : ops[i]? = some o)
    (N : Nxt P ops done tbl last i ls rest o) (hh : hvN P ops done o = true) (hpre : ∀ p ∈ preds o, Lst listed p) {kc : KC} (h : rgd P cf cl ops ((i, ls) :: rest) env H kc = some r) {K : Act → World → Prop}
    (hK : ∀ φ' H' w' env' a', Sim P cf cl ops n base φ0 H0 w0 φ' H' w' env' a' (listed.setIfInBounds i true) (i :: done) → rgd P cf cl ops rest env' H' kc = some r → K a' w') : wpOp P ops Q i K a w := by
  have hs := S.cut
  have hil : i < listed.size := by rw [S.lsz]; exact (Array.getElem?_eq_some_iff.1 ho).1
  have hmem : o ∈ ops.toList := by
    have : ops.toList[i]? = some o := by simpa using ho
    exact List.mem_of_getElem? this
  obtain ⟨_, _, n3, n4, n5, _⟩ := N.hv hh
  have anc : ∀ j, j ∈ ancOf tbl (preds o) → Lst listed j := fun j hj => ancOf_ok ht hj (fun _ h => h) (Lst listed) S.dc hpre
  have hag : ∀ t ∈ o.looksAt ops, lk env t = lk (resE (Fre ops listed done) env) t := fun t ht => (lk_resE fun j hj oj hoj hdj => anc j (N.rd t ht j hj oj hoj hdj)).symm
  have hge : GlobOK φ cf.ng := hg.mono S.st.le
  have fin : ∀ v H' φ' w' cv, chkLs P cf cl ops ls (psh o.dst v env) H' (rgd P cf cl ops rest (psh o.dst v env) H' kc) = some r → Step base φ H w φ' H' w' → V φ' v cv → K (a.put o.dst cv) w' := by
    intro v H' φ' w' cv h1 st hV
    obtain ⟨h2, h3⟩ := chkLs_ok n5 h1
    have lko : ∀ t, o.dst ≠ some t → lk (psh o.dst v env) t = lk env t := fun t h => by rw [lk_psh, if_neg h]
    have nol : ∀ j ∈ done, ¬ Lst listed j → ∀ oj, ops[j]? = some oj → ∀ t ∈ oj.looksAt ops, o.dst ≠ some t := fun j hj hju oj hoj t htj e => hju (anc j (n4 t e j hj oj hoj htj))
    have ndj : ∀ j ∈ done, ∀ oj dj, ops[j]? = some oj → oj.dst = some dj → o.dst ≠ some dj := fun j hj oj dj hoj hdj e => N.dst j oj dj (fun e' => N.new (e' ▸ hj)) hoj e hdj
    have un : ∀ j, j ∈ i :: done → ¬ Lst (listed.setIfInBounds i true) j → j ∈ done ∧ ¬ Lst listed j := fun j hj hju => by
      rcases List.mem_cons.1 hj with e | e
      · exact absurd ((Lst_set hil).2 (.inl e)) hju
      · exact ⟨e, fun e' => hju ((Lst_set hil).2 (.inr e'))⟩
    refine hK φ' H' w' (psh o.dst v env) _ ⟨S.st.trans st, by rw [put_size]; exact S.size, by rw [put_nod]; exact S.nod, fun t u ht hf => ?_, fun j hj => ?_, fun j oj hj hoj p hp => ?_, by simp [S.lsz], fun j hj hju => ?_, fun j hj hju oj hoj t htj i' hi' oi hoi hdi => ?_, fun i1 hi1 i2 hi2 hne hu1 hu2 oi oj di dj vi vj b g1 g2 g3 g4 g5 g6 g7 g8 g9 g10 => ?_⟩ h2
    · by_cases e : o.dst = some t
      · rw [lk_psh, if_pos e] at ht
        cases ht
        refine ⟨cv, ?_, hV⟩
        rw [e]
        exact put_get' (by rw [S.size]; exact hd o hmem t e)
      · rw [lko t e] at ht
        obtain ⟨c, c1, c2⟩ := S.tmp t u ht fun j hj oj hoj hdj => by
          rcases (Lst_set hil).1 (hf j (List.mem_cons_of_mem _ hj) oj hoj hdj) with e' | e'
          · subst e'
            exact absurd hj N.new
          · exact e'
        exact ⟨c, by rw [put_get e]; exact c1, c2.mono st.le⟩
    · rcases (Lst_set hil).1 hj with e | e
      · subst e; exact List.mem_cons_self
      · exact List.mem_cons_of_mem _ (S.sub j e)
    · refine (Lst_set hil).2 (.inr ?_)
      rcases (Lst_set hil).1 hj with e | e
      · subst e
        rw [ho] at hoj
        cases hoj
        exact hpre p hp
      · exact S.dc j oj e hoj p hp
    · obtain ⟨hj', hju'⟩ := un j hj hju
      obtain ⟨oj, hoj, dj, vj, g1, g2, g3⟩ := S.pend j hj' hju'
      have agj : ∀ t ∈ oj.looksAt ops, lk env t = lk (psh o.dst v env) t := fun t ht => (lko t (nol j hj' hju' oj hoj t ht)).symm
      have hlk : lk (psh o.dst v env) dj = some vj := by rw [lko dj (ndj j hj' oj dj hoj g1)]; exact g2
      refine ⟨oj, hoj, dj, vj, g1, hlk, ?_⟩
      rcases g3 with ⟨g3, g4⟩ | ⟨g3, g4⟩
      · exact .inl ⟨looks_Gd agj g3, g4⟩
      · have g3' := looks_Gd agj g3
        refine .inr ⟨g3', ?_⟩
        rcases g4 with g4 | ⟨g4, _⟩ | ⟨g4, wh, elem, es, n', rows, mk, b, g5, g6, g7, g8, g9, g10⟩
        · exact Pv.agree (ops := ops) (.inl g4) agj
        · rcases n3 j hj' oj hoj g4 with e | e
          · exact absurd (anc j e) hju'
          · obtain ⟨oj', dj', vj', f1, f2, f3, f4⟩ := h3 j e
            rw [hoj] at f1; cases f1
            rw [g1] at f2; cases f2
            rw [hlk] at f3; cases f3
            rcases f4 with f4 | ⟨_, v', f5, f6⟩
            · exact (Gd_both g3' f4).elim
            · exact .inr (.inl ⟨g4, v', fun _ _ hv => sameV_ok f5 hv, f6⟩)
        · have hb : b < H.next := Nat.lt_of_not_le fun hh => by have := (S.st.rel.next b hh).1; rw [g8] at this; cases this
          obtain ⟨s1, s2⟩ := st.virt b hb g9
          exact Pv.agree (ops := ops) (.inr (.inr ⟨g4, wh, elem, es, n', rows, mk, b, g5, g6, g7, by rw [s2]; exact g8, s1, g10⟩)) agj
    · obtain ⟨hj', hju'⟩ := un j hj hju
      rcases List.mem_cons.1 hi' with e | e
      · subst e
        rw [ho] at hoi
        cases hoi
        exact absurd hdi (nol j hj' hju' oj hoj t htj)
      · exact S.look j hj' hju' oj hoj t htj i' e oi hoi hdi
    · obtain ⟨hj1, hju1⟩ := un i1 hi1 hu1
      obtain ⟨hj2, hju2⟩ := un i2 hi2 hu2
      rw [lko di (ndj i1 hj1 oi di g1 g3)] at g5
      rw [lko dj (ndj i2 hj2 oj dj g2 g4)] at g6
      exact S.apart i1 hj1 i2 hj2 hne hju1 hju2 oi oj di dj vi vj b g1 g2 g3 g4 g5 g6 g7 g8 g9 g10
  simp only [rgd, ho] at h
  unfold wpOp
  simp only [ho]
  cases hgu : o.guard with
  | none =>
    rw [hgu] at h
    simp only [jn] at h
    rw [if_pos (by simp [Region.wanted, hgu])]
    exact .inl (opc_ok hcl hp hge hs.env S.st.rel (by rw [← looks_opc hag]; exact h) (fun v H' φ' w' cv h1 h2 h3 => fin v H' φ' w' cv h1 h2 h3))
  | some jw =>
    obtain ⟨j, want⟩ := jw
    rw [hgu] at h
    simp only at h
    cases hj : (ops[j]?).bind (·.dst) with
    | none => rw [hj] at h; cases h
    | some dg =>
      rw [hj] at h
      simp only at h
      cases hlg : lk env dg with
      | none => rw [hlg] at h; cases h
      | some g =>
        rw [hlg] at h
        simp only [jn] at h
        rcases gdP_cases h with ⟨h1, h2⟩ | ⟨h1, h2⟩
        · rw [if_pos (Gd_wanted hs (looks_Gd (b := true) hag (.inr ⟨j, want, dg, g, hgu, hj, hlg, h1⟩)))]
          exact .inl (opc_ok hcl hp hge hs.env S.st.rel (by rw [← looks_opc hag]; exact h2) (fun v H' φ' w' cv h1 h2 h3 => fin v H' φ' w' cv h1 h2 h3))
        · rw [Gd_wanted hs (looks_Gd (b := false) hag ⟨j, want, dg, g, hgu, hj, hlg, h1⟩)]
          simp only [Bool.false_eq_true, if_false]
          exact fin (.tup []) H φ w undef h2 (Step.refl S.st.rel) undef_ok

/-- The plan catches up: what does not change memory is planned. -/
theorem Sim.catch : ∀ {rest : List (Nat × List Nat)} {done : List Nat} {tbl : List (Nat × List Nat)} {last : Option Nat} {env : Env} {H : AH} {kc : KC}, Sim P cf cl ops n base φ0 H0 w0 φ H w env a listed done → planGo P ops done tbl last rest = true → TB ops tbl →
    rgd P cf cl ops rest env H kc = some r → ∃ rest' done' tbl' last' env' H', Sim P cf cl ops n base φ0 H0 w0 φ H' w env' a listed done' ∧ planGo P ops done' tbl' last' rest' = true ∧ TB ops tbl' ∧ rgd P cf cl ops rest' env' H' kc = some r ∧
      (rest' = [] ∨ ∃ i ls rest'' o, rest' = (i, ls) :: rest'' ∧ ops[i]? = some o ∧ hvN P ops done' o = true)
  | [], done, tbl, last, env, H, kc, S, hg, ht, h => ⟨[], done, tbl, last, env, H, S, hg, ht, h, .inl rfl⟩
  | (i, ls) :: rest, done, tbl, last, env, H, kc, S, hg, ht, h => by
    obtain ⟨o, ho, N⟩ := planGo_cons hg
    cases hh : hvN P ops done o with
    | true => exact ⟨(i, ls) :: rest, done, tbl, last, env, H, S, hg, ht, h, .inr ⟨i, ls, rest, o, rfl, ho, hh⟩⟩
    | false =>
      obtain ⟨l1, l2⟩ := N.li hh
      subst l1
      have go : ∀ {v H'}, rgd P cf cl ops rest (psh o.dst v env) H' kc = some r → Step base φ0 H0 w0 φ H' w → (∀ b ob, H.objs.get b = some ob → H'.objs.get b = some ob) →
          ((Gd ops env o false ∧ v = .tup []) ∨ (Gd ops env o true ∧ Pv P cf cl H0.next env H' φ o v)) → (opK P o.op = 3 → ∀ b, blk v = some b → H.next ≤ b) → _ := fun {v H'} h1 h2 h3 h4 h5 =>
        Sim.catch (S.plan ht ho N hh h2 h3 h4 h5) l2 (ht.cons ho) h1
      have wanted : Gd ops env o true → (opc P cf cl o.op env H fun v H => rgd P cf cl ops rest (psh o.dst v env) H kc) = some r → ∃ rest' done' tbl' last' env' H', Sim P cf cl ops n base φ0 H0 w0 φ H' w env' a listed done' ∧ planGo P ops done' tbl' last' rest' = true ∧ TB ops tbl' ∧ rgd P cf cl ops rest' env' H' kc = some r ∧
          (rest' = [] ∨ ∃ i ls rest'' o, rest' = (i, ls) :: rest'' ∧ ops[i]? = some o ∧ hvN P ops done' o = true) := fun hgd h => by
        rcases opK_le P o.op with e | e | e | e
        · simp only [hvN, e] at hh
          cases hh
        · obtain ⟨d1, d2⟩ := pure_dt (cf := cf) (cl := cl) (env := env) e
          rw [d2] at h
          obtain ⟨v, v1, v2⟩ := d1 _ r h
          exact go v1 S.st (fun _ _ h => h) (.inr ⟨hgd, .inl ⟨e, fun H k => by rw [d2]; exact v2 fun v => k v H⟩⟩) (fun e' => by rw [e] at e'; cases e')
        · obtain ⟨v, v1, v2⟩ := load2 e h
          exact go v1 S.st (fun _ _ h => h) (.inr ⟨hgd, .inr (.inl ⟨e, v, fun _ _ h => h, v2⟩)⟩) (fun e' => by rw [e] at e'; cases e')
        · obtain ⟨wh, elem, es, n', rows, mk, m1, m2, m3⟩ := kind3 e h
          rw [m1] at h
          simp only [newO] at h
          have hn := S.st.rel.next H.next (Nat.le_refl _)
          refine go h ⟨S.st.le, S.st.rel.fresh _, S.st.below, Nat.le_trans S.st.next (Nat.le_succ _), fun b hb h0 => ?_⟩ (fun b ob hb => ?_)
            (.inr ⟨hgd, .inr (.inr ⟨e, wh, elem, es, n', rows, mk, H.next, m1, m2, rfl, by rw [Tm.get_set, if_pos rfl], hn.2, S.st.next⟩)⟩) (fun _ b hb => ?_)
          · obtain ⟨s1, s2⟩ := S.st.virt b hb h0
            refine ⟨s1, ?_⟩
            rw [Tm.get_set, if_neg (by have := S.st.next; omega)]
            exact s2
          · rw [Tm.get_set, if_neg]
            · exact hb
            · intro e'
              rw [e', hn.1] at hb
              cases hb
          · rw [m2] at hb
            cases hb
            exact Nat.le_refl _
      simp only [rgd, ho] at h
      cases hgu : o.guard with
      | none =>
        rw [hgu] at h
        simp only [jn, chkLs] at h
        exact wanted (.inl hgu) h
      | some jw =>
        obtain ⟨j, want⟩ := jw
        rw [hgu] at h
        simp only at h
        cases hj : (ops[j]?).bind (·.dst) with
        | none => rw [hj] at h; cases h
        | some dg =>
          rw [hj] at h
          simp only at h
          cases hlg : lk env dg with
          | none => rw [hlg] at h; cases h
          | some g =>
            rw [hlg] at h
            simp only [jn, chkLs] at h
            rcases gdP_cases h with ⟨h1, h2⟩ | ⟨h1, h2⟩
            · exact wanted (.inr ⟨j, want, dg, g, hgu, hj, hlg, h1⟩) h2
            · exact go h2 S.st (fun _ _ h => h) (.inl ⟨⟨j, want, dg, g, hgu, hj, hlg, h1⟩, rfl⟩) (fun _ b hb => by cases hb)

theorem any_ok {plan : List (Nat × List Nat)} (hcl : ClOK P cf cl) (hp : PrOK P cf) (hg : GlobOK φ0 cf.ng) (hd : ∀ o ∈ ops.toList, ∀ t, o.dst = some t → t < n)
    (hdi : ∀ (i j : Nat) (oi oj : Oper) (d : Nat), i ≠ j → ops[i]? = some oi → ops[j]? = some oj → oi.dst = some d → oj.dst ≠ some d) (hpl : planGo P ops [] [] none plan = true) {kc : KC} (hk : Then n base φ0 H0 w0 r kc (Q .normal)) :
    ∀ (fuel : Nat) (U : List Nat) (listed : Array Bool) (φ : Lay) (H : AH) (w : World) (env : Env) (a : Act) (rest : List (Nat × List Nat)) (done : List Nat) (tbl : List (Nat × List Nat)) (last : Option Nat), U.length ≤ fuel → (∀ i, i < ops.size → ¬ Lst listed i → i ∈ U) →
      Sim P cf cl ops n base φ0 H0 w0 φ H w env a listed done → planGo P ops done tbl last rest = true → TB ops tbl → rgd P cf cl ops rest env H kc = some r →
      (rest = [] ∨ ∃ i ls rest'' o, rest = (i, ls) :: rest'' ∧ ops[i]? = some o ∧ hvN P ops done o = true) → wpAny P .any ops Q fuel listed a w := by
  -- all have come up
  have fin : ∀ (listed : Array Bool) (φ : Lay) (H : AH) (w : World) (env : Env) (a : Act) (rest : List (Nat × List Nat)) (done : List Nat) (tbl : List (Nat × List Nat)) (last : Option Nat),
      Sim P cf cl ops n base φ0 H0 w0 φ H w env a listed done → planGo P ops done tbl last rest = true → rgd P cf cl ops rest env H kc = some r → (∀ i, i < ops.size → Lst listed i) → Q .normal a w := by
    intro listed φ H w env a rest done tbl last S hgo h hall
    cases rest with
    | cons x rest =>
      obtain ⟨i, ls⟩ := x
      obtain ⟨o, ho, N⟩ := planGo_cons hgo
      exact absurd (S.sub i (hall i (Array.getElem?_eq_some_iff.1 ho).1)) N.new
    | nil =>
      simp only [rgd] at h
      exact hk env H φ w a h S.st ⟨fun t v hv => S.tmp t v hv fun j _ oj hoj _ => hall j (Array.getElem?_eq_some_iff.1 hoj).1, S.size, S.nod⟩
  have unl : ∀ {listed : Array Bool} {j : Nat}, listed.size = ops.size → j < ops.size → listed.getD j true = false → ¬ Lst listed j := fun {listed j} h1 h2 h3 h4 => by
    unfold Lst at h4
    have : j < listed.size := by omega
    simp [this] at h3 h4
    rw [h3] at h4
    cases h4
  intro fuel
  induction fuel with
  | zero =>
    intro U listed φ H w env a rest done tbl last hU hun S hgo ht h _
    have hU0 : U = [] := List.length_eq_zero_iff.1 (by omega)
    have hall : ∀ i, i < ops.size → Lst listed i := fun i hi => by
      by_cases e : Lst listed i
      · exact e
      · have := hun i hi e
        rw [hU0] at this
        cases this
    refine ⟨?_, fin listed φ H w env a rest done tbl last S hgo h hall⟩
    cases hr : Region.ready .any ops listed with
    | nil => rfl
    | cons j l =>
      obtain ⟨g1, o, g2, _⟩ := mem_ready.1 (show j ∈ Region.ready .any ops listed by rw [hr]; exact List.mem_cons_self)
      have hj := (Array.getElem?_eq_some_iff.1 g2).1
      exact absurd (hall j hj) (unl S.lsz hj g1)
  | succ fuel ih =>
    intro U listed φ H w env a rest done tbl last hU hun S hgo ht h hnorm
    refine ⟨fun hr => ?_, fun i hi => ?_⟩
    · refine fin listed φ H w env a rest done tbl last S hgo h (complete (P := P) (ops := ops) (fun i o ho hpre => ?_) hpl (fun j hj => by cases hj))
      by_cases e : Lst listed i
      · exact e
      · have hil := (Array.getElem?_eq_some_iff.1 ho).1
        have : i ∈ Region.ready .any ops listed := mem_ready.2 ⟨by
          unfold Lst at e
          have : i < listed.size := by rw [S.lsz]; exact hil
          simp [this] at e ⊢
          exact e, o, ho, fun ed hed hb => hpre ed.on (preds_mem.2 ⟨ed, hed, hb, rfl⟩)⟩
        rw [hr] at this
        cases this
    · obtain ⟨g1, o, ho, g2⟩ := mem_ready.1 hi
      have hil := (Array.getElem?_eq_some_iff.1 ho).1
      have hu := unl S.lsz hil g1
      have hpre : ∀ p ∈ preds o, Lst listed p := fun p hp => by
        obtain ⟨e, e1, e2, e3⟩ := preds_mem.1 hp
        subst e3
        exact g2 e e1 e2
      have hiU := hun i hil hu
      have hU' : (U.erase i).length ≤ fuel := by rw [List.length_erase_of_mem hiU]; omega
      have hun' : ∀ j, j < ops.size → ¬ Lst (listed.setIfInBounds i true) j → j ∈ U.erase i := fun j hj hjl => by
        have hls : i < listed.size := by rw [S.lsz]; exact hil
        have e1 : j ≠ i := fun e => hjl ((Lst_set hls).2 (.inl e))
        have e2 : ¬ Lst listed j := fun e => hjl ((Lst_set hls).2 (.inr e))
        exact (List.mem_erase_of_ne e1).2 (hun j hj e2)
      by_cases hdone : i ∈ done
      · exact S.light hcl hp hg hd hdi hdone hu ho hpre fun φ' w' a' S' => ih (U.erase i) _ φ' H w' env a' rest done tbl last hU' hun' S' hgo ht h hnorm
      · rcases hnorm with e | ⟨i', ls, rest'', o', e, ho', hh⟩
        · subst e
          exact absurd (planGo_nil hgo i hil) hdone
        · subst e
          obtain ⟨o'', ho'', N⟩ := planGo_cons hgo
          rw [ho'] at ho''
          cases ho''
          obtain ⟨_, n2, _, _, _, n6⟩ := N.hv hh
          by_cases e : i = i'
          · subst e
            rw [ho] at ho'
            cases ho'
            refine S.heavy hcl hp hg hd ht ho N hh hpre h fun φ' H' w' env' a' S' h' => ?_
            obtain ⟨rest2, done2, tbl2, last2, env2, H2, S2, hgo2, ht2, h2, hn2⟩ := Sim.catch S' n6 (ht.cons ho) h'
            exact ih (U.erase i) _ φ' H2 w' env2 a' rest2 done2 tbl2 last2 hU' hun' S2 hgo2 ht2 h2 hn2
          · exfalso
            by_cases hk0 : opK P o.op = 0
            · have := chain (P := P) (L := Lst listed) S.dc ho hk0 hpre n6 (ht.cons ho') (fun e' => (List.mem_cons.1 e').elim e hdone)
              exact N.new (S.sub i' this)
            · obtain ⟨p, hp1, hp2⟩ := n2 i o ho hdone e hk0
              exact hp2 (S.sub p (hpre p hp1))

/-- No two operations leave their values in one temporary. -/
def dstsOK (ops : Array Oper) : Bool := (List.range ops.size).all fun i => match ops[i]? with
  | some o => dstOK ops i o
  | none => true

theorem planOK_dsts {plan : List (Nat × List Nat)} : ∀ {done : List Nat} {tbl : List (Nat × List Nat)} {last : Option Nat} {rest : List (Nat × List Nat)}, planGo P ops done tbl last rest = true →
    (∀ i ∈ done, ∀ oi j oj d, i ≠ j → ops[i]? = some oi → ops[j]? = some oj → oi.dst = some d → oj.dst ≠ some d) → ∀ (i j : Nat) (oi oj : Oper) (d : Nat), i ≠ j → ops[i]? = some oi → ops[j]? = some oj → oi.dst = some d → oj.dst ≠ some d
  | done, tbl, last, [], hg, hd => fun i j oi oj d h1 h2 h3 h4 => hd i (planGo_nil hg i (Array.getElem?_eq_some_iff.1 h2).1) oi j oj d h1 h2 h3 h4
  | done, tbl, last, (i', ls) :: rest, hg, hd => by
    obtain ⟨o', ho', N⟩ := planGo_cons hg
    have hd' : ∀ i ∈ i' :: done, ∀ oi j oj d, i ≠ j → ops[i]? = some oi → ops[j]? = some oj → oi.dst = some d → oj.dst ≠ some d := fun i hi oi j oj d h1 h2 h3 h4 => by
      rcases List.mem_cons.1 hi with e | e
      · subst e
        rw [ho'] at h2
        cases h2
        exact N.dst j oj d (Ne.symm h1) h3 h4
      · exact hd i e oi j oj d h1 h2 h3 h4
    cases hh : hvN P ops done o' with
    | true => exact planOK_dsts (plan := plan) (N.hv hh).2.2.2.2.2 hd'
    | false => exact planOK_dsts (plan := plan) (N.li hh).2 hd'

theorem Lst_none {m i : Nat} : ¬ Lst (Array.replicate m false) i := by
  unfold Lst
  by_cases h : i < m <;> simp [h]

/-- A region that draws its order. -/
theorem rgd_ok {plan : List (Nat × List Nat)} {id : Nat} (hm : P.follows .mixedOrders = true) (hcl : ClOK P cf cl) (hp : PrOK P cf) (hg : GlobOK φ cf.ng) (hd : ∀ o ∈ ops.toList, ∀ t, o.dst = some t → t < n)
    (hpl : planOK P ops plan = true) (hr : Rel base φ H w) (hs : St n φ env a) {kc : KC} (h : rgd P cf cl ops plan env H kc = some r) (hk : Then n base φ H w r kc (Q .normal)) : (Code.region id ops true).wp P Q a w := by
  refine wp_region_any hm ?_
  have hdi := planOK_dsts (plan := plan) hpl (fun i hi => by cases hi)
  have hr' : Rel base φ H w.drew := hr.drew
  have st : Step base φ H w φ H w.drew := ⟨Lay.le_refl _, hr', (Below.refl _ _).drew, Nat.le_refl _, fun _ _ h => ⟨h, rfl⟩⟩
  have S : Sim P cf cl ops n base φ H w.drew φ H w.drew env a (Array.replicate ops.size false) [] :=
    ⟨Step.refl hr', hs.size, hs.nod, fun t v hv _ => hs.env t v hv, fun j hj => absurd hj Lst_none, fun i o hi => absurd hi Lst_none, by simp, fun j hj => (by cases hj), fun j hj => (by cases hj), fun i hi => (by cases hi)⟩
  obtain ⟨rest2, done2, tbl2, last2, env2, H2, S2, hgo2, ht2, h2, hn2⟩ := Sim.catch S hpl (fun i j hj => by simp [lkA] at hj) h
  exact any_ok hcl hp hg hd hdi hpl (hk.step st) ops.size (List.range ops.size) _ φ H2 w.drew env2 a rest2 done2 tbl2 last2 (by simp) (fun i hi _ => by simpa using hi) S2 hgo2 ht2 h2 hn2
end

end Go.Proofs.YtlpfhodieopmhaaGreatDoor.Ae

namespace Go.Proofs.YtlpfhodieopmhaaGreatDoor.Ae
open Go.RowKit

/-- The code's regions leave their values in temporaries that there are, and the plans of those that draw are good. -/
def codeOK (P : Program) (n : Nat) : Code → HT → Bool
  | .skip, _ => true
  | .exit _, _ => true
  | .ret, _ => true
  | .region _ ops draw, .r _ plan => (ops.toList.all fun o => match o.dst with | some d => Nat.blt d n | none => true) && (!draw || planOK P ops plan)
  | .seq a b, .s ha hb => codeOK P n a ha && codeOK P n b hb
  | .cond _ a b, .d ha hb => codeOK P n a ha && codeOK P n b hb
  | .cond _ a b, .c _ ha hb => codeOK P n a ha && codeOK P n b hb
  | .block _ c, .b _ h => codeOK P n c h
  | .loop c, .o _ h => codeOK P n c h
  | _, _ => false

def ZV (φ : Lay) (a : Act) : List Nat → List AV → Prop
  | [], [] => True
  | t :: ts, v :: vs => (∃ cv, a.tmps[t]? = some cv ∧ V φ v cv) ∧ ZV φ a ts vs
  | _, _ => False

section
variable {P : Program} {cf : Cf} {cl : Caller} {n base : Nat} {φ : Lay} {H : AH} {w : World} {env : Env} {a : Act} {Q : Exit → Act → World → Prop} {r : AV × AH}

theorem selE_ok (he : EnvOK φ env a.tmps) : ∀ {ts : List Nat} {k : List AV → RO}, selE env ts k = some r → ∃ vs, k vs = some r ∧ ZV φ a ts vs
  | [], k, h => ⟨[], h, trivial⟩
  | t :: ts, k, h => by
    simp only [selE] at h
    cases hv : lk env t with
    | none => rw [hv] at h; cases h
    | some v =>
      rw [hv] at h
      obtain ⟨vs, h1, h2⟩ := selE_ok he h
      exact ⟨v :: vs, h1, he t v hv, h2⟩

theorem envOK_cons {t : Nat} {v : AV} (h : ∃ cv, a.tmps[t]? = some cv ∧ V φ v cv) (he : EnvOK φ env a.tmps) : EnvOK φ ((t, v) :: env) a.tmps := by
  intro t' v' hl
  simp only [lk] at hl
  cases hb : Nat.beq t t' with
  | true =>
    rw [hb] at hl
    have e := Nat.eq_of_beq_eq_true hb
    subst e
    cases hl
    exact h
  | false => rw [hb] at hl; exact he t' v' hl

theorem unz_ok : ∀ {ts : List Nat} {vs : List AV} {k : Env → RO}, unz ts vs k = some r → ZV φ a ts vs → ∃ env', k env' = some r ∧ EnvOK φ env' a.tmps
  | [], vs, k, h, _ => ⟨[], h, fun t v hl => by cases hl⟩
  | t :: ts, [], k, h, hz => by cases h
  | t :: ts, v :: vs, k, h, hz => by
    simp only [unz] at h
    obtain ⟨env', h1, h2⟩ := unz_ok h hz.2
    exact ⟨_, h1, envOK_cons hz.1 h2⟩

theorem kpE_ok (he : EnvOK φ env a.tmps) : ∀ {ts : List Nat} {k : Env → RO}, kpE env ts k = some r → ∃ env', k env' = some r ∧ EnvOK φ env' a.tmps
  | [], k, h => ⟨[], h, fun t v hl => by cases hl⟩
  | t :: ts, k, h => by
    simp only [kpE] at h
    cases hv : lk env t with
    | none => rw [hv] at h; cases h
    | some v =>
      rw [hv] at h
      obtain ⟨env', h1, h2⟩ := kpE_ok he h
      exact ⟨_, h1, envOK_cons (he t v hv) h2⟩

/-- What follows, under a name, with the slots that are wanted. -/
theorem Then.sel {live : List Nat} {K : KC} {next : Act → World → Prop} (h : Then n base φ H w r K next) : Then n base φ H w r (fun env H => selE env live fun vs => unz live vs fun env => K env H) next := by
  intro env' H' φ' w' a' h1 h2 h3
  obtain ⟨vs, g1, g2⟩ := selE_ok h3.env h1
  obtain ⟨env'', g3, g4⟩ := unz_ok g1 g2
  exact h env'' H' φ' w' a' g3 h2 ⟨g4, h3.size, h3.nod⟩

theorem cc_ok {fuel : Nat} (hm : P.follows .mixedOrders = true) (hcl : ClOK P cf cl) (hp : PrOK P cf) : ∀ (c : Code) (ht : HT) (env : Env) (Kr : KC) (Kx : List (Nat × KC)) (Kn : KC) (H : AH) (φ : Lay) (w : World) (a : Act) (Q : Exit → Act → World → Prop),
    codeOK P n c ht = true → GlobOK φ cf.ng → Rel base φ H w → St n φ env a → cc P cf cl fuel c ht env Kr Kx Kn H = some r → Then n base φ H w r Kn (Q .normal) → Then n base φ H w r Kr (Q .ret) →
    (∀ id K, lkx Kx id = some K → Then n base φ H w r K (Q (.exit id))) → c.wp P Q a w := by
  intro c
  induction c with
  | skip =>
    intro ht env Kr Kx Kn H φ w a Q hc hg hr hs h hn hrt hx
    simp only [cc] at h
    exact wp_skip (hn env H φ w a h (Step.refl hr) hs)
  | ret =>
    intro ht env Kr Kx Kn H φ w a Q hc hg hr hs h hn hrt hx
    simp only [cc] at h
    exact wp_ret (hrt env H φ w a h (Step.refl hr) hs)
  | exit id =>
    intro ht env Kr Kx Kn H φ w a Q hc hg hr hs h hn hrt hx
    simp only [cc] at h
    cases hk : lkx Kx id with
    | none => rw [hk] at h; cases h
    | some K =>
      rw [hk] at h
      exact wp_exit (hx id K hk env H φ w a h (Step.refl hr) hs)
  | seq x y ihx ihy =>
    intro ht env Kr Kx Kn H φ w a Q hc hg hr hs h hn hrt hx
    cases ht <;> simp only [codeOK] at hc <;> try (cases hc; done)
    rename_i ha hb
    simp only [Bool.and_eq_true] at hc
    simp only [cc] at h
    refine wp_seq (ihx ha env Kr Kx _ H φ w a _ hc.1 hg hr hs h ?_ hrt hx)
    · intro env' H' φ' w' a' h1 h2 h3
      exact ihy hb env' Kr Kx Kn H' φ' w' a' Q hc.2 (hg.mono h2.le) h2.rel h3 h1 (hn.step h2) (hrt.step h2) (fun id K hk => (hx id K hk).step h2)
  | cond c x y ihx ihy =>
    intro ht env Kr Kx Kn H φ w a Q hc hg hr hs h hn hrt hx
    have key : ∀ {v : AV} {A B : RO} {ka kb : Prop}, iteP v A B = some r → V φ v (a.eval c) → ∃ t, a.eval c = .bool t ∧ (if t then A = some r else B = some r) := fun {v A B ka kb} h hv => by
      unfold iteP at h
      cases v <;> simp only at h <;> try (cases h; done)
      rename_i t
      simp only [V] at hv
      refine ⟨t, hv, ?_⟩
      cases t <;> exact h
    cases ht <;> simp only [codeOK] at hc <;> try (cases hc; done)
    · rename_i live ha hb
      simp only [Bool.and_eq_true] at hc
      simp only [cc, jn] at h
      obtain ⟨v, h1, h2⟩ := ev_ok hg hs.env h
      obtain ⟨t, h3, h4⟩ := key (ka := True) (kb := True) h1 h2
      cases t with
      | true => exact wp_cond h3 (ihx ha env Kr Kx _ H φ w a Q hc.1 hg hr hs h4 hn.sel hrt hx)
      | false => exact wp_cond h3 (ihy hb env Kr Kx _ H φ w a Q hc.2 hg hr hs h4 hn.sel hrt hx)
    · rename_i ha hb
      simp only [Bool.and_eq_true] at hc
      simp only [cc] at h
      obtain ⟨v, h1, h2⟩ := ev_ok hg hs.env h
      obtain ⟨t, h3, h4⟩ := key (ka := True) (kb := True) h1 h2
      cases t with
      | true => exact wp_cond h3 (ihx ha env Kr Kx _ H φ w a Q hc.1 hg hr hs h4 hn hrt hx)
      | false => exact wp_cond h3 (ihy hb env Kr Kx _ H φ w a Q hc.2 hg hr hs h4 hn hrt hx)
  | block id c ih =>
    intro ht env Kr Kx Kn H φ w a Q hc hg hr hs h hn hrt hx
    cases ht <;> simp only [codeOK] at hc <;> try (cases hc; done)
    rename_i live hb
    simp only [cc, jn] at h
    refine wp_block (ih hb env Kr _ _ H φ w a _ hc hg hr hs h hn.sel hrt ?_)
    intro id' K hk
    simp only [lkx] at hk
    cases hb : Nat.beq id id' with
    | true =>
      rw [hb] at hk
      have e := Nat.eq_of_beq_eq_true hb
      subst e
      cases hk
      have e : Exit.inBlock id Q (.exit id) = Q .normal := by
        funext a w
        simp [Exit.inBlock]
      rw [e]
      exact hn.sel
    | false =>
      rw [hb] at hk
      have e : Exit.inBlock id Q (.exit id') = Q (.exit id') := by
        funext a w
        have : id' ≠ id := fun e => by subst e; rw [Nat.beq_refl] at hb; cases hb
        simp [Exit.inBlock, this]
      rw [e]
      exact hx id' K hk
  | loop c ih =>
    intro ht env Kr Kx Kn H φ w a Q hc hg hr hs h hn hrt hx
    cases ht <;> simp only [codeOK] at hc <;> try (cases hc; done)
    rename_i live hb
    simp only [cc] at h
    obtain ⟨vs, h1, h2⟩ := selE_ok hs.env h
    have key : ∀ (m : Nat) (vs : List AV) (H' : AH) (φ' : Lay) (w' : World) (a' : Act), loopF (fun rec vs H => unz live vs fun env => cc P cf cl fuel c hb env Kr Kx (fun env H => selE env live fun vs => rec vs H) H) m vs H' = some r →
        Step base φ H w φ' H' w' → ZV φ' a' live vs → a'.tmps.size = n → a'.defers = [] → Code.rounds P c Q m a' w' := by
      intro m
      induction m with
      | zero => intro vs H' φ' w' a' h; cases h
      | succ m ihm =>
        intro vs H' φ' w' a' h hst hz hsz hnd
        simp only [loopF] at h
        obtain ⟨env', g1, g2⟩ := unz_ok h hz
        rw [rounds_succ]
        refine ih hb env' Kr Kx _ H' φ' w' a' _ hc (hg.mono hst.le) hst.rel ⟨g2, hsz, hnd⟩ g1 ?_ (hrt.step hst) (fun id K hk => (hx id K hk).step hst)
        intro env'' H'' φ'' w'' a'' f1 f2 f3
        obtain ⟨vs', f4, f5⟩ := selE_ok f3.env f1
        exact ihm vs' H'' φ'' w'' a'' f4 (hst.trans f2) f5 f3.size f3.nod
    exact wp_loop_rounds fuel (key fuel vs H φ w a h1 (Step.refl hr) h2 hs.size hs.nod)
  | region id ops draw =>
    intro ht env Kr Kx Kn H φ w a Q hc hg hr hs h hn hrt hx
    cases ht <;> simp only [codeOK] at hc <;> try (cases hc; done)
    rename_i keep plan
    simp only [Bool.and_eq_true, List.all_eq_true] at hc
    obtain ⟨hc1, hc2⟩ := hc
    have hd : ∀ o ∈ ops.toList, ∀ t, o.dst = some t → t < n := fun o ho t ht => by
      have := hc1 o ho
      rw [ht] at this
      exact blt_iff.1 this
    have hn' : Then n base φ H w r (fun env H => kpE env keep fun env => Kn env H) (Q .normal) := by
      intro env' H' φ' w' a' h1 h2 h3
      obtain ⟨env'', g1, g2⟩ := kpE_ok h3.env h1
      exact hn env'' H' φ' w' a' g1 h2 ⟨g2, h3.size, h3.nod⟩
    cases draw with
    | false =>
      simp only [cc] at h
      refine wp_region ?_
      have := rgo_ok (n := n) hcl hp hd ops.toList 0 env H φ w a _ (by simp) hg hs hr h hn'
      rw [Array.length_toList, ← List.range_eq_range'] at this
      exact this
    | true =>
      simp only [cc] at h
      exact rgd_ok hm hcl hp hg hd (by simpa using hc2) hr hs h hn'
  | _ =>
    intro ht env Kr Kx Kn H φ w a Q hc
    cases ht <;> simp only [codeOK] at hc <;> cases hc
end

end Go.Proofs.YtlpfhodieopmhaaGreatDoor.Ae

namespace Go.Proofs.YtlpfhodieopmhaaGreatDoor.Ae
open Go.RowKit

section
variable {P : Program} {cf : Cf} {cl : Caller} {n base : Nat} {φ : Lay} {H : AH} {w : World} {env : Env} {a : Act} {r : AV × AH}

theorem getD_of {tmps : Array Value} {t : Nat} {cv : Value} (h : tmps[t]? = some cv) : tmps.getD t undef = cv := by
  simp [Array.getD_eq_getD_getElem?, h]

/-- One result. -/
def resOne (tmps : Array Value) : ResultVar → Sem Value
  | .tmp t => pure (tmps.getD t undef)
  | .cell b t => do loadVar t (← asAddr (tmps.getD b undef))

theorem resL_ok (he : EnvOK φ env a.tmps) (hr : Rel base φ H w) : ∀ {rs : List ResultVar} {k : List AV → RO}, resL P env H rs k = some r →
    ∃ vs cvs, k vs = some r ∧ VL φ vs cvs ∧ (rs.mapM (resOne a.tmps)).run P w = .ok cvs w
  | [], k, h => ⟨[], [], h, by simp only [VL], rfl⟩
  | .tmp t :: rs, k, h => by
    simp only [resL] at h
    cases hv : lk env t with
    | none => rw [hv] at h; cases h
    | some v =>
      rw [hv] at h
      obtain ⟨vs, cvs, h1, h2, h3⟩ := resL_ok he hr h
      obtain ⟨cv, g1, g2⟩ := he t v hv
      refine ⟨v :: vs, cv :: cvs, h1, by simp only [VL]; exact ⟨cv, cvs, rfl, g2, h2⟩, ?_⟩
      rw [List.mapM_cons, Sem.run_bind]
      simp only [resOne, Sem.run_pure, Result.andThen, getD_of g1]
      rw [Sem.run_bind, h3]
      rfl
  | .cell b t :: rs, k, h => by
    simp only [resL] at h
    cases hv : lk env b with
    | none => rw [hv] at h; cases h
    | some p =>
      rw [hv] at h
      simp only at h
      obtain ⟨cp, g1, g2⟩ := he b p hv
      have fin : ∀ {v cv}, resL P env H rs (fun vs => k (v :: vs)) = some r → V φ v cv → (∀ B off, cp = .pointer (some ⟨B, off, none⟩) → (loadVar t ⟨B, off, none⟩).run P w = .ok cv w) → (∃ B off, cp = .pointer (some ⟨B, off, none⟩)) → ∃ vs cvs, k vs = some r ∧ VL φ vs cvs ∧ ((ResultVar.cell b t :: rs).mapM (resOne a.tmps)).run P w = .ok cvs w := by
        intro v cv h hv hl hcp
        obtain ⟨B, off, hcp⟩ := hcp
        obtain ⟨vs, cvs, h1, h2, h3⟩ := resL_ok he hr h
        refine ⟨v :: vs, cv :: cvs, h1, by simp only [VL]; exact ⟨cv, cvs, rfl, hv, h2⟩, ?_⟩
        rw [List.mapM_cons, Sem.run_bind]
        simp only [resOne, getD_of g1, hcp, asAddr, Sem.run_bind, Sem.run_pure, Result.andThen, hl B off hcp]
        rw [h3]
      obtain ⟨d, h3, h4⟩ := agS_ok h
      cases ha : isAg d with
      | true =>
        rw [ha] at h4
        simp only at h4
        obtain ⟨i, h5, h6⟩ := szS_ok h4
        obtain ⟨B, off, vs, v, e, h7, h8, h9, h10⟩ := ldA_ok hr h6 g2
        refine fin h9 h10 (fun B' off' e' => ?_) ⟨B, off, e⟩
        rw [e] at e'
        cases e'
        exact run_loadVar_agg h3 ha h5 h7 h8
      | false =>
        rw [ha] at h4
        simp only at h4
        obtain ⟨B, off, u, v, e, h7, h8, h9⟩ := ld1_ok hr h4 g2
        refine fin h8 h9 (fun B' off' e' => ?_) ⟨B, off, e⟩
        rw [e] at e'
        cases e'
        exact run_loadVar_one h3 ha h7

theorem resP_ok {fn : Func} (he : EnvOK φ env a.tmps) (hr : Rel base φ H w) (h : resP P fn.results env H = some r) : ∃ cv, (results fn a.tmps).run P w = .ok cv w ∧ r.2 = H ∧ V φ r.1 cv := by
  unfold resP at h
  obtain ⟨vs, cvs, h1, h2, h3⟩ := resL_ok he hr h
  have hrun : ∀ (f : ResultVar → Sem Value), (fn.results.toList.mapM f).run P w = .ok cvs w → (fn.results.mapM f).run P w = .ok cvs.toArray w := fun f hf => by
    rw [Array.mapM_eq_mapM_toList]
    simp only [Sem.run_map, hf, Result.andThen]
  refine ⟨if h : cvs.toArray.size = 1 then cvs.toArray[0] else .tuple cvs.toArray, ?_, ?_⟩
  · have hdef : results fn a.tmps = (do
        let vs ← fn.results.mapM (resOne a.tmps)
        pure (if h : vs.size = 1 then vs[0] else .tuple vs)) := by
      unfold results
      congr 1
    rw [hdef, Sem.run_bind, hrun _ h3]
    rfl
  · rcases vs with _ | ⟨v, _ | ⟨v2, vs⟩⟩
    · cases h1
      simp only [VL] at h2
      subst h2
      exact ⟨rfl, by simp only [V]; exact ⟨#[], rfl, by simp only [VL]⟩⟩
    · cases h1
      simp only [VL] at h2
      obtain ⟨cv, _, rfl, h4, rfl⟩ := h2
      exact ⟨rfl, by simpa using h4⟩
    · cases h1
      have hl := h2.length
      refine ⟨rfl, ?_⟩
      have : ¬ cvs.toArray.size = 1 := by simp at hl ⊢; omega
      rw [dif_neg this]
      simp only [V]
      exact ⟨cvs.toArray, rfl, h2⟩

theorem codeOK_mono {n m : Nat} (hnm : n ≤ m) : ∀ {c : Code} {ht : HT}, codeOK P n c ht = true → codeOK P m c ht = true := by
  intro c
  induction c with
  | region id ops draw =>
    intro ht h
    cases ht <;> simp only [codeOK] at h ⊢ <;> try (cases h; done)
    simp only [Bool.and_eq_true, List.all_eq_true] at h ⊢
    refine ⟨fun o ho => ?_, h.2⟩
    have := h.1 o ho
    cases hd : o.dst with
    | none => rfl
    | some d =>
      rw [hd] at this
      exact blt_iff.2 (Nat.lt_of_lt_of_le (blt_iff.1 this) hnm)
  | seq x y ihx ihy =>
    intro ht h
    cases ht <;> simp only [codeOK, Bool.and_eq_true] at h ⊢ <;> try (cases h; done)
    exact ⟨ihx h.1, ihy h.2⟩
  | cond c x y ihx ihy =>
    intro ht h
    cases ht <;> simp only [codeOK, Bool.and_eq_true] at h ⊢ <;> try (cases h; done)
    all_goals exact ⟨ihx h.1, ihy h.2⟩
  | block id c ih =>
    intro ht h
    cases ht <;> simp only [codeOK] at h ⊢ <;> first | exact ih h | cases h
  | loop c ih =>
    intro ht h
    cases ht <;> simp only [codeOK] at h ⊢ <;> first | exact ih h | cases h
  | _ =>
    intro ht h
    cases ht <;> simp only [codeOK] at h ⊢ <;> cases h

theorem argE_ok : ∀ {vs : List AV} {i : Nat} {cvs : List Value} {tmps : Array Value}, VL φ vs cvs → (∀ j cv, cvs[j]? = some cv → tmps[i + j]? = some cv) → EnvOK φ (argE i vs) tmps
  | [], i, cvs, tmps, _, _ => fun t v hl => by cases hl
  | v :: vs, i, cvs, tmps, h, ht => by
    simp only [VL] at h
    obtain ⟨cv, cvs', rfl, h1, h2⟩ := h
    have ih : EnvOK φ (argE (i + 1) vs) tmps := argE_ok h2 fun j c hj => by
      have := ht (j + 1) c (by simpa using hj)
      rw [show i + 1 + j = i + (j + 1) by omega]
      exact this
    intro t u hl
    simp only [argE, lk] at hl
    cases hb : Nat.beq i t with
    | true =>
      rw [hb] at hl
      have e := Nat.eq_of_beq_eq_true hb
      subst e
      cases hl
      exact ⟨cv, ht 0 cv rfl, h1⟩
    | false => rw [hb] at hl; exact ih t u hl

/-- The table tells the program's functions, with good plans. -/
def TbOK (P : Program) (tb : FuncId → Option (Func × HT)) : Prop := ∀ f fn ht, tb f = some (fn, ht) → P.funcs[f]? = some fn ∧ (fn.name == "runtime.NumGoroutine") = false ∧ ∀ c, fn.body = some c → codeOK P fn.ntmps c ht = true

theorem callC_ok {tb : FuncId → Option (Func × HT)} {fuel : Nat} (hm : P.follows .mixedOrders = true) (ht : TbOK P tb) (hp : PrOK P cf) : ∀ m, ClOK P cf (callC P cf tb fuel m)
  | 0 => fun f args H r h => by cases h
  | m + 1 => by
    intro f args H r h
    simp only [callC] at h
    cases htb : tb f with
    | none => rw [htb] at h; cases h
    | some p =>
      obtain ⟨fn, hint⟩ := p
      rw [htb] at h
      simp only at h
      cases hb : fn.body with
      | none => rw [hb] at h; cases h
      | some c =>
        rw [hb] at h
        simp only at h
        obtain ⟨t1, t2, t3⟩ := ht f fn hint htb
        refine ⟨⟨fn, c, t1, hb, t2⟩, fun base φ w cargs hr hg hv => ?_⟩
        refine calls_of_wp t1 hb ?_
        have post : ∀ (Q : Exit), (Q = .normal ∨ Q = .ret) → Then (cargs ++ Array.replicate (fn.ntmps - cargs.size) undef).size base φ H w r (fun env H => resP P fn.results env H) (bodyPost P fn (Res base φ H w r) Q) := by
          intro Q hQ env' H' φ' w' a' h1 h2 h3
          obtain ⟨cv, g1, g2, g3⟩ := resP_ok h3.env h2.rel h1
          have : a'.defers = [] ∧ ∃ v, (results fn a'.tmps).run P w' = .ok v w' ∧ Res base φ H w r (.returned v) w' := ⟨h3.nod, cv, g1, φ', by rw [g2]; exact h2, g3⟩
          rcases hQ with e | e <;> subst e <;> exact this
        refine cc_ok (n := (cargs ++ Array.replicate (fn.ntmps - cargs.size) undef).size) hm (callC_ok hm ht hp m) hp c hint (argE 0 args) _ [] _ H φ w _ _ (codeOK_mono (by simp; omega) (t3 c hb)) hg hr ⟨?_, rfl, rfl⟩ h (post .normal (.inl rfl)) (post .ret (.inr rfl)) (fun id K hk => by cases hk)
        refine argE_ok hv fun j cv hj => ?_
        rw [Nat.zero_add]
        have hlt : j < cargs.size := by
          have := (List.getElem?_eq_some_iff.1 hj).1
          simpa using this
        rw [Array.getElem?_append_left hlt]
        simpa using hj
end

end Go.Proofs.YtlpfhodieopmhaaGreatDoor.Ae

namespace Go.Proofs.YtlpfhodieopmhaaGreatDoor.Ae
open Go.RowKit

/-- The layout at the beginning: the package-level variables. -/
def glob (ng : Nat) (N : Nat → Nat) : Lay := fun g => if g < ng then some (g, 0, N g) else none

theorem glob_ok (ng : Nat) (N : Nat → Nat) : GlobOK (glob ng N) ng := fun g hg => ⟨N g, by simp [glob, hg]⟩

theorem Rel.init {ng : Nat} {N : Nat → Nat} {H : AH} {w : World} (hn : H.next = ng) (hlt : ng ≤ w.heap.size) (hobj : ∀ b o, H.objs.get b = some o → b < ng ∧ o.ro = true ∧ RelO (glob ng N) w o b 0 (N b)) : Rel w.heap.size (glob ng N) H w := by
  have at' : ∀ {b o B sh M}, H.objs.get b = some o → glob ng N b = some (B, sh, M) → B = b ∧ sh = 0 ∧ M = N b ∧ b < ng := fun {b o B sh M} h1 h2 => by
    have h3 := (hobj b o h1).1
    simp only [glob, h3, if_true, Option.some.injEq, Prod.mk.injEq] at h2
    exact ⟨h2.1.symm, h2.2.1.symm, h2.2.2.symm, h3⟩
  refine ⟨fun b o B sh M h1 h2 => ?_, fun b o B sh M h1 h2 h3 => ?_, fun b o b' o' B sh M sh' M' h1 h2 h3 h4 h5 => ?_, fun b hb => ?_, fun b o B sh M h1 h2 => ?_, Nat.le_refl _⟩
  · obtain ⟨rfl, rfl, rfl, _⟩ := at' h1 h2
    exact (hobj _ o h1).2.2
  · rw [(hobj b o h1).2.1] at h3; cases h3
  · rw [(hobj b o h1).2.1] at h5; cases h5
  · refine ⟨?_, by simp [glob]; omega⟩
    cases h : H.objs.get b with
    | none => rfl
    | some o => have := (hobj b o h).1; omega
  · obtain ⟨rfl, rfl, rfl, h3⟩ := at' h1 h2
    omega

theorem calls_bool {P : Program} {f : FuncId} {args : Array Value} {w : World} {base : Nat} {φ : Lay} {H : AH} {r : AV × AH} {b : Bool} (h : Calls P f args w (Res base φ H w r)) (hr : r.1 = .bool b) :
    Calls P f args w fun e w' => e = .returned (.bool b) ∧ Below base w w' := by
  refine h.mono fun e w' he => ?_
  cases e with
  | returned v =>
    obtain ⟨φ', h1, h2⟩ := he
    rw [hr] at h2
    simp only [V] at h2
    subst h2
    exact ⟨rfl, h1.below⟩
  | panicked c => exact absurd he id
  | outgrown => exact absurd he id

theorem below_kept {w w' : World} (h : Below w.heap.size w w') : w.keptBut w' (fun _ => False) ∧ (∀ a, a.block < w.heap.size → w'.frozen? a = w.frozen? a) := by
  refine ⟨⟨h.os, h.output, fun i hi => ?_⟩, fun a ha => ?_⟩
  · rw [h.block i hi]
    cases w.heap[i]? with
    | none => rfl
    | some o => cases o <;> simp
  · simp only [World.frozen?, h.block a.block ha]

open Go.ChangeShapes Go.WideShapes in
/-- What a law leaves that changed nothing which stood before. -/
theorem post_of_old {X : Type} {enc : TypeId × Value → X} {P : Program} {f : Func} {s : ChangeSpec} {apart fresh handsOn again : Bool} {W W' : World} {args : Array Value} {v : Value} {ds gs : List (DataW X)} {before pa pv : List MemPlace}
    (hW : DataW.Whole enc P f.params.toList s.vars apart W args.toList ds gs before)
    (hres : ∀ (b : Nat) (sp : Nat → Bool) (hd : Bool), DataW.TrodAll enc P W' b sp hd f.resultTypes.toList (v.resultList f.resultTypes.size) (s.fn X (ds ++ gs)).results [])
    (hargs : ∀ sp : Nat → Bool, (∀ p ∈ before, sp p.block = true) → DataW.TrodAll enc P W' 0 sp true f.params.toList args.toList (s.fn X (ds ++ gs)).args pa)
    (hvars : ∀ sp : Nat → Bool, (∀ p ∈ before, sp p.block = true) → DataW.TrodVars enc P W' sp s.vars (s.fn X (ds ++ gs)).vars pv)
    (hps : before = pa ++ pv) (hk : W.keptBut W' (· ∈ before)) (hfz : ∀ a, a.block < W.heap.size → W'.frozen? a = W.frozen? a)
    (hok : ∀ (j : Nat) (t : TypeId) (r : Value), f.resultTypes[j]? = some t → (v.resultList f.resultTypes.size)[j]? = some r → Value.okWide P W' .any 0 t r) :
    s.post enc P f apart fresh handsOn again W args v W' := by
  have hold : ∀ p ∈ before, (fun b => decide (b < W.heap.size)) p.block = true := fun p hp => by simpa using hW.lt p hp
  have hlt : ∀ p ∈ before, p.block < W.heap.size := fun p hp => hW.lt p hp
  refine ⟨ds, gs, before, [], pa, pv, hW, hres _ _ _, hargs _ hold, hvars _ hold, World.keptBut_mono (fun p hp => ⟨hp, ?_⟩) hk, fun _ => ?_⟩
  · rw [hps, List.mem_append] at hp
    exact Or.inr hp
  · obtain ⟨_, _, _, _, _, hz, hn⟩ := hW
    refine ⟨hok, _, _, ([] ++ pa) ++ pv, ⟨[] ++ pa, pv, trodAll_append (hargs _ (fun _ _ => rfl)) (hres _ _ _), hvars _ (fun _ _ => rfl), rfl, ?_, ?_⟩, ?_⟩
    · intro b off hp
      have hb : MemPlace.cell b off ∈ before := by rw [hps]; simpa using hp
      rw [hfz _ (hlt _ hb)]
      exact hz b off hb
    · intro ha
      have := hn ha
      rw [hps] at this
      simpa using this
    · intro p hp _
      rw [hps]
      simpa using hp
end Go.Proofs.YtlpfhodieopmhaaGreatDoor.Ae

namespace Go.Proofs.YtlpfhodieopmhaaGreatDoor.Ae

/-- An operand: a place in the list of values, or a constant. -/
inductive FX where
  | t (i : Nat)
  | c (a : AV)

inductive FO where
  | bad
  | mv (x : FX)
  | pick (c a b : FX)
  | nw (e s : Nat) (x : FX)
  | bd (n : Nat) (z : List AV) (ps : List (Nat × Nat × FX))
  | bs (e s n : Nat) (z : List AV) (ps : List (Nat × FX))
  | la (s : Nat) (x : FX)
  | ld (x : FX)
  | st (s : Nat) (x y : FX)
  | nc (x : FX)
  | eq (t : Nat) (c n : Bool) (x y : FX)
  | bi (o : BinOp) (x y : FX)
  | un (o : UnOp) (x : FX)
  | ci (k : IntKind) (x : FX)
  | ct (x : FX)
  | cs (x : FX)
  | cb (e : Nat) (x : FX)
  | pu (x : FX)
  | up (u s : Nat) (x : FX)
  | mi (t : Nat) (x : FX)
  | mf (f : Nat) (a c : List FX)
  | ms (e s b : Nat) (z : List AV) (x y : FX)
  | ss (lo hi : Option FX) (x : FX)
  | sl (s : Nat) (lo hi mx : Option FX) (x : FX)
  | sa (n s : Nat) (lo hi mx : Option FX) (x : FX)
  | fa (o : Nat) (x : FX)
  | fd (g : Bool) (o s : Nat) (x : FX)
  | is (s : Nat) (x y : FX)
  | ia (n s : Nat) (x y : FX)
  | xs (x y : FX)
  | xa (g : Bool) (n s : Nat) (x y : FX)
  | ex (i : Nat) (x : FX)
  | ap (e s b : Nat) (x y : FX)
  | cp (s : Nat) (x y : FX)
  | ls (x : FX)
  | ll (x : FX)
  | cc (x : FX)
  | mm (m : Bool) (l : List FX)
  | us (e : Nat) (x y : FX)
  | sd (x : FX)
  | pr (n : Nat) (l : List FX)
  | cl (f : Nat) (l : List FX)
  | cv (x : FX) (l : List FX)
  | ln (n : Nat) (x : FX)

/-- An operation where it stands (i: its number in the text): its value is kept (p), or not; under a guard; one that is asked again. -/
inductive FI where
  | o (i : Nat) (p : Bool) (x : FO)
  | g (i : Nat) (p : Bool) (at' : Nat) (want : Bool) (x : FO)
  | q (i : Nat) (v : Nat) (x : FO)
  | h (i : Nat) (v : Nat) (at' : Nat) (want : Bool) (x : FO)

/-- A result: a value, or what lies at an address. -/
inductive FR where
  | t (i : Nat)
  | a (s : Nat) (i : Nat)
  | d (i : Nat)

abbrev KL := List AV → AH → RO

inductive FC where
  | sk
  | rt (rs : List FR)
  | xt (d : Nat) (sel : List Nat)
  | rg (l : List FI) (sel : List Nat)
  | sq (a b : FC)
  | cd (x : FX) (a b : FC)
  | cj (x : FX) (live : List Nat) (a b : FC)
  | bl (live : List Nat) (a : FC)
  | lp (live : List Nat) (sel : List Nat) (a : FC)
  | se (sel : List Nat)
  | sr (f : Caller → Nat → List AV → List KL → KL → AH → RO)

noncomputable section

/-! ### The list of values -/
def nthK (l : List AV) : Nat → (AV → RO) → RO :=
  List.rec (motive := fun _ => Nat → (AV → RO) → RO) (fun _ _ => none) (fun a _ ih i k => Nat.rec (motive := fun _ => RO) (k a) (fun j _ => ih j k) i) l

def evF (x : FX) : List AV → (AV → RO) → RO :=
  FX.rec (motive := fun _ => List AV → (AV → RO) → RO) (fun i l k => nthK l i k) (fun a _ k => k a) x

def evFL (xs : List FX) : List AV → (List AV → RO) → RO :=
  List.rec (motive := fun _ => List AV → (List AV → RO) → RO) (fun _ k => k []) (fun x _ ih l k => evF x l fun v => ih l fun vs => k (v :: vs)) xs

def evFO (x : Option FX) (l : List AV) (k : Option AV → RO) : RO := match x with
  | none => k none
  | some x => evF x l fun v => k (some v)

def evF2 : List (Nat × FX) → List AV → (List (Nat × AV) → RO) → RO
  | [], _, k => k []
  | (i, x) :: r, l, k => evF x l fun v => evF2 r l fun vs => k ((i, v) :: vs)

def evF3 : List (Nat × Nat × FX) → List AV → (List (Nat × Nat × AV) → RO) → RO
  | [], _, k => k []
  | (i, j, x) :: r, l, k => evF x l fun v => evF3 r l fun vs => k ((i, j, v) :: vs)

def selV (sel : List Nat) : List AV → (List AV → RO) → RO :=
  List.rec (motive := fun _ => List AV → (List AV → RO) → RO) (fun _ k => k []) (fun i _ ih l k => nthK l i fun v => ih l fun vs => k (v :: vs)) sel

/-! ### Operations -/
def lenS (x : AV) (k : AV → RO) : RO := match x with
  | .str _ => lenP x k
  | _ => none

def lenL (x : AV) (k : AV → RO) : RO := match x with
  | .str _ => none
  | _ => lenP x k

abbrev MO := Program → Nat → Caller → List AV → AH → KV → RO

def mBad : MO := fun _ _ _ _ _ _ => none
def mMv (x : FX) : MO := fun _ _ _ l H k => evF x l fun v => k v H
def mPick (c a b : FX) : MO := fun _ _ _ l H k => evF c l fun c => evF a l fun a => evF b l fun b => pickP c a b fun v => k v H
def mNw (e s : Nat) (x : FX) : MO := fun _ _ _ l H k => evF x l fun v => newV e s v H k
def mBd (n : Nat) (z : List AV) (ps : List (Nat × Nat × FX)) : MO := fun _ _ _ l H k => evF3 ps l fun ps => bdP n z ps fun v => k v H
def mBs (e s n : Nat) (z : List AV) (ps : List (Nat × FX)) : MO := fun _ _ _ l H k => evF2 ps l fun ps => bsP e s n z ps H k
def mLa (s : Nat) (x : FX) : MO := fun _ _ _ l H k => evF x l fun p => ldA s p H fun v => k v H
def mLd (x : FX) : MO := fun _ _ _ l H k => evF x l fun p => ld1 p H fun v => k v H
def mSt (s : Nat) (x y : FX) : MO := fun _ _ _ l H k => evF x l fun p => evF y l fun v => stP s p v H fun H => k (.tup []) H
def mNc (x : FX) : MO := fun _ _ _ l H k => evF x l fun p => nilP p fun v => k v H
def mEq (t : Nat) (c n : Bool) (x y : FX) : MO := fun P _ _ l H k => evF x l fun a => evF y l fun b => eqO P t c a b fun r => k (.bool (bif n then !r else r)) H
def mBi (o : BinOp) (x y : FX) : MO := fun _ _ _ l H k => evF x l fun a => evF y l fun b => binP o a b fun v => k v H
def mUn (o : UnOp) (x : FX) : MO := fun _ _ _ l H k => evF x l fun a => unP o a fun v => k v H
def mCi (i : IntKind) (x : FX) : MO := fun _ _ _ l H k => evF x l fun a => cvI i a fun v => k v H
def mCt (x : FX) : MO := fun _ _ _ l H k => evF x l fun a => cvSame a fun v => k v H
def mCs (x : FX) : MO := fun _ _ _ l H k => evF x l fun a => cvS a H fun v => k v H
def mCb (e : Nat) (x : FX) : MO := fun _ _ _ l H k => evF x l fun a => cvB e a H k
def mPu (x : FX) : MO := fun _ _ _ l H k => evF x l fun a => cvPU a H fun v => k v H
def mUp (u s : Nat) (x : FX) : MO := fun _ _ _ l H k => evF x l fun a => cvUP u s a H fun v => k v H
def mMi (t : Nat) (x : FX) : MO := fun _ _ _ l H k => evF x l fun a => k (.iface t a) H
def mMf (f : Nat) (a c : List FX) : MO := fun _ _ _ l H k => evFL a l fun a => evFL c l fun c => k (.func f a c) H
def mMs (e s b : Nat) (z : List AV) (x y : FX) : MO := fun _ _ _ l H k => evF x l fun a => evF y l fun c => msP e s b z a c H k
def mSs (lo hi : Option FX) (x : FX) : MO := fun _ _ _ l H k => evF x l fun a => evFO lo l fun lo => evFO hi l fun hi => slS lo hi a fun v => k v H
def mSl (s : Nat) (lo hi mx : Option FX) (x : FX) : MO := fun _ _ _ l H k => evF x l fun a => evFO lo l fun lo => evFO hi l fun hi => evFO mx l fun mx => slL s lo hi mx a fun v => k v H
def mSa (n s : Nat) (lo hi mx : Option FX) (x : FX) : MO := fun _ _ _ l H k => evF x l fun a => evFO lo l fun lo => evFO hi l fun hi => evFO mx l fun mx => slA n s lo hi mx a fun v => k v H
def mFa (o : Nat) (x : FX) : MO := fun _ _ _ l H k => evF x l fun p => faP o p fun v => k v H
def mFd (g : Bool) (o s : Nat) (x : FX) : MO := fun _ _ _ l H k => evF x l fun p => fdP g o s p fun v => k v H
def mIs (s : Nat) (x y : FX) : MO := fun _ _ _ l H k => evF x l fun a => evF y l fun i => iaS s a i fun v => k v H
def mIa (n s : Nat) (x y : FX) : MO := fun _ _ _ l H k => evF x l fun a => evF y l fun i => iaA n s a i fun v => k v H
def mXs (x y : FX) : MO := fun _ _ _ l H k => evF x l fun a => evF y l fun i => ixS a i fun v => k v H
def mXa (g : Bool) (n s : Nat) (x y : FX) : MO := fun _ _ _ l H k => evF x l fun a => evF y l fun i => ixA g n s a i fun v => k v H
def mEx (i : Nat) (x : FX) : MO := fun _ _ _ l H k => evF x l fun a => exP i a fun v => k v H
def mAp (e s b : Nat) (x y : FX) : MO := fun _ _ _ l H k => evF x l fun a => evF y l fun c => apP e s b a c H k
def mCp (s : Nat) (x y : FX) : MO := fun _ _ _ l H k => evF x l fun a => evF y l fun c => cpP s a c H k
def mLs (x : FX) : MO := fun _ _ _ l H k => evF x l fun a => lenS a fun v => k v H
def mLl (x : FX) : MO := fun _ _ _ l H k => evF x l fun a => lenL a fun v => k v H
def mCc (x : FX) : MO := fun _ _ _ l H k => evF x l fun a => capP a fun v => k v H
def mMm (m : Bool) (xs : List FX) : MO := fun _ _ _ l H k => evFL xs l fun vs => mmP m vs fun v => k v H
def mUs (e : Nat) (x y : FX) : MO := fun _ _ _ l H k => evF x l fun a => evF y l fun c => usP e a c H k
def mSd (x : FX) : MO := fun _ _ _ l H k => evF x l fun a => sdP a fun v => k v H
def mPr (n : Nat) (xs : List FX) : MO := fun _ u _ l H k => evFL xs l fun vs => prim u n vs H k
def mCl (f : Nat) (xs : List FX) : MO := fun _ _ c l H k => evFL xs l fun vs => callP c f vs H k
def mCv (x : FX) (xs : List FX) : MO := fun _ _ c l H k => evF x l fun g => evFL xs l fun vs => callV c g vs H k

def mLn (n : Nat) (x : FX) : MO := fun _ _ _ l H k => evF x l fun _ => k (.int .i64 (Int.ofNat n)) H

def runO (o : FO) : MO :=
  FO.rec (motive := fun _ => MO) mBad mMv mPick mNw mBd mBs mLa mLd mSt mNc mEq mBi mUn mCi mCt mCs mCb mPu mUp mMi mMf mMs mSs mSl mSa mFa mFd mIs mIa mXs mXa mEx mAp mCp mLs mLl mCc mMm mUs mSd mPr mCl mCv mLn o

/-! ### Regions -/
abbrev MI := Program → Nat → Caller → List AV → AH → KL → RO

def psV (p : Bool) (v : AV) (l : List AV) : List AV := Bool.rec l (v :: l) p

def gdK (v : AV) (want : Bool) (x y : RO) : RO := match v with
  | .bool b => bif b == want then x else y
  | .tup [] => y
  | _ => none

def chK (a b : AV) (x : RO) : RO := bif sameV a b then x else none

def iO (_ : Nat) (p : Bool) (x : FO) : MI := fun P u c l H k => runO x P u c l H fun v H => k (psV p v l) H
def iG (_ : Nat) (p : Bool) (a : Nat) (want : Bool) (x : FO) : MI := fun P u c l H k => nthK l a fun g => gdK g want (runO x P u c l H fun v H => k (psV p v l) H) (k (psV p (.tup []) l) H)
def iQ (_ : Nat) (v : Nat) (x : FO) : MI := fun P u c l H k => nthK l v fun v => runO x P u c l H fun v' _ => chK v v' (k l H)
def iH (_ : Nat) (v : Nat) (a : Nat) (want : Bool) (x : FO) : MI := fun P u c l H k => nthK l v fun v => nthK l a fun g => gdK g want (runO x P u c l H fun v' _ => chK v v' (k l H)) (k l H)

def runI (i : FI) : MI := FI.rec (motive := fun _ => MI) iO iG iQ iH i

def runR (is : List FI) : MI :=
  List.rec (motive := fun _ => MI) (fun _ _ _ l H k => k l H) (fun i _ ih P u c l H k => runI i P u c l H fun l H => ih P u c l H k) is

/-! ### Code -/
def resF : List FR → List AV → AH → (List AV → RO) → RO
  | [], _, _, k => k []
  | .t i :: r, l, H, k => nthK l i fun v => resF r l H fun vs => k (v :: vs)
  | .a s i :: r, l, H, k => nthK l i fun p => ldA s p H fun v => resF r l H fun vs => k (v :: vs)
  | .d i :: r, l, H, k => nthK l i fun p => ld1 p H fun v => resF r l H fun vs => k (v :: vs)

def retF (rs : List FR) (l : List AV) (H : AH) : RO :=
  resF rs l H fun vs => match vs with
    | [v] => some (v, H)
    | vs => some (.tup vs, H)

def lkK (K : List KL) : Nat → List AV → AH → RO :=
  List.rec (motive := fun _ => Nat → List AV → AH → RO) (fun _ _ _ => none) (fun a _ ih i => Nat.rec (motive := fun _ => List AV → AH → RO) a (fun j _ => ih j) i) K

def iteK (v : AV) (x y : RO) : RO := match v with
  | .bool b => bif b then x else y
  | _ => none

def loopN (n : Nat) (body : (List AV → AH → RO) → List AV → AH → RO) : List AV → AH → RO :=
  Nat.rec (motive := fun _ => List AV → AH → RO) (fun _ _ => none) (fun _ ih => body ih) n

abbrev MC := Program → Nat → Caller → Nat → List AV → List KL → KL → AH → RO

def cSk : MC := fun _ _ _ _ l _ K H => K l H
def cRt (rs : List FR) : MC := fun _ _ _ _ l _ _ H => retF rs l H
def cXt (d : Nat) (sel : List Nat) : MC := fun _ _ _ _ l Kx _ H => selV sel l fun vs => lkK Kx d vs H
def cRg (is : List FI) (sel : List Nat) : MC := fun P u c _ l _ K H => runR is P u c l H fun l H => selV sel l fun vs => K vs H
def cSq (_ _ : FC) (a b : MC) : MC := fun P u c n l Kx K H => a P u c n l Kx (fun l H => b P u c n l Kx K H) H
def cCd (x : FX) (_ _ : FC) (a b : MC) : MC := fun P u c n l Kx K H => evF x l fun v => iteK v (a P u c n l Kx K H) (b P u c n l Kx K H)
def cCj (x : FX) (_ : List Nat) (_ _ : FC) (a b : MC) : MC := cCd x .sk .sk a b
def cBl (_ : List Nat) (_ : FC) (a : MC) : MC := fun P u c n l Kx K H => a P u c n l (K :: Kx) K H
def cLp (_ : List Nat) (sel : List Nat) (_ : FC) (a : MC) : MC := fun P u c n l Kx _ H => selV sel l fun vs => loopN n (fun rec vs H => a P u c n vs Kx rec H) vs H
def cSe (sel : List Nat) : MC := fun _ _ _ _ l _ K H => selV sel l fun vs => K vs H

def cSr (f : Caller → Nat → List AV → List KL → KL → AH → RO) : MC := fun _ _ c n l Kx K H => f c n l Kx K H

def runC (x : FC) : MC := FC.rec (motive := fun _ => MC) cSk cRt cXt cRg cSq cCd cCj cBl cLp cSe cSr x

/-! ### Calls -/
def lenIs (n : Nat) (l : List AV) : Bool := Nat.beq l.length n

def callF (P : Program) (u : Nat) (tb : Tm (Nat × FC)) (fuel : Nat) (n : Nat) : Caller :=
  Nat.rec (motive := fun _ => Caller) (fun _ _ _ => none) (fun _ ih f args H => match tb.get f with
    | some p => bif lenIs p.1 args then runC p.2 P u ih fuel args [] (fun _ _ => none) H else none
    | none => none) n

/-- What a closed call answers: true. -/
def isTrue (r : RO) : Bool := match r with
  | some p => (match p.1 with | .bool b => b | _ => false)
  | none => false

end

end Go.Proofs.YtlpfhodieopmhaaGreatDoor.Ae

namespace Go.Proofs.YtlpfhodieopmhaaGreatDoor.Ae

def ixOf : List Nat → Nat → Option Nat
  | [], _ => none
  | t :: r, i => bif Nat.beq t i then some 0 else match ixOf r i with
    | some j => some (j + 1)
    | none => none

def ixL (ks : List Nat) : List Nat → Option (List Nat)
  | [] => some []
  | t :: r => match ixOf ks t with
    | some i => match ixL ks r with
      | some l => some (i :: l)
      | none => none
    | none => none

def cX (cf : Cf) (ks : List Nat) (x : Operand) : Option FX :=
  match x with
  | .tmp t => match ixOf ks t with | some i => some (.t i) | none => none
  | .const v => match absV v with | some a => some (.c a) | none => none
  | .global g => bif Nat.blt g cf.ng then some (.c (.ptr g 0)) else none
  | .func f => some (.c (.func f [] []))

def cXL (cf : Cf) (ks : List Nat) : List Operand → Option (List FX)
  | [] => some []
  | x :: r => match cX cf ks x with
    | some y => match cXL cf ks r with
      | some l => some (y :: l)
      | none => none
    | none => none

def cXO (cf : Cf) (ks : List Nat) : Option Operand → Option (Option FX)
  | none => some none
  | some x => match cX cf ks x with
    | some y => some (some y)
    | none => none

def cX2 (cf : Cf) (ks : List Nat) : List (Nat × Operand) → Option (List (Nat × FX))
  | [] => some []
  | (i, x) :: r => match cX cf ks x with
    | some y => match cX2 cf ks r with
      | some l => some ((i, y) :: l)
      | none => none
    | none => none

def cPS (pl : List (Nat × Nat)) : List (Nat × FX) → Option (List (Nat × Nat × FX))
  | [] => some []
  | (i, v) :: r => match nth pl i with
    | some (off, size) => match cPS pl r with
      | some l => some ((off, size, v) :: l)
      | none => none
    | none => none

def cPA (size : Nat) : List (Nat × FX) → List (Nat × Nat × FX)
  | [] => []
  | (i, v) :: r => (Nat.mul i size, size, v) :: cPA size r

def cSz (P : Program) (t : TypeId) : Option Nat := match P.info? t with
  | some i => some i.size
  | none => none

def cZe (P : Program) (t : TypeId) : Option (Nat × AV) := match P.info? t with
  | some i => match i.zero with
    | some z => match absV z with
      | some a => bif Nat.beq a.width i.size then some (i.size, a) else none
      | none => none
    | none => none
  | none => none

def cBu (P : Program) (b : Builtin) (ats : Array TypeId) (args : List FX) : Option FO :=
  match b with
  | .append => match args with
    | [s, x] => match ats[0]?, ats[1]? with
      | some t, some u => match P.underlying u with
        | some ud => match ud with
          | .int _ => none
          | _ => match P.underlying t with
            | some td => match td with
              | .slice elem => match P.info? elem with
                | some i => match cZe P elem with
                  | some (size, _) => some (.ap elem size i.bytes s x)
                  | none => none
                | none => none
              | _ => none
            | none => none
        | none => none
      | _, _ => none
    | _ => none
  | .copy => match args with
    | [d, x] => match ats[0]? with
      | some t => match P.underlying t with
        | some td => match td with
          | .slice elem => match cSz P elem with
            | some size => some (.cp size d x)
            | none => none
          | _ => none
        | none => none
      | none => none
    | _ => none
  | .len => match args with
    | [x] => match ats[0]? with
      | some t => match P.underlying t with
        | some td => match td with
          | .string => some (.ls x)
          | .slice _ => some (.ll x)
          | .array n _ => some (.ln n x)
          | _ => none
        | none => none
      | none => none
    | _ => none
  | .cap => match args with
    | [x] => match ats[0]? with
      | some t => match P.underlying t with
        | some td => match td with
          | .slice _ => some (.cc x)
          | _ => none
        | none => none
      | none => none
    | _ => none
  | .max => some (.mm true args)
  | .min => some (.mm false args)
  | .unsafeString => match args with
    | [p, n] => match ats[0]? with
      | some t => match P.underlying t with
        | some td => match td with
          | .pointer e => match cSz P e with
            | some size => (match Nat.beq size 1 with | true => some (.us e p n) | false => none)
            | none => none
          | _ => none
        | none => none
      | none => none
    | _ => none
  | .unsafeSliceData => match args with
    | [x] => some (.sd x)
    | _ => none
  | _ => none

def cCv (P : Program) (src dst : TypeId) (x : FX) : Option FO :=
  match P.underlying src with
  | some s => match P.underlying dst with
    | some d => match d with
      | .int i => some (.ci i x)
      | .string => match s with
        | .string => some (.ct x)
        | .slice e => match P.underlying e with
          | some ed => match ed with
            | .int .u8 => some (.cs x)
            | _ => none
          | none => none
        | _ => none
      | .slice e => match s with
        | .string => match P.underlying e with
          | some ed => match ed with
            | .int .u8 => some (.cb e x)
            | _ => none
          | none => none
        | _ => none
      | .unsafePointer => match s with
        | .pointer e => match cSz P e with
          | some size => (match Nat.beq size 0 with | true => none | false => some (.pu x))
          | none => none
        | _ => none
      | .pointer e => match s with
        | .unsafePointer => match cSz P e with
          | some size => (match Nat.beq size 0 with | true => none | false => some (.up e size x))
          | none => none
        | _ => none
      | _ => none
    | none => none
  | none => none

def cOp (P : Program) (cf : Cf) (ks : List Nat) (op : Op) : Option FO :=
  match op with
  | .move x => match cX cf ks x with | some x => some (.mv x) | none => none
  | .assign x => match cX cf ks x with | some x => some (.mv x) | none => none
  | .pick c a b => match cX cf ks c, cX cf ks a, cX cf ks b with
    | some c, some a, some b => some (.pick c a b)
    | _, _, _ => none
  | .alloc t => match cZe P t with | some (s, z) => some (.nw t s (.c z)) | none => none
  | .box t x => match cX cf ks x, cSz P t with
    | some x, some s => some (.nw t s x)
    | _, _ => none
  | .build t parts => match cX2 cf ks parts.toList, cZe P t, P.underlying t with
    | some ps, some (size, z), some td => match td with
      | .struct fs => match plS P fs.toList with
        | some pl => match cPS pl ps with
          | some l => some (.bd size z.cells l)
          | none => none
        | none => none
      | .array _ elem => match cSz P elem with
        | some es => some (.bd size z.cells (cPA es ps))
        | none => none
      | _ => none
    | _, _, _ => none
  | .buildSlice t len parts => match cX2 cf ks parts.toList, P.underlying t with
    | some ps, some td => match td with
      | .slice elem => match cZe P elem with
        | some (size, z) => some (.bs elem size len z.cells ps)
        | none => none
      | _ => none
    | _, _ => none
  | .load t a => match cX cf ks a, P.underlying t with
    | some a, some td => match isAg td with
      | true => match cSz P t with
        | some s => some (.la s a)
        | none => none
      | false => some (.ld a)
    | _, _ => none
  | .store t a x => match cX cf ks a, cX cf ks x, cSz P t with
    | some a, some x, some s => some (.st s a x)
    | _, _, _ => none
  | .nilCheck x => match cX cf ks x with | some x => some (.nc x) | none => none
  | .binOp op t x y _ => match cX cf ks x, cX cf ks y with
    | some a, some b => match op with
      | .eql => some (.eq t (cstO x y) false a b)
      | .neq => some (.eq t (cstO x y) true a b)
      | op => some (.bi op a b)
    | _, _ => none
  | .unOp op _ x => match cX cf ks x with | some x => some (.un op x) | none => none
  | .convert src dst x => match cX cf ks x with | some x => cCv P src dst x | none => none
  | .makeInterface t x => match cX cf ks x, P.underlying t with
    | some x, some td => match td with
      | .interface _ => none
      | _ => some (.mi t x)
    | _, _ => none
  | .makeFunc (.func f) a c => match cXL cf ks a.toList, cXL cf ks c.toList with
    | some a, some c => some (.mf f a c)
    | _, _ => none
  | .makeSlice t l c => match cX cf ks l, cX cf ks c, P.underlying t with
    | some l, some c, some td => match td with
      | .slice elem => match P.info? elem with
        | some i => match cZe P elem with
          | some (size, z) => some (.ms elem size i.bytes z.cells l c)
          | none => none
        | none => none
      | _ => none
    | _, _, _ => none
  | .slice t x lo hi mx => match cX cf ks x, cXO cf ks lo, cXO cf ks hi, cXO cf ks mx with
    | some x, some lo, some hi, some mx => match P.underlying t with
      | some td => match td with
        | .string => match mx with
          | none => some (.ss lo hi x)
          | some _ => none
        | .slice e => bif mx.isSome && hi.isNone then none else match cSz P e with
          | some s => some (.sl s lo hi mx x)
          | none => none
        | .array n e => bif mx.isSome && hi.isNone then none else match cSz P e with
          | some s => some (.sa n s lo hi mx x)
          | none => none
        | _ => none
      | none => none
    | _, _, _, _ => none
  | .fieldAddr t x i => match cX cf ks x, P.underlying t with
    | some x, some td => match td with
      | .struct fs => match fs[i]? with
        | some f => match cSz P f.type with
          | some s => (match Nat.beq s 0 with | true => none | false => some (.fa f.offset x))
          | none => none
        | none => none
      | _ => none
    | _, _ => none
  | .field t x i => match cX cf ks x, P.underlying t with
    | some x, some td => match td with
      | .struct fs => match fs[i]? with
        | some f => match P.underlying f.type, cSz P f.type with
          | some fd, some s => some (.fd (isAg fd) f.offset s x)
          | _, _ => none
        | none => none
      | _ => none
    | _, _ => none
  | .indexAddr t x i => match cX cf ks x, cX cf ks i, P.underlying t with
    | some x, some i, some td => match td with
      | .slice e => match cSz P e with | some s => some (.is s x i) | none => none
      | .array n e => match cSz P e with | some s => some (.ia n s x i) | none => none
      | _ => none
    | _, _, _ => none
  | .index t x i => match cX cf ks x, cX cf ks i, P.underlying t with
    | some x, some i, some td => match td with
      | .string => some (.xs x i)
      | .array n e => match P.underlying e, cSz P e with
        | some ed, some s => some (.xa (isAg ed) n s x i)
        | _, _ => none
      | _ => none
    | _, _, _ => none
  | .extract x i => match cX cf ks x with | some x => some (.ex i x) | none => none
  | .call c => match c.callee with
    | .builtin b => match cXL cf ks c.args.toList with | some l => cBu P b c.argTypes l | none => none
    | .value (.func f) => match cXL cf ks c.args.toList with
      | some l => match cf.pr.lookup f with
        | some n => some (.pr n l)
        | none => some (.cl f l)
      | none => none
    | .value x => match cX cf ks x, cXL cf ks c.args.toList with
      | some f, some l => some (.cv f l)
      | _, _ => none
    | .invoke _ _ => some .bad
  | _ => some .bad

def pshK (d : Option Nat) (ks : List Nat) : List Nat := match d with
  | some d => d :: ks
  | none => ks

/-- Operations in the order of the text. -/
def cOps (P : Program) (cf : Cf) (ops : Array Oper) : List Oper → List Nat → Option (List FI × List Nat)
  | [], ks => some ([], ks)
  | o :: os, ks => match cOp P cf ks o.op, cOps P cf ops os (pshK o.dst ks) with
    | some x, some (l, ks') => match o.guard with
      | none => some (.o 0 o.dst.isSome x :: l, ks')
      | some (j, want) => match (ops[j]?).bind (·.dst) with
        | some d => match ixOf ks d with
          | some g => some (.g 0 o.dst.isSome g want x :: l, ks')
          | none => none
        | none => none
    | _, _ => none

def cChk (P : Program) (cf : Cf) (ops : Array Oper) (ks : List Nat) : List Nat → Option (List FI)
  | [] => some []
  | i :: ls => match ops[i]?, cChk P cf ops ks ls with
    | some o, some l => match o.dst with
      | none => none
      | some d => match ixOf ks d, cOp P cf ks o.op with
        | some v, some x => match o.guard with
          | none => some (.q i v x :: l)
          | some (j, want) => match (ops[j]?).bind (·.dst) with
            | none => none
            | some dg => match ixOf ks dg with
              | some g => some (.h i v g want x :: l)
              | none => none
        | _, _ => none
    | _, _ => none

/-- Operations in the order of a plan. -/
def cPl (P : Program) (cf : Cf) (ops : Array Oper) : List (Nat × List Nat) → List Nat → Option (List FI × List Nat)
  | [], ks => some ([], ks)
  | (i, ls) :: os, ks => match ops[i]? with
    | none => none
    | some o => match cOp P cf ks o.op, cChk P cf ops (pshK o.dst ks) ls, cPl P cf ops os (pshK o.dst ks) with
      | some x, some q, some (l, ks') => match o.guard with
        | none => some (.o i o.dst.isSome x :: (q ++ l), ks')
        | some (j, want) => match (ops[j]?).bind (·.dst) with
          | none => none
          | some d => match ixOf ks d with
            | some g => some (.g i o.dst.isSome g want x :: (q ++ l), ks')
            | none => none
      | _, _, _ => none

def cRes (P : Program) (ks : List Nat) : List ResultVar → Option (List FR)
  | [] => some []
  | .tmp t :: r => match ixOf ks t, cRes P ks r with
    | some i, some l => some (.t i :: l)
    | _, _ => none
  | .cell a t :: r => match ixOf ks a, cRes P ks r, P.underlying t with
    | some i, some l, some d => match isAg d with
      | true => match cSz P t with
        | some s => some (.a s i :: l)
        | none => none
      | false => some (.d i :: l)
    | _, _, _ => none

/-- A block's place among those that are open, and what is wanted behind it. -/
def blkIx : List (Nat × List Nat) → Nat → Option (Nat × List Nat)
  | [], _ => none
  | (j, l) :: r, i => bif Nat.beq j i then some (0, l) else match blkIx r i with
    | some (d, l) => some (d + 1, l)
    | none => none

def eqNs : List Nat → List Nat → Bool
  | [], [] => true
  | a :: as, b :: bs => Nat.beq a b && eqNs as bs
  | _, _ => false

/-- Behind code that falls through: what is wanted, picked. -/
def thenSe (x : FC × Option (List Nat)) (live : List Nat) : Option FC := match x with
  | (a, none) => some a
  | (a, some ks) => match ixL ks live with
    | some s => some (.sq a (.se s))
    | none => none

def joinK (a b : Option (List Nat)) : Option (Option (List Nat)) := match a, b with
  | none, k => some k
  | k, none => some k
  | some a, some b => bif eqNs a b then some (some a) else none

def cC (P : Program) (cf : Cf) (rs : List ResultVar) : Code → HT → List Nat → List (Nat × List Nat) → Option (FC × Option (List Nat))
  | .skip, _, ks, _ => some (.sk, some ks)
  | .ret, _, ks, _ => match cRes P ks rs with
    | some l => some (.rt l, none)
    | none => none
  | .exit id, _, ks, bl => match blkIx bl id with
    | some (d, live) => match ixL ks live with
      | some s => some (.xt d s, none)
      | none => none
    | none => none
  | .region _ ops draw, .r keep plan, ks, _ => match (match draw with | false => cOps P cf ops ops.toList ks | true => cPl P cf ops plan ks) with
    | some (l, ks') => match ixL ks' keep with
      | some s => some (.rg l s, some keep)
      | none => none
    | none => none
  | .seq a b, .s ha hb, ks, bl => match cC P cf rs a ha ks bl with
    | some (fa, none) => some (fa, none)
    | some (fa, some ka) => match cC P cf rs b hb ka bl with
      | some (fb, kb) => some (.sq fa fb, kb)
      | none => none
    | none => none
  | .cond c a b, .d ha hb, ks, bl => match cX cf ks c, cC P cf rs a ha ks bl, cC P cf rs b hb ks bl with
    | some x, some (fa, ka), some (fb, kb) => match joinK ka kb with
      | some k => some (.cd x fa fb, k)
      | none => none
    | _, _, _ => none
  | .cond c a b, .c live ha hb, ks, bl => match cX cf ks c, cC P cf rs a ha ks bl, cC P cf rs b hb ks bl with
    | some x, some ra, some rb => match thenSe ra live, thenSe rb live with
      | some fa, some fb => some (.cj x live fa fb, some live)
      | _, _ => none
    | _, _, _ => none
  | .block id c, .b live h, ks, bl => match cC P cf rs c h ks ((id, live) :: bl) with
    | some r => match thenSe r live with
      | some f => some (.bl live f, some live)
      | none => none
    | none => none
  | .loop c, .o live h, ks, bl => match ixL ks live, cC P cf rs c h live bl with
    | some s, some r => match thenSe r live with
      | some f => some (.lp live s f, none)
      | none => none
    | _, _ => none
  | _, _, _, _ => none

def upTo : Nat → Nat → List Nat
  | 0, _ => []
  | n + 1, i => i :: upTo n (i + 1)

/-- A function's code, made ready: for so many arguments. -/
def cFn (P : Program) (cf : Cf) (fn : Func) (n : Nat) (ht : HT) : Option FC := match fn.body with
  | none => none
  | some c => match cC P cf fn.results.toList c ht (upTo n 0) [] with
    | none => none
    | some (f, none) => some f
    | some (f, some ks) => match cRes P ks fn.results.toList with
      | some l => some (.sq f (.rt l))
      | none => none

/-! ### The hints that ready code bears -/
def pick : List Nat → List Nat → List Nat
  | _, [] => []
  | ks, i :: r => (match nth ks i with | some t => t | none => 0) :: pick ks r

end Go.Proofs.YtlpfhodieopmhaaGreatDoor.Ae

namespace Go.Proofs.YtlpfhodieopmhaaGreatDoor.Ae

section
variable {P : Program} {cf : Cf} {cl : Caller} {ks : List Nat} {vs : List AV} {H : AH} {u : Nat}

theorem nthK_eq : ∀ (l : List AV) (i : Nat) (k : AV → RO), nthK l i k = match nth l i with | some v => k v | none => none
  | [], _, _ => rfl
  | _ :: _, 0, _ => rfl
  | _ :: l, i + 1, k => nthK_eq l i k

theorem nthK_none (l : List AV) (i : Nat) : nthK l i (fun _ => none) = none := by
  rw [nthK_eq]; split <;> rfl

theorem evF_none (x : FX) (l : List AV) : evF x l (fun _ => none) = none := by
  cases x with
  | t i => exact nthK_none l i
  | c a => rfl

theorem lk_zip : ∀ (ks : List Nat) (vs : List AV) (t : Nat), vs.length = ks.length → lk (ks.zip vs) t = match ixOf ks t with | some i => nth vs i | none => none
  | [], [], _, _ => rfl
  | a :: ks, v :: vs, t, h => by
    simp only [List.zip_cons_cons, lk, ixOf]
    cases Nat.beq a t with
    | true => rfl
    | false =>
      simp only [cond_false]
      rw [lk_zip ks vs t (by simpa using h)]
      cases ixOf ks t <;> rfl

theorem ev_cX (hl : vs.length = ks.length) (x : Operand) (k : AV → RO) : ev cf (ks.zip vs) x k = match cX cf ks x with | some f => evF f vs k | none => none := by
  cases x with
  | tmp t =>
    simp only [ev, cX, lk_zip ks vs t hl]
    cases ixOf ks t with
    | none => rfl
    | some i => exact (nthK_eq vs i k).symm
  | const v => simp only [ev, cX]; cases absV v <;> rfl
  | global g => simp only [ev, cX]; cases Nat.blt g cf.ng <;> rfl
  | func f => rfl

theorem evL_cX (hl : vs.length = ks.length) : ∀ (xs : List Operand) (k : List AV → RO), evL cf (ks.zip vs) xs k = match cXL cf ks xs with | some l => evFL l vs k | none => none
  | [], _ => rfl
  | x :: xs, k => by
    simp only [evL, cXL, ev_cX hl]
    cases cX cf ks x with
    | none => rfl
    | some f =>
      simp only [evL_cX hl xs]
      cases cXL cf ks xs with
      | none => exact evF_none f vs
      | some l => rfl

theorem evO_cX (hl : vs.length = ks.length) (x : Option Operand) (k : Option AV → RO) : evO cf (ks.zip vs) x k = match cXO cf ks x with | some l => evFO l vs k | none => none := by
  cases x with
  | none => rfl
  | some x =>
    simp only [evO, cXO, ev_cX hl]
    cases cX cf ks x <;> rfl

theorem evP_cX (hl : vs.length = ks.length) : ∀ (xs : List (Nat × Operand)) (k : List (Nat × AV) → RO), evP cf (ks.zip vs) xs k = match cX2 cf ks xs with | some l => evF2 l vs k | none => none
  | [], _ => rfl
  | (i, x) :: xs, k => by
    simp only [evP, cX2, ev_cX hl]
    cases cX cf ks x with
    | none => rfl
    | some f =>
      simp only [evP_cX hl xs]
      cases cX2 cf ks xs with
      | none => exact evF_none f vs
      | some l => rfl

theorem szS_c (t : TypeId) (k : Nat → RO) : szS P t k = match cSz P t with | some s => k s | none => none := by
  unfold szS cSz; cases P.info? t <;> rfl

theorem agS_c (t : TypeId) (k : Bool → RO) : agS P t k = match P.underlying t with | some d => k (isAg d) | none => none := rfl

theorem unS_c (t : TypeId) (k : TypeDesc → RO) : unS P t k = match P.underlying t with | some d => k d | none => none := rfl

theorem zeS_c (t : TypeId) (k : Nat → AV → RO) : zeS P t k = match cZe P t with | some (s, a) => k s a | none => none := by
  unfold zeS cZe
  cases P.info? t with
  | none => rfl
  | some i =>
    simp only
    cases i.zero with
    | none => rfl
    | some z =>
      simp only
      cases absV z with
      | none => rfl
      | some a => simp only; cases Nat.beq a.width i.size <;> rfl

/-- The parts of a struct: places told ahead. -/
theorem evF2_pl (pl : List (Nat × Nat)) : ∀ (ps : List (Nat × FX)) (k : List (Nat × Nat × AV) → RO) (l : List (Nat × Nat × FX)), cPS pl ps = some l →
    (evF2 ps vs fun q => match placesS pl q with | some l => k l | none => none) = evF3 l vs k
  | [], k, l, h => by cases h; rfl
  | (i, x) :: r, k, l, h => by
    simp only [cPS] at h
    cases hn : nth pl i with
    | none => rw [hn] at h; cases h
    | some p =>
      obtain ⟨off, size⟩ := p
      rw [hn] at h
      simp only at h
      cases hr : cPS pl r with
      | none => rw [hr] at h; cases h
      | some l' =>
        rw [hr] at h
        cases h
        simp only [evF2, evF3]
        congr 1
        funext v
        rw [← evF2_pl pl r (fun vs => k ((off, size, v) :: vs)) l' hr]
        congr 1
        funext q
        simp only [placesS, hn]
        cases placesS pl q <;> rfl

theorem evF2_pa (s : Nat) : ∀ (ps : List (Nat × FX)) (k : List (Nat × Nat × AV) → RO), (evF2 ps vs fun q => k (placesA s q)) = evF3 (cPA s ps) vs k
  | [], _ => rfl
  | (i, x) :: r, k => by
    simp only [evF2, cPA, evF3]
    congr 1
    funext v
    exact evF2_pa s r fun vs => k ((Nat.mul i s, s, v) :: vs)

theorem evFL_cons (x : FX) (xs : List FX) (k : List AV → RO) : evFL (x :: xs) vs k = evF x vs fun v => evFL xs vs fun vs => k (v :: vs) := rfl

theorem evFL_nil (k : List AV → RO) : evFL [] vs k = k [] := rfl

theorem cBu_ok {b : Builtin} {ats : Array TypeId} {args : List FX} {fo : FO} {k : KV} (h : cBu P b ats args = some fo) : runO fo P u cl vs H k = evFL args vs fun l => opB P b ats l H k := by
  cases b <;> simp only [cBu] at h <;> (repeat' split at h) <;> (try (cases h; done)) <;>
    cases h <;>
    simp only [evFL_cons, evFL_nil, opB, unS_c, szS_c, zeS_c, cond_true, cond_false, *] <;> rfl

theorem cCv_ok {src dst : TypeId} {x : FX} {fo : FO} {k : KV} (h : cCv P src dst x = some fo) : runO fo P u cl vs H k = evF x vs fun x => unS P src fun s => unS P dst fun d => match d with
    | .int i => cvI i x fun v => k v H
    | .string => match s with
      | .string => cvSame x fun v => k v H
      | .slice e => unS P e fun ed => match ed with
        | .int .u8 => cvS x H fun v => k v H
        | _ => none
      | _ => none
    | .slice e => match s with
      | .string => unS P e fun ed => match ed with
        | .int .u8 => cvB e x H k
        | _ => none
      | _ => none
    | .unsafePointer => match s with
      | .pointer e => szS P e fun size => bif Nat.beq size 0 then none else cvPU x H fun v => k v H
      | _ => none
    | .pointer e => match s with
      | .unsafePointer => szS P e fun size => bif Nat.beq size 0 then none else cvUP e size x H fun v => k v H
      | _ => none
    | _ => none := by
  simp only [cCv] at h
  repeat' split at h
  all_goals try (cases h; done)
  all_goals cases h
  all_goals simp only [unS_c, szS_c, cond_false, *]
  all_goals rfl

theorem cOp_ok {op : Op} {fo : FO} {k : KV} (hl : vs.length = ks.length) (h : cOp P cf ks op = some fo) : runO fo P cf.u8 cl vs H k = opc P cf cl op (ks.zip vs) H k := by
  cases op with
  | move x | assign x | nilCheck x | unOp _ _ x | extract x _ =>
    simp only [cOp] at h
    repeat' split at h
    all_goals try (cases h; done)
    all_goals cases h
    all_goals simp only [opc, ev_cX hl, *]
    all_goals rfl
  | pick c a b | store _ a b =>
    simp only [cOp] at h
    repeat' split at h
    all_goals try (cases h; done)
    all_goals cases h
    all_goals simp only [opc, ev_cX hl, szS_c, *]
    all_goals rfl
  | alloc t | box t x =>
    simp only [cOp] at h
    repeat' split at h
    all_goals try (cases h; done)
    all_goals cases h
    all_goals simp only [opc, ev_cX hl, szS_c, zeS_c, *]
    all_goals rfl
  | load t x =>
    simp only [cOp] at h
    repeat' split at h
    all_goals try (cases h; done)
    all_goals cases h
    all_goals simp only [opc, ev_cX hl, szS_c, agS_c, *]
    all_goals rfl
  | build t parts =>
    simp only [cOp] at h
    repeat' split at h
    all_goals try (cases h; done)
    all_goals cases h
    all_goals simp only [opc, evP_cX hl, szS_c, zeS_c, unS_c, *]
    · rename_i l hl'
      exact (evF2_pl _ _ _ _ (by assumption)).symm
    · exact (evF2_pa _ _ _).symm
  | buildSlice t len parts =>
    simp only [cOp] at h
    repeat' split at h
    all_goals try (cases h; done)
    all_goals cases h
    all_goals simp only [opc, evP_cX hl, szS_c, zeS_c, unS_c, *]
    all_goals rfl
  | binOp op t x y yt =>
    simp only [cOp] at h
    split at h
    · cases op <;> simp only at h <;> cases h <;> simp only [opc, ev_cX hl, *] <;> rfl
    · cases h
  | convert src dst x =>
    simp only [cOp] at h
    split at h
    · rw [cCv_ok h]
      simp only [opc, ev_cX hl, *]
      rfl
    · cases h
  | makeInterface t x =>
    simp only [cOp] at h
    repeat' split at h
    all_goals try (cases h; done)
    all_goals cases h
    all_goals simp only [opc, ev_cX hl, unS_c, *]
    all_goals rfl
  | makeFunc f a c =>
    cases f <;> simp only [cOp] at h <;> try (cases h; rfl)
    repeat' split at h
    all_goals try (cases h; done)
    all_goals cases h
    all_goals simp only [opc, evL_cX hl, *]
    all_goals rfl
  | makeSlice t l c =>
    simp only [cOp] at h
    repeat' split at h
    all_goals try (cases h; done)
    all_goals cases h
    all_goals simp only [opc, ev_cX hl, unS_c, zeS_c, *]
    all_goals rfl
  | slice t x lo hi mx =>
    have hs : ∀ {a b : Option Operand} {a' b' : Option FX}, cXO cf ks a = some a' → cXO cf ks b = some b' → (a'.isSome && b'.isNone) = (a.isSome && b.isNone) := by
      intro a b a' b' ha hb
      cases a <;> cases b <;> simp only [cXO] at ha hb <;> (repeat' split at ha) <;> (repeat' split at hb) <;> (try (cases ha; done)) <;> (try (cases hb; done)) <;> cases ha <;> cases hb <;> rfl
    simp only [cOp] at h
    split at h
    · rename_i x' lo' hi' mx' hx hlo hhi hmx
      have e := hs hmx hhi
      split at h
      · split at h
        · split at h
          · cases h
            have : mx = none := by
              cases mx with
              | none => rfl
              | some m => simp only [cXO] at hmx; split at hmx <;> cases hmx
            subst this
            simp only [opc, ev_cX hl, evO_cX hl, unS_c, *]
            rfl
          · cases h
        · cases hb : (mx'.isSome && hi'.isNone) <;> simp only [hb, cond_true, cond_false] at h
          · split at h
            · cases h
              rw [hb] at e
              simp only [opc, ev_cX hl, evO_cX hl, unS_c, szS_c, ← e, cond_false, *]
              cases mx' <;> cases hi' <;> first | rfl | (cases hb; done)
            · cases h
          · cases h
        · cases hb : (mx'.isSome && hi'.isNone) <;> simp only [hb, cond_true, cond_false] at h
          · split at h
            · cases h
              rw [hb] at e
              simp only [opc, ev_cX hl, evO_cX hl, unS_c, szS_c, ← e, cond_false, *]
              cases mx' <;> cases hi' <;> first | rfl | (cases hb; done)
            · cases h
          · cases h
        · cases h
      · cases h
    · cases h
  | fieldAddr t x i =>
    simp only [cOp] at h
    repeat' split at h
    all_goals try (cases h; done)
    all_goals cases h
    all_goals simp only [opc, ev_cX hl, unS_c, szS_c, cond_false, *]
    all_goals rfl
  | field t x i =>
    simp only [cOp] at h
    repeat' split at h
    all_goals try (cases h; done)
    all_goals cases h
    all_goals simp only [opc, ev_cX hl, unS_c, szS_c, agS_c, *]
    all_goals rfl
  | indexAddr t x i | index t x i =>
    simp only [cOp] at h
    repeat' split at h
    all_goals try (cases h; done)
    all_goals cases h
    all_goals simp only [opc, ev_cX hl, unS_c, szS_c, agS_c, *]
    all_goals rfl
  | call c =>
    obtain ⟨callee, args, argTypes⟩ := c
    cases callee with
    | builtin b =>
      simp only [cOp] at h
      split at h
      · rw [cBu_ok h]
        simp only [opc, evL_cX hl, *]
      · cases h
    | invoke _ _ => simp only [cOp] at h; cases h; rfl
    | value f =>
      cases f with
      | func f =>
        simp only [cOp] at h
        repeat' split at h
        all_goals try (cases h; done)
        all_goals cases h
        all_goals simp only [opc, evL_cX hl, *]
        all_goals rfl
      | _ =>
        simp only [cOp] at h
        repeat' split at h
        all_goals try (cases h; done)
        all_goals cases h
        all_goals simp only [opc, ev_cX hl, evL_cX hl, *]
        all_goals rfl
  | _ => simp only [cOp] at h; cases h; rfl

/-! ### Regions -/
theorem runR_append : ∀ (a b : List FI) (vs : List AV) (H : AH) (k : KL), runR (a ++ b) P u cl vs H k = runR a P u cl vs H fun l H => runR b P u cl l H k
  | [], _, _, _, _ => rfl
  | i :: a, b, vs, H, k => by
    show runI i P u cl vs H _ = runI i P u cl vs H _
    congr 1
    funext l H
    exact runR_append a b l H k

theorem gdK_eq (v : AV) (want : Bool) (x y : RO) : gdK v want x y = gdP v want x y := by
  unfold gdK gdP; rfl

theorem zip_psh (d : Option Nat) (v : AV) : psh d v (ks.zip vs) = (pshK d ks).zip (psV d.isSome v vs) := by
  cases d <;> rfl

theorem len_psh (hl : vs.length = ks.length) (d : Option Nat) (v : AV) : (psV d.isSome v vs).length = (pshK d ks).length := by
  cases d <;> simp [psV, pshK, hl]

theorem lk_ix (hl : vs.length = ks.length) {t i : Nat} (h : ixOf ks t = some i) (k : AV → RO) : nthK vs i k = match lk (ks.zip vs) t with | some v => k v | none => none := by
  rw [nthK_eq, lk_zip ks vs t hl, h]

theorem cOps_ok {ops : Array Oper} : ∀ (os : List Oper) (ks : List Nat) (vs : List AV) (H : AH) (is : List FI) (ks' : List Nat) (k : KL) (K : KC), cOps P cf ops os ks = some (is, ks') → vs.length = ks.length →
    (∀ l H, l.length = ks'.length → k l H = K (ks'.zip l) H) → runR is P cf.u8 cl vs H k = rgo P cf cl ops os (ks.zip vs) H K
  | [], ks, vs, H, is, ks', k, K, h, hl, hk => by
    cases h
    exact hk vs H hl
  | o :: os, ks, vs, H, is, ks', k, K, h, hl, hk => by
    simp only [cOps] at h
    split at h
    · rename_i x l ks'' hx hr
      have ih : ∀ v H, runR l P cf.u8 cl (psV o.dst.isSome v vs) H k = rgo P cf cl ops os (psh o.dst v (ks.zip vs)) H K := fun v H => by
        rw [zip_psh]
        refine cOps_ok os (pshK o.dst ks) _ H l ks' k K ?_ (len_psh hl _ _) hk
        split at h
        · cases h; exact hr
        · split at h
          · split at h
            · cases h; exact hr
            · cases h
          · cases h
      split at h
      · rename_i hg
        cases h
        show runO x P cf.u8 cl vs H _ = _
        simp only [rgo, hg]
        rw [cOp_ok hl hx]
        congr 1
        funext v H
        exact ih v H
      · rename_i j want hg
        split at h
        · rename_i d hd
          split at h
          · rename_i g hgi
            cases h
            show nthK vs g _ = _
            simp only [rgo, hg, hd]
            rw [lk_ix hl hgi]
            cases lk (ks.zip vs) d with
            | none => rfl
            | some gv =>
              simp only [gdK_eq, jn]
              rw [cOp_ok hl hx]
              congr 1
              · congr 1
                funext v H
                exact ih v H
              · exact ih _ H
          · cases h
        · cases h
    · cases h

theorem cChk_ok {ops : Array Oper} (hl : vs.length = ks.length) : ∀ (ls : List Nat) (is : List FI) (k : KL), cChk P cf ops ks ls = some is →
    runR is P cf.u8 cl vs H k = chkLs P cf cl ops ls (ks.zip vs) H (k vs H)
  | [], is, k, h => by cases h; rfl
  | i :: ls, is, k, h => by
    simp only [cChk] at h
    split at h
    · rename_i o l ho hr
      have ih := cChk_ok hl ls l k hr
      split at h
      · cases h
      · rename_i d hd
        split at h
        · rename_i v x hv hx
          split at h
          · rename_i hg
            cases h
            show nthK vs v _ = _
            simp only [chkLs, ho, hd, hg]
            rw [lk_ix hl hv]
            cases lk (ks.zip vs) d with
            | none => rfl
            | some dv =>
              simp only
              rw [cOp_ok hl hx]
              congr 1
              funext v' H'
              show chK dv v' (runR l P cf.u8 cl vs H k) = _
              rw [ih]
              rfl
          · rename_i j want hg
            split at h
            · cases h
            · rename_i dg hdg
              split at h
              · rename_i g hgi
                cases h
                show nthK vs v _ = _
                simp only [chkLs, ho, hd, hg, hdg]
                rw [lk_ix hl hv]
                cases lk (ks.zip vs) d with
                | none => rfl
                | some dv =>
                  simp only
                  rw [lk_ix hl hgi]
                  cases lk (ks.zip vs) dg with
                  | none => rfl
                  | some gv =>
                    simp only [gdK_eq, jn]
                    rw [cOp_ok hl hx]
                    show gdP gv want (opc P cf cl o.op (ks.zip vs) H fun v' _ => chK dv v' (runR l P cf.u8 cl vs H k)) (runR l P cf.u8 cl vs H k) = _
                    rw [ih]
                    rfl
              · cases h
        · cases h
    · cases h

theorem cPl_ok {ops : Array Oper} : ∀ (os : List (Nat × List Nat)) (ks : List Nat) (vs : List AV) (H : AH) (is : List FI) (ks' : List Nat) (k : KL) (K : KC), cPl P cf ops os ks = some (is, ks') → vs.length = ks.length →
    (∀ l H, l.length = ks'.length → k l H = K (ks'.zip l) H) → runR is P cf.u8 cl vs H k = rgd P cf cl ops os (ks.zip vs) H K
  | [], ks, vs, H, is, ks', k, K, h, hl, hk => by
    cases h
    exact hk vs H hl
  | (i, ls) :: os, ks, vs, H, is, ks', k, K, h, hl, hk => by
    simp only [cPl] at h
    split at h
    · cases h
    · rename_i o ho
      split at h
      · rename_i x q l ks'' hx hq hr
        have ih : ks'' = ks' → ∀ v H, runR (q ++ l) P cf.u8 cl (psV o.dst.isSome v vs) H k = jn (psh o.dst v (ks.zip vs)) fun env => chkLs P cf cl ops ls env H (rgd P cf cl ops os env H K) := fun e v H => by
          subst e
          rw [zip_psh, runR_append]
          show _ = chkLs P cf cl ops ls ((pshK o.dst ks).zip (psV o.dst.isSome v vs)) H (rgd P cf cl ops os ((pshK o.dst ks).zip (psV o.dst.isSome v vs)) H K)
          rw [cChk_ok (len_psh hl _ _) ls q _ hq]
          congr 1
          exact cPl_ok os (pshK o.dst ks) _ H l ks'' k K hr (len_psh hl _ _) hk
        split at h
        · rename_i hg
          cases h
          show runO x P cf.u8 cl vs H _ = _
          simp only [rgd, ho, hg]
          rw [cOp_ok hl hx]
          congr 1
          funext v H
          exact ih rfl v H
        · rename_i j want hg
          split at h
          · cases h
          · rename_i d hd
            split at h
            · rename_i g hgi
              cases h
              show nthK vs g _ = _
              simp only [rgd, ho, hg, hd]
              rw [lk_ix hl hgi]
              cases lk (ks.zip vs) d with
              | none => rfl
              | some gv =>
                simp only [gdK_eq, jn]
                rw [cOp_ok hl hx]
                congr 1
                · congr 1
                  funext v H
                  exact ih rfl v H
                · exact ih rfl _ H
            · cases h
      · cases h

end
end Go.Proofs.YtlpfhodieopmhaaGreatDoor.Ae

namespace Go.Proofs.YtlpfhodieopmhaaGreatDoor.Ae
open Go.RowKit

section
variable {P : Program} {cf : Cf} {cl : Caller} {ks : List Nat} {vs : List AV} {H : AH} {fuel : Nat}

theorem selE_congr {env : Env} : ∀ {live : List Nat} {k1 k2 : List AV → RO}, (∀ ws, ws.length = live.length → k1 ws = k2 ws) → selE env live k1 = selE env live k2
  | [], k1, k2, h => h [] rfl
  | t :: ts, k1, k2, h => by
    simp only [selE]
    cases lk env t with
    | none => rfl
    | some v => exact selE_congr fun ws hw => h (v :: ws) (by simp [hw])

theorem selV_ok (hl : vs.length = ks.length) : ∀ {live s : List Nat} {k : List AV → RO}, ixL ks live = some s → selV s vs k = selE (ks.zip vs) live k
  | [], s, k, h => by cases h; rfl
  | t :: ts, s, k, h => by
    simp only [ixL] at h
    split at h
    · rename_i i hi
      split at h
      · rename_i l hs
        cases h
        show nthK vs i _ = _
        rw [lk_ix hl hi]
        simp only [selE]
        cases lk (ks.zip vs) t with
        | none => rfl
        | some v => exact selV_ok hl hs
      · cases h
    · cases h

theorem unz_zip : ∀ {ks : List Nat} {vs : List AV} {k : Env → RO}, vs.length = ks.length → unz ks vs k = k (ks.zip vs)
  | [], [], _, _ => rfl
  | t :: ks, v :: vs, k, h => by
    simp only [unz, List.zip_cons_cons]
    exact unz_zip (by simpa using h)

theorem kpE_sel {env : Env} : ∀ {ts : List Nat} {k : Env → RO}, kpE env ts k = selE env ts fun vs => k (ts.zip vs)
  | [], _ => rfl
  | t :: ts, k => by
    simp only [kpE, selE]
    cases lk env t with
    | none => rfl
    | some v => simp only [kpE_sel (ts := ts), List.zip_cons_cons]

theorem resF_ok (hl : vs.length = ks.length) : ∀ {rs : List ResultVar} {l : List FR} {k : List AV → RO}, cRes P ks rs = some l → resF l vs H k = resL P (ks.zip vs) H rs k
  | [], l, k, h => by cases h; rfl
  | .tmp t :: r, l, k, h => by
    simp only [cRes] at h
    split at h
    · rename_i i l' hi hr
      cases h
      simp only [resF, resL]
      rw [lk_ix hl hi]
      cases lk (ks.zip vs) t with
      | none => rfl
      | some v => exact resF_ok hl hr
    · cases h
  | .cell a t :: r, l, k, h => by
    simp only [cRes] at h
    split at h
    · rename_i i l' d hi hr hd
      simp only [resL, agS_c, szS_c, hd]
      split at h
      · rename_i ha
        split at h
        · rename_i s hs
          cases h
          simp only [resF, ha, hs]
          rw [lk_ix hl hi]
          cases lk (ks.zip vs) a with
          | none => rfl
          | some p =>
            simp only
            congr 1
            funext v
            exact resF_ok hl hr
        · cases h
      · rename_i ha
        cases h
        simp only [resF, ha]
        rw [lk_ix hl hi]
        cases lk (ks.zip vs) a with
        | none => rfl
        | some p =>
          simp only
          congr 1
          funext v
          exact resF_ok hl hr
    · cases h

theorem retF_ok {rs : Array ResultVar} {l : List FR} (hl : vs.length = ks.length) (h : cRes P ks rs.toList = some l) : retF l vs H = resP P rs (ks.zip vs) H := by
  unfold retF resP
  rw [resF_ok hl h]
  rfl

def KxOK (bl : List (Nat × List Nat)) (Kx : List (Nat × KC)) (Kx' : List KL) : Prop :=
  ∀ id d live, blkIx bl id = some (d, live) → ∃ K, lkx Kx id = some K ∧ ∀ env H, K env H = selE env live fun vs => lkK Kx' d vs H

theorem KxOK.push {bl : List (Nat × List Nat)} {Kx : List (Nat × KC)} {Kx' : List KL} (h : KxOK bl Kx Kx') {id : Nat} {live : List Nat} {J : List AV → AH → RO} {Kn' : KL} (hJ : ∀ ws H, ws.length = live.length → Kn' ws H = J ws H) :
    KxOK ((id, live) :: bl) ((id, fun env H => selE env live fun vs => J vs H) :: Kx) (Kn' :: Kx') := by
  intro i d lv hb
  simp only [blkIx] at hb
  simp only [lkx]
  cases he : Nat.beq id i with
  | true =>
    rw [he] at hb
    simp only [cond_true] at hb
    cases hb
    refine ⟨_, rfl, fun env H => selE_congr fun ws hw => ?_⟩
    show J ws H = Kn' ws H
    exact (hJ ws H hw).symm
  | false =>
    rw [he] at hb
    simp only [cond_false] at hb
    split at hb
    · rename_i d' l' hb'
      cases hb
      exact h i d' lv hb'
    · cases hb

/-- What code made ready does is what the code does. -/
def CodeIs (P : Program) (cf : Cf) (cl : Caller) (fuel : Nat) (rs : Array ResultVar) (c : Code) (ht : HT) (ks : List Nat) (bl : List (Nat × List Nat)) (fc : FC) (ko : Option (List Nat)) : Prop :=
  ∀ (vs : List AV) (H : AH) (Kx : List (Nat × KC)) (Kx' : List KL) (Kn : KC) (Kn' : KL), vs.length = ks.length → KxOK bl Kx Kx' →
    (∀ k', ko = some k' → ∀ l H, l.length = k'.length → Kn' l H = Kn (k'.zip l) H) →
    runC fc P cf.u8 cl fuel vs Kx' Kn' H = cc P cf cl fuel c ht (ks.zip vs) (fun env H => resP P rs env H) Kx Kn H

theorem thenSe_ok {rs : Array ResultVar} {c : Code} {ht : HT} {bl : List (Nat × List Nat)} {fa f : FC} {ka : Option (List Nat)} {live : List Nat} (ih : CodeIs P cf cl fuel rs c ht ks bl fa ka) (h : thenSe (fa, ka) live = some f)
    {Kx : List (Nat × KC)} {Kx' : List KL} {J : List AV → AH → RO} {Kn' : KL} (hl : vs.length = ks.length) (hx : KxOK bl Kx Kx') (hJ : ∀ ws H, ws.length = live.length → Kn' ws H = J ws H) :
    runC f P cf.u8 cl fuel vs Kx' Kn' H = cc P cf cl fuel c ht (ks.zip vs) (fun env H => resP P rs env H) Kx (fun env H => selE env live fun vs => J vs H) H := by
  cases ka with
  | none =>
    simp only [thenSe] at h
    cases h
    exact ih vs H Kx Kx' _ Kn' hl hx fun k' e => by cases e
  | some ka =>
    simp only [thenSe] at h
    split at h
    · rename_i s hs
      cases h
      refine ih vs H Kx Kx' _ (fun l H => runC (.se s) P cf.u8 cl fuel l Kx' Kn' H) hl hx fun k' e l H hll => ?_
      cases e
      show selV s l _ = _
      rw [selV_ok hll hs]
      exact selE_congr fun ws hw => hJ ws H hw
    · cases h

theorem loop_ok {live : List Nat} {body body' : (List AV → AH → RO) → List AV → AH → RO}
    (h : ∀ r r', (∀ ws H, ws.length = live.length → r' ws H = r ws H) → ∀ ws H, ws.length = live.length → body' r' ws H = body r ws H) : ∀ (n : Nat) (ws : List AV) (H : AH), ws.length = live.length → loopN n body' ws H = loopF body n ws H
  | 0, ws, H, hw => rfl
  | n + 1, ws, H, hw => h _ _ (fun ws H hw => loop_ok h n ws H hw) ws H hw

theorem eqNs_eq : ∀ {a b : List Nat}, eqNs a b = true → a = b
  | [], [], _ => rfl
  | a :: as, b :: bs, h => by
    simp only [eqNs, Bool.and_eq_true] at h
    rw [Nat.eq_of_beq_eq_true h.1, eqNs_eq h.2]

theorem cC_ok {rs : Array ResultVar} : ∀ (c : Code) (ht : HT) (ks : List Nat) (bl : List (Nat × List Nat)) (fc : FC) (ko : Option (List Nat)), cC P cf rs.toList c ht ks bl = some (fc, ko) → CodeIs P cf cl fuel rs c ht ks bl fc ko := by
  intro c
  induction c with
  | skip =>
    intro ht ks bl fc ko h vs H Kx Kx' Kn Kn' hl hx hk
    simp only [cC] at h
    cases h
    simp only [cc]
    exact hk ks rfl vs H hl
  | ret =>
    intro ht ks bl fc ko h vs H Kx Kx' Kn Kn' hl hx hk
    simp only [cC] at h
    split at h
    · rename_i l hr
      cases h
      simp only [cc]
      exact retF_ok hl hr
    · cases h
  | exit id =>
    intro ht ks bl fc ko h vs H Kx Kx' Kn Kn' hl hx hk
    simp only [cC] at h
    split at h
    · rename_i d live hb
      split at h
      · rename_i s hs
        cases h
        obtain ⟨K, h1, h2⟩ := hx id d live hb
        simp only [cc, h1]
        rw [h2]
        show selV s vs _ = _
        rw [selV_ok hl hs]
      · cases h
    · cases h
  | region id ops draw =>
    intro ht ks bl fc ko h vs H Kx Kx' Kn Kn' hl hx hk
    cases ht <;> simp only [cC] at h <;> try (cases h; done)
    rename_i keep plan
    split at h
    · rename_i is ks' hr
      split at h
      · rename_i s hs
        cases h
        have key : ∀ l H, l.length = ks'.length → (fun l H => selV s l fun vs => Kn' vs H) l H = (fun env H => kpE env keep fun env => Kn env H) (ks'.zip l) H := fun l H hll => by
          simp only
          rw [selV_ok hll hs, kpE_sel]
          exact selE_congr fun ws hw => hk keep rfl ws H hw
        cases draw with
        | false =>
          simp only [cc]
          exact cOps_ok ops.toList ks vs H is ks' _ _ hr hl key
        | true =>
          simp only [cc]
          exact cPl_ok plan ks vs H is ks' _ _ hr hl key
      · cases h
    · cases h
  | seq a b iha ihb =>
    intro ht ks bl fc ko h vs H Kx Kx' Kn Kn' hl hx hk
    cases ht <;> simp only [cC] at h <;> try (cases h; done)
    rename_i ha hb
    simp only [cc]
    split at h
    · rename_i fa hfa
      cases h
      exact iha ha ks bl _ _ hfa vs H Kx Kx' _ Kn' hl hx fun k' e => by cases e
    · rename_i fa ka hfa
      split at h
      · rename_i fb kb hfb
        cases h
        show runC fa P cf.u8 cl fuel vs Kx' (fun l H => runC fb P cf.u8 cl fuel l Kx' Kn' H) H = _
        refine iha ha ks bl _ _ hfa vs H Kx Kx' _ _ hl hx fun k' e l H hll => ?_
        cases e
        exact ihb hb ka bl _ _ hfb l H Kx Kx' Kn Kn' hll hx hk
      · cases h
    · cases h
  | cond x a b iha ihb =>
    intro ht ks bl fc ko h vs H Kx Kx' Kn Kn' hl hx hk
    cases ht <;> simp only [cC] at h <;> try (cases h; done)
    · rename_i live ha hb
      split at h
      · rename_i fx ra rb hfx hra hrb
        split at h
        · rename_i fa fb hfa hfb
          cases h
          obtain ⟨ra, ka⟩ := ra
          obtain ⟨rb, kb⟩ := rb
          simp only [cc, ev_cX hl, hfx, jn]
          show evF fx vs _ = _
          congr 1
          funext v
          have hJ : ∀ ws H, ws.length = live.length → Kn' ws H = (fun vs H => unz live vs fun env => Kn env H) ws H := fun ws H hw => by
            simp only
            rw [unz_zip hw]
            exact hk live rfl ws H hw
          have e1 := thenSe_ok (H := H) (iha ha ks bl _ _ hra) hfa hl hx hJ
          have e2 := thenSe_ok (H := H) (ihb hb ks bl _ _ hrb) hfb hl hx hJ
          show iteK v (runC fa P cf.u8 cl fuel vs Kx' Kn' H) (runC fb P cf.u8 cl fuel vs Kx' Kn' H) = _
          rw [e1, e2]
          rfl
        · cases h
      · cases h
    · rename_i ha hb
      split at h
      · rename_i fx fa ka fb kb hfx hfa hfb
        split at h
        · rename_i k hj
          cases h
          simp only [cc, ev_cX hl, hfx]
          show evF fx vs _ = _
          congr 1
          funext v
          have hka : ∀ k', ka = some k' → ko = some k' := fun k' e => by
            subst e
            cases kb with
            | none => cases hj; rfl
            | some kb =>
              simp only [joinK] at hj
              cases he : eqNs k' kb with
              | true => rw [he] at hj; cases hj; rfl
              | false => rw [he] at hj; cases hj
          have hkb : ∀ k', kb = some k' → ko = some k' := fun k' e => by
            subst e
            cases ka with
            | none => cases hj; rfl
            | some ka =>
              simp only [joinK] at hj
              cases he : eqNs ka k' with
              | true => rw [he] at hj; cases hj; rw [eqNs_eq he]
              | false => rw [he] at hj; cases hj
          have e1 := iha ha ks bl _ _ hfa vs H Kx Kx' Kn Kn' hl hx fun k' e => hk k' (hka k' e)
          have e2 := ihb hb ks bl _ _ hfb vs H Kx Kx' Kn Kn' hl hx fun k' e => hk k' (hkb k' e)
          show iteK v (runC fa P cf.u8 cl fuel vs Kx' Kn' H) (runC fb P cf.u8 cl fuel vs Kx' Kn' H) = _
          rw [e1, e2]
          rfl
        · cases h
      · cases h
  | block id c ih =>
    intro ht ks bl fc ko h vs H Kx Kx' Kn Kn' hl hx hk
    cases ht <;> simp only [cC] at h <;> try (cases h; done)
    rename_i live hh
    split at h
    · rename_i r hr
      split at h
      · rename_i f hf
        cases h
        obtain ⟨ra, ka⟩ := r
        simp only [cc, jn]
        have hJ : ∀ ws H, ws.length = live.length → Kn' ws H = (fun vs H => unz live vs fun env => Kn env H) ws H := fun ws H hw => by
          simp only
          rw [unz_zip hw]
          exact hk live rfl ws H hw
        show runC f P cf.u8 cl fuel vs (Kn' :: Kx') Kn' H = _
        exact thenSe_ok (ih hh ks _ _ _ hr) hf hl (hx.push hJ) hJ
      · cases h
    · cases h
  | loop c ih =>
    intro ht ks bl fc ko h vs H Kx Kx' Kn Kn' hl hx hk
    cases ht <;> simp only [cC] at h <;> try (cases h; done)
    rename_i live hh
    split at h
    · rename_i s r hs hr
      split at h
      · rename_i f hf
        cases h
        obtain ⟨ra, ka⟩ := r
        simp only [cc]
        show selV s vs _ = _
        rw [selV_ok hl hs]
        refine selE_congr fun ws hw => ?_
        refine loop_ok (live := live) (fun r r' hrr ws H hw => ?_) fuel ws H hw
        rw [unz_zip hw]
        exact thenSe_ok (ih hh live bl _ _ hr) hf hw hx hrr
      · cases h
    · cases h
  | _ =>
    intro ht ks bl fc ko h
    cases ht <;> simp only [cC] at h <;> cases h

theorem upTo_zip : ∀ (vs : List AV) (i : Nat), (upTo vs.length i).zip vs = argE i vs
  | [], _ => rfl
  | v :: vs, i => by simp only [List.length_cons, upTo, List.zip_cons_cons, argE, upTo_zip vs (i + 1)]

theorem upTo_len : ∀ (n i : Nat), (upTo n i).length = n
  | 0, _ => rfl
  | n + 1, i => by simp [upTo, upTo_len n]

theorem cFn_ok {fn : Func} {c : Code} {ht : HT} {fc : FC} (hb : fn.body = some c) (h : cFn P cf fn vs.length ht = some fc) :
    runC fc P cf.u8 cl fuel vs [] (fun _ _ => none) H = cc P cf cl fuel c ht (argE 0 vs) (fun env H => resP P fn.results env H) [] (fun env H => resP P fn.results env H) H := by
  have hx : KxOK [] [] [] := fun id d live h => by cases h
  have hl : vs.length = (upTo vs.length 0).length := (upTo_len _ _).symm
  simp only [cFn, hb] at h
  rw [← upTo_zip]
  split at h
  · cases h
  · rename_i f hc
    cases h
    exact cC_ok c ht _ _ _ _ hc vs H [] [] _ _ hl hx fun k' e => by cases e
  · rename_i f ks' hc
    split at h
    · rename_i l hr
      cases h
      show runC f P cf.u8 cl fuel vs [] (fun l' H => retF l l' H) H = _
      refine cC_ok c ht _ _ _ _ hc vs H [] [] _ _ hl hx fun k' e l' H hll => ?_
      cases e
      exact retF_ok hll hr
    · cases h

end

/-- A table of functions made ready: each is one of the program's. -/
def FnOK (P : Program) (cf : Cf) (f : FuncId) (p : Nat × FC) : Prop :=
  ∃ fn ht c, P.funcs[f]? = some fn ∧ (fn.name == "runtime.NumGoroutine") = false ∧ fn.body = some c ∧ codeOK P fn.ntmps c ht = true ∧ cFn P cf fn p.1 ht = some p.2

def TF (P : Program) (cf : Cf) (tb : Tm (Nat × FC)) : Prop := ∀ f p, tb.get f = some p → FnOK P cf f p

/-- The calls of the faster evaluator are the model's. -/
theorem callF_ok {P : Program} {cf : Cf} {tb : Tm (Nat × FC)} {fuel : Nat} (hm : P.follows .mixedOrders = true) (ht : TF P cf tb) (hp : PrOK P cf) : ∀ m, ClOK P cf (callF P cf.u8 tb fuel m)
  | 0 => fun f args H r h => by cases h
  | m + 1 => by
    intro f args H r h
    have h : (match tb.get f with
      | some p => bif lenIs p.1 args then runC p.2 P cf.u8 (callF P cf.u8 tb fuel m) fuel args [] (fun _ _ => none) H else none
      | none => none) = some r := h
    cases htb : tb.get f with
    | none => rw [htb] at h; cases h
    | some p =>
      rw [htb] at h
      simp only at h
      cases hn : lenIs p.1 args with
      | false => rw [hn] at h; cases h
      | true =>
        rw [hn] at h
        simp only [cond_true] at h
        obtain ⟨fn, hint, c, t1, t2, hb, t3, t4⟩ := ht f p htb
        have hlen : args.length = p.1 := Nat.eq_of_beq_eq_true hn
        rw [← hlen] at t4
        rw [cFn_ok hb t4] at h
        refine ⟨⟨fn, c, t1, hb, t2⟩, fun base φ w cargs hr hg hv => ?_⟩
        refine calls_of_wp t1 hb ?_
        have post : ∀ (Q : Exit), (Q = .normal ∨ Q = .ret) → Then (cargs ++ Array.replicate (fn.ntmps - cargs.size) undef).size base φ H w r (fun env H => resP P fn.results env H) (bodyPost P fn (Res base φ H w r) Q) := by
          intro Q hQ env' H' φ' w' a' h1 h2 h3
          obtain ⟨cv, g1, g2, g3⟩ := resP_ok h3.env h2.rel h1
          have : a'.defers = [] ∧ ∃ v, (results fn a'.tmps).run P w' = .ok v w' ∧ Res base φ H w r (.returned v) w' := ⟨h3.nod, cv, g1, φ', by rw [g2]; exact h2, g3⟩
          rcases hQ with e | e <;> subst e <;> exact this
        refine cc_ok (n := (cargs ++ Array.replicate (fn.ntmps - cargs.size) undef).size) hm (callF_ok hm ht hp m) hp c hint (argE 0 args) _ [] _ H φ w _ _ (codeOK_mono (by simp; omega) t3) hg hr ⟨?_, rfl, rfl⟩ h (post .normal (.inl rfl)) (post .ret (.inr rfl)) (fun id K hk => by cases hk)
        refine argE_ok hv fun j cv hj => ?_
        rw [Nat.zero_add]
        have hlt : j < cargs.size := by
          have := (List.getElem?_eq_some_iff.1 hj).1
          simpa using this
        rw [Array.getElem?_append_left hlt]
        simpa using hj

end Go.Proofs.YtlpfhodieopmhaaGreatDoor.Ae

namespace Go.Proofs.YtlpfhodieopmhaaGreatDoor.Ae

noncomputable section

/-- Go on if so. -/
def gR (c : Bool) (x : RO) : RO := Bool.rec none x c

theorem gR_eq (c : Bool) (x : RO) : gR c x = bif c then x else none := by cases c <;> rfl

/-! ### Maps -/
def getK {α : Type} (t : Tm α) : Nat → (α → RO) → RO :=
  Tm.rec (motive := fun _ => Nat → (α → RO) → RO) (fun _ _ => none) (fun v _ _ gl gr i k => Nat.rec (motive := fun _ => RO) (Option.rec (motive := fun _ => RO) none (fun a => k a) v)
    (fun j _ => Bool.rec (motive := fun _ => RO) (gr (Nat.div j 2) k) (gl (Nat.div j 2) k) (Nat.beq (Nat.land j 1) 0)) i) t

theorem getK_eq {α : Type} : ∀ (t : Tm α) (i : Nat) (k : α → RO), getK t i k = match t.get i with | some a => k a | none => none
  | .e, _, _ => rfl
  | .n v l r, i, k => by
    cases i with
    | zero => cases v <;> rfl
    | succ j =>
      show Bool.rec (motive := fun _ => RO) (getK r (Nat.div j 2) k) (getK l (Nat.div j 2) k) (Nat.beq (Nat.land j 1) 0) = _
      simp only [Tm.get]
      cases Nat.beq (Nat.land j 1) 0 with
      | true => exact getK_eq l _ k
      | false => exact getK_eq r _ k

def sgl {α : Type} (d : Nat) : Nat → Option α → Tm α :=
  Nat.rec (motive := fun _ => Nat → Option α → Tm α) (fun _ _ => .e) (fun _ ih i x => Nat.rec (motive := fun _ => Tm α) (.n x .e .e)
    (fun j _ => Bool.rec (motive := fun _ => Tm α) (.n none .e (ih (Nat.div j 2) x)) (.n none (ih (Nat.div j 2) x) .e) (Nat.beq (Nat.land j 1) 0)) i) d

theorem sgl_eq {α : Type} : ∀ (d i : Nat) (x : Option α), sgl d i x = Tm.setF d .e i x
  | 0, _, _ => rfl
  | d + 1, i, x => by
    cases i with
    | zero => rfl
    | succ j =>
      show Bool.rec (motive := fun _ => Tm α) (.n none .e (sgl d (Nat.div j 2) x)) (.n none (sgl d (Nat.div j 2) x) .e) (Nat.beq (Nat.land j 1) 0) = _
      simp only [Tm.setF, ← sgl_eq]
      cases Nat.beq (Nat.land j 1) 0 <;> rfl

theorem setF_big {α : Type} : ∀ (d e i : Nat) (t : Tm α) (x : Option α), i < d → i < e → Tm.setF d t i x = Tm.setF e t i x
  | 0, _, _, _, _, h, _ => by omega
  | _ + 1, 0, _, _, _, _, h => by omega
  | d + 1, e + 1, i, t, x, h1, h2 => by
    cases i with
    | zero => cases t <;> rfl
    | succ j =>
      have : Nat.div j 2 < d ∧ Nat.div j 2 < e := by
        show j / 2 < d ∧ j / 2 < e
        omega
      cases t with
      | e => simp only [Tm.setF, setF_big d e _ .e x this.1 this.2]
      | n v l r => simp only [Tm.setF, setF_big d e _ l x this.1 this.2, setF_big d e _ r x this.1 this.2]

def setR {α : Type} (t : Tm α) : Nat → Option α → Tm α :=
  Tm.rec (motive := fun _ => Nat → Option α → Tm α) (fun i x => sgl (Nat.succ i) i x) (fun v l r sl sr i x => Nat.rec (motive := fun _ => Tm α) (.n x l r)
    (fun j _ => Bool.rec (motive := fun _ => Tm α) (.n v l (sr (Nat.div j 2) x)) (.n v (sl (Nat.div j 2) x) r) (Nat.beq (Nat.land j 1) 0)) i) t

theorem setR_eq {α : Type} : ∀ (t : Tm α) (i : Nat) (x : Option α), setR t i x = t.set i x
  | .e, i, x => by
    show sgl (Nat.succ i) i x = _
    rw [sgl_eq]
    rfl
  | .n v l r, i, x => by
    cases i with
    | zero => rfl
    | succ j =>
      show Bool.rec (motive := fun _ => Tm α) (.n v l (setR r (Nat.div j 2) x)) (.n v (setR l (Nat.div j 2) x) r) (Nat.beq (Nat.land j 1) 0) = _
      rw [setR_eq l, setR_eq r]
      have hlt : Nat.div j 2 < Nat.div j 2 + 1 ∧ Nat.div j 2 < j + 1 := by
        show j / 2 < j / 2 + 1 ∧ j / 2 < j + 1
        omega
      simp only [Tm.set, Tm.setF]
      rw [setF_big _ (j + 1) _ l x hlt.1 hlt.2, setF_big _ (j + 1) _ r x hlt.1 hlt.2]
      cases Nat.beq (Nat.land j 1) 0 <;> rfl

/-! ### Numbers and lists told at once -/
def frN (n : Nat) (k : Nat → RO) : RO := Nat.rec (motive := fun _ => RO) (k 0) (fun m _ => k (Nat.succ m)) n

theorem frN_eq (n : Nat) (k : Nat → RO) : frN n k = k n := by cases n <;> rfl

def frI (n : Int) (k : Int → RO) : RO := Int.rec (motive := fun _ => RO) (fun m => frN m fun m => k (.ofNat m)) (fun m => frN m fun m => k (.negSucc m)) n

theorem frI_eq (n : Int) (k : Int → RO) : frI n k = k n := by
  cases n with
  | ofNat m => exact frN_eq m fun m => k (.ofNat m)
  | negSucc m => exact frN_eq m fun m => k (.negSucc m)

def lenK (l : List AV) : Nat := List.rec (motive := fun _ => Nat) 0 (fun _ _ ih => Nat.succ ih) l

def dropK (l : List AV) : Nat → (List AV → RO) → RO :=
  List.rec (motive := fun _ => Nat → (List AV → RO) → RO) (fun _ k => k []) (fun a t ih i k => Nat.rec (motive := fun _ => RO) (k (a :: t)) (fun j _ => ih j k) i) l

theorem dropK_eq : ∀ (l : List AV) (i : Nat) (k : List AV → RO), dropK l i k = k (dropL i l)
  | [], i, k => by cases i <;> rfl
  | a :: t, i, k => by
    cases i with
    | zero => rfl
    | succ j => exact dropK_eq t j k

/-- The head of a list, and what follows. -/
def hdK (l : List AV) (k : AV → List AV → RO) : RO := List.rec (motive := fun _ => RO) (k .any []) (fun a t _ => k a t) l

theorem hdK_eq (l : List AV) (k : AV → List AV → RO) : hdK l k = k (match l with | [] => .any | a :: _ => a) l.tail := by cases l <;> rfl

def overK (n : Nat) : List AV → List AV → (List AV → RO) → RO :=
  Nat.rec (motive := fun _ => List AV → List AV → (List AV → RO) → RO) (fun _ l k => k l) (fun _ ih xs l k => hdK xs fun x xs => hdK l fun _ l => ih xs l fun r => k (x :: r)) n

theorem overK_eq : ∀ (n : Nat) (xs l : List AV) (k : List AV → RO), overK n xs l k = k (over n xs l)
  | 0, _, _, _ => rfl
  | n + 1, xs, l, k => by
    show hdK xs (fun x xs => hdK l fun _ l => overK n xs l fun r => k (x :: r)) = _
    rw [hdK_eq, hdK_eq, overK_eq]
    rfl

def splK (i : Nat) : Nat → List AV → List AV → (List AV → RO) → RO :=
  Nat.rec (motive := fun _ => Nat → List AV → List AV → (List AV → RO) → RO) (fun n xs l k => overK n xs l k) (fun _ ih n xs l k => hdK l fun a l => ih n xs l fun r => k (a :: r)) i

theorem splK_eq : ∀ (i n : Nat) (xs l : List AV) (k : List AV → RO), splK i n xs l k = k (splice i n xs l)
  | 0, n, xs, l, k => overK_eq n xs l k
  | i + 1, n, xs, l, k => by
    show hdK l (fun a l => splK i n xs l fun r => k (a :: r)) = _
    rw [hdK_eq, splK_eq]
    rfl

/-! ### Cases of a value -/
abbrev MV (α : Type) := AV → α

def cPtr {α : Type} (d : α) (f : Nat → Nat → α) (v : AV) : α :=
  AV.rec (motive_1 := fun _ => α) (motive_2 := fun _ => Unit) d (fun _ => d) (fun _ _ => d) (fun _ => d) d (fun b o => f b o) d (fun _ _ _ _ _ _ => d) (fun _ _ => d) (fun _ _ _ _ _ => d) d (fun _ _ _ => d) d (fun _ _ _ => d) (fun _ _ => d) () (fun _ _ _ _ => ()) v

def cInt {α : Type} (d : α) (f : IntKind → Int → α) (v : AV) : α :=
  AV.rec (motive_1 := fun _ => α) (motive_2 := fun _ => Unit) d (fun _ => d) (fun k n => f k n) (fun _ => d) d (fun _ _ => d) d (fun _ _ _ _ _ _ => d) (fun _ _ => d) (fun _ _ _ _ _ => d) d (fun _ _ _ => d) d (fun _ _ _ => d) (fun _ _ => d) () (fun _ _ _ _ => ()) v

def cBool {α : Type} (d : α) (f : Bool → α) (v : AV) : α :=
  AV.rec (motive_1 := fun _ => α) (motive_2 := fun _ => Unit) d (fun b => f b) (fun _ _ => d) (fun _ => d) d (fun _ _ => d) d (fun _ _ _ _ _ _ => d) (fun _ _ => d) (fun _ _ _ _ _ => d) d (fun _ _ _ => d) d (fun _ _ _ => d) (fun _ _ => d) () (fun _ _ _ _ => ()) v

def cAgg {α : Type} (d : α) (f : Nat → List AV → α) (v : AV) : α :=
  AV.rec (motive_1 := fun _ => α) (motive_2 := fun _ => Unit) d (fun _ => d) (fun _ _ => d) (fun _ => d) d (fun _ _ => d) d (fun _ _ _ _ _ _ => d) (fun _ _ => d) (fun _ _ _ _ _ => d) d (fun _ _ _ => d) d (fun n cs _ => f n cs) (fun _ _ => d) () (fun _ _ _ _ => ()) v

def cTup {α : Type} (d : α) (f : List AV → α) (v : AV) : α :=
  AV.rec (motive_1 := fun _ => α) (motive_2 := fun _ => Unit) d (fun _ => d) (fun _ _ => d) (fun _ => d) d (fun _ _ => d) d (fun _ _ _ _ _ _ => d) (fun _ _ => d) (fun _ _ _ _ _ => d) d (fun _ _ _ => d) d (fun _ _ _ => d) (fun cs _ => f cs) () (fun _ _ _ _ => ()) v

def cSlice {α : Type} (d : α) (f : Nat → Nat → Nat → α) (v : AV) : α :=
  AV.rec (motive_1 := fun _ => α) (motive_2 := fun _ => Unit) d (fun _ => d) (fun _ _ => d) (fun _ => d) d (fun _ _ => d) d (fun b o l _ _ _ => f b o l) (fun _ _ => d) (fun _ _ _ _ _ => d) d (fun _ _ _ => d) d (fun _ _ _ => d) (fun _ _ => d) () (fun _ _ _ _ => ()) v

def cStr {α : Type} (d : α) (f : List UInt8 → α) (v : AV) : α :=
  AV.rec (motive_1 := fun _ => α) (motive_2 := fun _ => Unit) d (fun _ => d) (fun _ _ => d) (fun s => f s) d (fun _ _ => d) d (fun _ _ _ _ _ _ => d) (fun _ _ => d) (fun _ _ _ _ _ => d) d (fun _ _ _ => d) d (fun _ _ _ => d) (fun _ _ => d) () (fun _ _ _ _ => ()) v

/-- A value's cells and width. -/
def cellsR (v : AV) : List AV := cAgg [v] (fun _ cs => cs) v
def widthR (v : AV) : Nat :=
  AV.rec (motive_1 := fun _ => Nat) (motive_2 := fun _ => Unit) 1 (fun _ => 1) (fun _ _ => 1) (fun _ => 1) 1 (fun _ _ => 1) 1 (fun _ _ _ _ _ _ => 1) (fun _ _ => 1) (fun _ _ _ _ _ => 1) 1 (fun _ _ _ => 1) 1 (fun n _ _ => n) (fun _ _ => 0) () (fun _ _ _ _ => ()) v

theorem cellsR_eq (v : AV) : cellsR v = v.cells := by cases v <;> rfl
theorem widthR_eq (v : AV) : widthR v = v.width := by cases v <;> rfl

/-! ### Memory -/
def rdR (off size : Nat) (o : AObj) (k : Nat → List AV → RO) : RO :=
  AObj.rec (motive := fun _ => RO) (fun rows n es _ _ _ _ => gR (Nat.ble (Nat.add (Nat.mod off es) size) es) (gR (Nat.blt (Nat.div off es) n) (getK rows (Nat.div off es) fun row => k (Nat.mod off es) row))) o

theorem rdR_eq (off size : Nat) (o : AObj) (k : Nat → List AV → RO) (k' : List AV → RO) (h : ∀ row, k (Nat.mod off o.es) row = k' (dropL (Nat.mod off o.es) row)) :
    rdR off size o k = match rdCells o off size with | some cs => k' cs | none => none := by
  obtain ⟨rows, n, es, e, ro, fz, wh⟩ := o
  show gR _ (gR _ (getK rows _ _)) = _
  simp only [rdCells, gR_eq, getK_eq]
  cases Nat.ble (Nat.add (Nat.mod off es) size) es with
  | false => rfl
  | true =>
    cases Nat.blt (Nat.div off es) n with
    | false => rfl
    | true =>
      simp only [cond_true, Bool.and_self]
      cases rows.get (Nat.div off es) with
      | none => rfl
      | some row => exact h row

def ld1P (b off : Nat) (H : AH) (k : AV → RO) : RO := AH.rec (motive := fun _ => RO) (fun objs _ => getK objs b fun o => rdR off 1 o fun i row => nthK row i k) H
def ldAP (size : Nat) (b off : Nat) (H : AH) (k : AV → RO) : RO := AH.rec (motive := fun _ => RO) (fun objs _ => getK objs b fun o => rdR off size o fun i row => dropK row i fun cs => k (.agg size cs)) H

def noneL : AH → (AV → RO) → RO := fun _ _ => none
def ld1R : AV → AH → (AV → RO) → RO := cPtr noneL ld1P
def ldAR (size : Nat) : AV → AH → (AV → RO) → RO := cPtr noneL (ldAP size)

theorem dropL_nth : ∀ (i : Nat) (row : List AV) (k : AV → RO), nthK row i k = match dropL i row with | x :: _ => k x | [] => none
  | 0, [], _ => rfl
  | 0, _ :: _, _ => rfl
  | _ + 1, [], _ => rfl
  | i + 1, _ :: t, k => dropL_nth i t k

theorem ld1R_eq (p : AV) (H : AH) (k : AV → RO) : ld1R p H k = ld1 p H k := by
  cases p <;> try rfl
  rename_i b off
  obtain ⟨objs, nx⟩ := H
  show getK objs b _ = _
  simp only [ld1, getK_eq]
  cases objs.get b with
  | none => rfl
  | some o =>
    simp only
    rw [rdR_eq off 1 o (fun i row => nthK row i k) (fun cs => match cs with | x :: _ => k x | [] => none) fun row => dropL_nth _ _ _]
    cases rdCells o off 1 with
    | none => rfl
    | some cs => cases cs <;> rfl

theorem ldAR_eq (size : Nat) (p : AV) (H : AH) (k : AV → RO) : ldAR size p H k = ldA size p H k := by
  cases p <;> try rfl
  rename_i b off
  obtain ⟨objs, nx⟩ := H
  show getK objs b _ = _
  simp only [ldA, getK_eq]
  cases objs.get b with
  | none => rfl
  | some o =>
    simp only
    rw [rdR_eq off size o _ (fun cs => k (.agg size cs)) fun row => dropK_eq _ _ _]
    cases rdCells o off size <;> rfl

def wrR (objs : Tm AObj) (next b off size : Nat) (cs : List AV) (k : AH → RO) : RO :=
  getK objs b fun o => AObj.rec (motive := fun _ => RO) (fun rows n es elem ro fz wh =>
    gR (Bool.rec true false ro) (gR (Nat.ble fz off) (gR (Nat.ble (Nat.add (Nat.mod off es) size) es) (gR (Nat.blt (Nat.div off es) n) (getK rows (Nat.div off es) fun row =>
      Bool.rec (motive := fun _ => RO) (splK (Nat.mod off es) size cs row fun row' => k ⟨setR objs b (some ⟨setR rows (Nat.div off es) (some row'), n, es, elem, ro, fz, wh⟩), next⟩)
        (k ⟨setR objs b (some ⟨setR rows (Nat.div off es) (some cs), n, es, elem, ro, fz, wh⟩), next⟩) (Nat.beq size es)))))) o

theorem wrR_eq (objs : Tm AObj) (next b off size : Nat) (cs : List AV) (k : AH → RO) : wrR objs next b off size cs k = match wrCells ⟨objs, next⟩ b off size cs with | some H' => k H' | none => none := by
  unfold wrR
  simp only [wrCells, getK_eq]
  cases objs.get b with
  | none => rfl
  | some o =>
    obtain ⟨rows, n, es, elem, ro, fz, wh⟩ := o
    simp only [gR_eq, getK_eq, splK_eq, setR_eq]
    cases ro with
    | true => rfl
    | false =>
      cases Nat.ble fz off with
      | false => rfl
      | true =>
        cases Nat.ble (Nat.add (Nat.mod off es) size) es with
        | false => rfl
        | true =>
          cases Nat.blt (Nat.div off es) n with
          | false => rfl
          | true =>
            simp only [cond_true, Bool.not_false, Bool.and_self]
            cases rows.get (Nat.div off es) with
            | none => rfl
            | some row => simp only; cases Nat.beq size es <;> rfl

def stPP (size : Nat) (v : AV) (b off : Nat) (H : AH) (k : AH → RO) : RO :=
  gR (Nat.beq (widthR v) size) (gR (Bool.rec true false (Nat.beq size 0)) (AH.rec (motive := fun _ => RO) (fun objs next => wrR objs next b off size (cellsR v) k) H))

def noneS : AH → (AH → RO) → RO := fun _ _ => none
def stPR (size : Nat) (p v : AV) : AH → (AH → RO) → RO := cPtr noneS (stPP size v) p

theorem stPR_eq (size : Nat) (p v : AV) (H : AH) (k : AH → RO) : stPR size p v H k = stP size p v H k := by
  cases p <;> try rfl
  rename_i b off
  obtain ⟨objs, nx⟩ := H
  show gR _ (gR _ (wrR objs nx b off size (cellsR v) k)) = _
  simp only [stP, gR_eq, wrR_eq, cellsR_eq, widthR_eq]
  cases Nat.beq v.width size with
  | false => rfl
  | true => cases Nat.beq size 0 <;> rfl

def newR (elem size : Nat) (v : AV) (H : AH) (k : KV) : RO :=
  gR (Nat.beq (widthR v) size) (gR (Bool.rec true false (Nat.beq size 0)) (AH.rec (motive := fun _ => RO) (fun objs next => frN next fun next => k (.ptr next 0) ⟨setR objs next (some ⟨.n (some (cellsR v)) .e .e, 1, size, elem, false, 0, true⟩), Nat.succ next⟩) H))

theorem newR_eq (elem size : Nat) (v : AV) (H : AH) (k : KV) : newR elem size v H k = newV elem size v H k := by
  obtain ⟨objs, nx⟩ := H
  show gR _ (gR _ (frN nx _)) = _
  simp only [newV, newO, gR_eq, frN_eq, setR_eq, cellsR_eq, widthR_eq]
  cases Nat.beq v.width size with
  | false => rfl
  | true => cases Nat.beq size 0 <;> rfl

end
end Go.Proofs.YtlpfhodieopmhaaGreatDoor.Ae

