/-
  An evaluator of the model's code over abstract values, and its soundness, part 2.
-/
import Derived.Test.YtlpfhodieopmhaaGreatDoorAeA
import Derived.Laws.BytesString
import Derived.Lib.UnsafeStr
import Derived.Laws.NewFold
import Derived.Great.FillDense
import Derived.Lib.Bytealg
import Derived.Room.MakeNoZero
set_option linter.unusedVariables false
set_option linter.unusedSimpArgs false
set_option linter.unusedSectionVars false
set_option linter.unnecessarySimpa false
namespace Go.Proofs.YtlpfhodieopmhaaGreatDoor.Ae
open Go.RowKit

section
variable {P : Program} {cf : Cf} {cl : Caller} {base : Nat} {φ : Lay} {H : AH} {w : World} {o : Oper} {a : Act} {env : Env} {r : AV × AH} {next : Act → World → Prop} {Q : Exit → Act → World → Prop} {k : KV}

/-- Chunks of cells, told by rows. -/
def VR (φ : Lay) (size : Nat) : List (List AV) → List Value → Prop
  | [], l => l = []
  | r :: rs, l => ∃ vs us, l = vs ++ us ∧ vs.length = size ∧ VP φ r vs ∧ VR φ size rs us

theorem VR.length {size : Nat} : ∀ {rs : List (List AV)} {l : List Value}, VR φ size rs l → l.length = rs.length * size
  | [], _, h => by simp only [VR] at h; simp [h]
  | _ :: _, _, h => by
    simp only [VR] at h
    obtain ⟨vs, us, rfl, h1, _, h2⟩ := h
    simp [VR.length h2, h1, Nat.add_mul, Nat.add_comm]

theorem VR.mono {size : Nat} {ψ : Lay} (hl : φ.le ψ) : ∀ {rs : List (List AV)} {l : List Value}, VR φ size rs l → VR ψ size rs l
  | [], _, h => h
  | _ :: _, _, h => by
    simp only [VR] at h ⊢
    obtain ⟨vs, us, rfl, h1, h2, h3⟩ := h
    exact ⟨vs, us, rfl, h1, VP.mono hl h2, h3.mono hl⟩

theorem VR.append {size : Nat} : ∀ {rs ss : List (List AV)} {l m : List Value}, VR φ size rs l → VR φ size ss m → VR φ size (rs ++ ss) (l ++ m)
  | [], _, _, _, h, k => by simp only [VR] at h; subst h; exact k
  | _ :: _, _, _, _, h, k => by
    simp only [VR] at h
    obtain ⟨vs, us, rfl, h1, h2, h3⟩ := h
    simp only [List.cons_append, VR]
    exact ⟨vs, us ++ _, by simp, h1, h2, h3.append k⟩

/-- A cell of row number i. -/
theorem VR.get {size : Nat} : ∀ {rs : List (List AV)} {l : List Value} {i c : Nat} {row : List AV} {x : AV} {v : Value}, VR φ size rs l → rs[i]? = some row → row[c]? = some x → c < size → l[i * size + c]? = some v → V φ x v
  | [], _, _, _, _, _, _, _, h, _, _, _ => by simp at h
  | r :: rs, _, 0, c, row, x, v, h, h1, h2, h3, h4 => by
    simp only [VR] at h
    obtain ⟨vs, us, rfl, e, hv, _⟩ := h
    simp at h1
    subst h1
    rw [Nat.zero_mul, Nat.zero_add, List.getElem?_append_left (by omega)] at h4
    exact hv.get h2 h4
  | r :: rs, _, i + 1, c, row, x, v, h, h1, h2, h3, h4 => by
    simp only [VR] at h
    obtain ⟨vs, us, rfl, e, _, hr⟩ := h
    rw [List.getElem?_append_right (by rw [Nat.add_mul]; omega), show (i + 1) * size + c - vs.length = i * size + c by rw [Nat.add_mul]; omega] at h4
    exact hr.get (by simpa using h1) h2 h3 h4

theorem rdElems_spec {o' : AObj} {B sh N size : Nat} (h : RelO φ w o' B sh N) : ∀ {n off : Nat} {rs : List (List AV)}, rdElems o' size off n = some rs →
    ∃ vs : List Value, VR φ size rs vs ∧ rs.length = n ∧ (∀ j v, vs[j]? = some v → w.cell? ⟨B, sh + off + j, none⟩ = some v) ∧ (∀ v ∈ vs, v.oneCell' = true) ∧ (n ≠ 0 → sh + off + n * size ≤ N)
  | 0, off, rs, hr => by
    simp only [rdElems, Option.some.injEq] at hr
    subst hr
    exact ⟨[], by simp only [VR], rfl, fun j v hv => by simp at hv, fun v hv => by simp at hv, fun h => absurd rfl h⟩
  | n + 1, off, rs, hr => by
    simp only [rdElems] at hr
    cases h1 : rdCells o' off size with
    | none => rw [h1] at hr; cases hr
    | some r1 =>
      cases h2 : rdElems o' size (Nat.add off size) n with
      | none => rw [h1, h2] at hr; cases hr
      | some rs' =>
        rw [h1, h2] at hr
        simp only [Option.some.injEq] at hr
        subst hr
        obtain ⟨vs, c1, c2, c3, c4, c5⟩ := rdCells_spec h h1
        obtain ⟨us, d1, d2, d3, d4, d5⟩ := rdElems_spec h h2
        refine ⟨vs ++ us, by simp only [VR]; exact ⟨vs, us, rfl, c1, c4, d1⟩, by simp [d2], fun j v hv => ?_, fun v hv => ?_, fun _ => ?_⟩
        · by_cases hj : j < size
          · rw [List.getElem?_append_left (by omega)] at hv
            exact c2 j v hv
          · rw [List.getElem?_append_right (by omega)] at hv
            have := d3 _ v hv
            rw [show sh + Nat.add off size + (j - vs.length) = sh + off + j by show sh + (off + size) + (j - vs.length) = _; omega] at this
            exact this
        · rcases List.mem_append.1 hv with h | h
          · exact c3 v h
          · exact d4 v h
        · by_cases hn : n = 0
          · subst hn; omega
          · have := d5 hn
            have e : sh + Nat.add off size + n * size = sh + off + (n + 1) * size := by show sh + (off + size) + n * size = _; rw [Nat.add_mul]; omega
            omega

/-- What a slice, or a string, is made of. -/
theorem elems_ok {size n : Nat} {v : AV} {cv : Value} {rs : List (List AV)} (hr : Rel base φ H w) (h : elemsV size n v H = some rs) (hv : V φ v cv) :
    ∃ vs : List Value, VR φ size rs vs ∧ rs.length = n ∧ (∀ u ∈ vs, u.oneCell' = true) ∧ (∀ y : World, y.heap = w.heap → (Builtin.firstCells size n cv).run P y = .ok vs.toArray y) ∧ (v = .nils → vs = []) ∧
      (∀ b o l c z x B sh N, v = .slice b o l c z x → φ b = some (B, sh, N) → ∀ j u, vs[j]? = some u → w.cell? ⟨B, sh + o + j, none⟩ = some u) := by
  unfold elemsV at h
  cases v <;> simp only at h <;> try cases h
  · rename_i s
    cases hb : (Nat.beq size 1 && Nat.ble n s.length) with
    | false => rw [hb] at h; cases h
    | true =>
      rw [hb] at h
      simp only [cond_true, Option.some.injEq] at h
      simp only [Bool.and_eq_true, Nat.ble_eq] at hb
      have e1 := Nat.eq_of_beq_eq_true hb.1
      subst e1
      simp only [V] at hv
      subst hv
      have row : ∀ l : List UInt8, VR φ 1 (l.map fun b => [AV.int .u8 (Int.ofNat b.toNat)]) (l.map fun b => Value.int .u8 b.toNat) := fun l => by
        induction l with
        | nil => simp only [List.map_nil, VR]
        | cons b l ih =>
          simp only [List.map_cons, VR]
          exact ⟨[.int .u8 b.toNat], _, rfl, rfl, by simp only [VP, V]; exact ⟨rfl, trivial⟩, ih⟩
      subst h
      refine ⟨(s.take n).map fun b => Value.int .u8 b.toNat, row _, by simp; omega, fun u hu => ?_, ?_, (fun e => by cases e), (fun _ _ _ _ _ _ _ _ _ e => by cases e)⟩
      · obtain ⟨b, _, rfl⟩ := List.mem_map.1 hu
        rfl
      · have e : ((bytes s).extract 0 n).data = (s.take n).toArray := by
          rw [drop_take]
          simp [bytes]
        intro y _
        show (pure ((((bytes s).extract 0 n).data.map fun b => Value.int .u8 b.toNat)) : Sem (Array Value)).run P y = _
        rw [e]
        simp
  · cases hb : Nat.beq n 0 with
    | false => rw [hb] at h; cases h
    | true =>
      rw [hb] at h
      simp only [cond_true, Option.some.injEq] at h
      have e1 := Nat.eq_of_beq_eq_true hb
      subst e1
      subst h
      simp only [V] at hv
      subst hv
      exact ⟨[], by simp only [VR], rfl, fun u hu => by simp at hu, (fun _ _ => rfl), (fun _ => rfl), (fun _ _ _ _ _ _ _ _ _ e => by cases e)⟩
  · rename_i b off l c z ex
    cases hg : H.objs.get b with
    | none => rw [hg] at h; cases h
    | some ob =>
      rw [hg] at h
      simp only at h
      simp only [V] at hv
      obtain ⟨B, sh, N, cc, hφ, rfl, _⟩ := hv
      obtain ⟨vs, c1, c2, c3, c4, _⟩ := rdElems_spec (hr.obj b ob B sh N hg hφ) h
      refine ⟨vs, c1, c2, c4, ?_, (fun e => by cases e), fun b' o' l' c' z' x' B' sh' N' e hφ' => ?_⟩
      · intro y hy
        have hl : vs.length = n * size := by rw [c1.length, c2]
        have := run_loadCells_list (P := P) y ⟨B, sh + off, none⟩ vs (fun j v hv => by
          rw [addr_add]
          have := c3 j v hv
          unfold World.cell? at this ⊢
          rw [hy]
          exact this)
        rw [hl] at this
        exact this
      · cases e
        rw [hφ] at hφ'
        cases hφ'
        exact c3
  · rename_i b z
    cases hb : Nat.beq n 0 with
    | false => rw [hb] at h; cases h
    | true =>
      rw [hb] at h
      simp only [cond_true, Option.some.injEq] at h
      have e1 := Nat.eq_of_beq_eq_true hb
      subst e1
      subst h
      simp only [V] at hv
      obtain ⟨B, sh, N, oo, cc, _, rfl, _⟩ := hv
      refine ⟨[], by simp only [VR], rfl, fun u hu => by simp at hu, ?_, (fun e => by cases e), (fun _ _ _ _ _ _ _ _ _ e => by cases e)⟩
      intro y _
      show (loadCells _ (0 * size)).run P y = _
      rw [Nat.zero_mul]
      rfl

theorem len_ok {v : AV} {cv : Value} {n : Nat} (h : lenV v = some n) (hv : V φ v cv) : (Builtin.lenOf cv).run P w = .ok n w := by
  unfold lenV at h
  cases v <;> simp only [Option.some.injEq] at h <;> try cases h
  · simp only [V] at hv; subst hv; rfl
  · simp only [V] at hv; subst hv; rfl
  · simp only [V] at hv; obtain ⟨_, _, _, _, _, rfl, _⟩ := hv; rfl
  · simp only [V] at hv; obtain ⟨_, _, _, _, _, _, rfl, _⟩ := hv; rfl

/-! ### Conversions -/
theorem bytesOf_ok : ∀ {rs : List (List AV)} {s : List UInt8} {vs : List Value}, bytesOf rs = some s → VR φ 1 rs vs → ∃ ns : List Int, vs = ns.map (Value.int .u8) ∧ s = ns.map (fun n => UInt8.ofNat n.toNat)
  | [], s, vs, h, hv => by
    simp only [bytesOf, Option.some.injEq] at h
    simp only [VR] at hv
    subst h hv
    exact ⟨[], rfl, rfl⟩
  | r1 :: rs, s, vs, h, hv => by
    simp only [bytesOf] at h
    cases h1 : byteOf r1 with
    | none => rw [h1] at h; cases h
    | some b =>
      cases h2 : bytesOf rs with
      | none => rw [h1, h2] at h; cases h
      | some bs =>
        rw [h1, h2] at h
        simp only [Option.some.injEq] at h
        subst h
        simp only [VR] at hv
        obtain ⟨x, us, rfl, hl, hp, hr⟩ := hv
        obtain ⟨ns, rfl, rfl⟩ := bytesOf_ok h2 hr
        obtain ⟨v, rfl⟩ : ∃ v, x = [v] := by
          match x, hl with
          | [v], _ => exact ⟨v, rfl⟩
        unfold byteOf at h1
        split at h1
        · rename_i n _
          cases h1
          simp only [VP, V] at hp
          rw [hp.1]
          exact ⟨n :: ns, rfl, rfl⟩
        · cases h1

theorem fold_push : ∀ (ns : List Int) (acc : List UInt8), ns.foldl (fun r n => r.push (UInt8.ofNat n.toNat)) (bytes acc) = bytes (acc ++ ns.map fun n => UInt8.ofNat n.toNat)
  | [], acc => by simp
  | n :: ns, acc => by
    have e : (bytes acc).push (UInt8.ofNat n.toNat) = bytes (acc ++ [UInt8.ofNat n.toNat]) := by
      apply ByteArray.ext
      rw [ByteArray.data_push]
      simp [bytes]
    rw [List.foldl_cons, e, fold_push ns]
    simp

theorem shape_seen {B N : Nat} {e : TypeId} (h : w.shape? B = some (e, N)) (off : Nat) : (Conv.seenAt ⟨B, off, none⟩).run P w = .ok ⟨B, off, none⟩ w := by
  simp [Conv.seenAt, viewAt, Sem.run_bind, Result.andThen, h]

theorem lies_whole {e : TypeId} {s : Nat} (hs : P.cellsOf e = s) (hz : s ≠ 0) : liesAt P P.depth e 1 0 e 1 = true := by
  have hd : P.depth = (2 * (P.types.size + Made.depth) + 1) + 1 := rfl
  rw [hd]
  simp only [liesAt, Bool.or_eq_true]
  left
  rw [hd]
  simp [rowAt, hs, hz, sameLayout]

end

end Go.Proofs.YtlpfhodieopmhaaGreatDoor.Ae

namespace Go.Proofs.YtlpfhodieopmhaaGreatDoor.Ae
open Go.RowKit

section
variable {P : Program} {cf : Cf} {cl : Caller} {base : Nat} {φ : Lay} {H : AH} {w : World} {o : Oper} {a : Act} {env : Env} {r : AV × AH} {next : Act → World → Prop} {Q : Exit → Act → World → Prop} {k : KV}

theorem Below.freeze {w : World} {B : Nat} {u : World} (h : Below B w u) {p : Addr} (hp : B ≤ p.block) (n : Nat) : Below B w (u.freeze p n) := by
  unfold World.freeze
  split
  · exact h
  · refine h.trans ⟨rfl, rfl, rfl, by simp, fun i hi => ?_⟩
    simp only [Array.getElem?_modify]
    rw [if_neg (by omega)]

/-- Rows of bytes. -/
def byteRows (s : List UInt8) : List (List AV) := s.map fun b => [AV.int .u8 (Int.ofNat b.toNat)]

theorem putRows_get : ∀ (rs : List (List AV)) (t : Tm (List AV)) (i j : Nat), (putRows t i rs).get j = if i ≤ j ∧ j < i + rs.length then rs[j - i]? else t.get j
  | [], t, i, j => by
    rw [if_neg (by simp only [List.length_nil]; omega)]
    rfl
  | r :: rs, t, i, j => by
    rw [putRows, putRows_get rs, Tm.get_set]
    by_cases h1 : i + 1 ≤ j ∧ j < i + 1 + rs.length
    · rw [if_pos h1, if_pos (by simp only [List.length_cons]; omega), show j - i = (j - (i + 1)) + 1 by omega]
      simp
    · rw [if_neg h1]
      by_cases h2 : j = i
      · subst h2
        rw [if_pos rfl, if_pos (by simp)]
        simp
      · rw [if_neg h2, if_neg (by simp only [List.length_cons]; omega)]

theorem run_stringToBytes (e : TypeId) (s : List UInt8) : ∃ (w' : World) (C : Array Value) (cap : Nat), (Conv.stringToBytes e (bytes s)).run P w = .ok (.slice (some ⟨w.heap.size, 0, none⟩) s.length cap) w' ∧ s.length ≤ cap ∧ Below w.heap.size w w' ∧ w.heap.size < w'.heap.size ∧
    w'.heap[w.heap.size]? = some (.cells C e (cap, cap + 1)) ∧ C.size = cap ∧ (∀ u ∈ C.toList, u.oneCell' = true) ∧ (∀ (i : Nat) (b : UInt8), s[i]? = some b → C[i]? = some (Value.int .u8 b.toNat)) := by
  obtain ⟨cap, hcap, hle⟩ : ∃ cap, (Question.appendCap s.length 0 e).cut (w.tape w.drawn (.appendCap s.length 0 e)) = cap ∧ s.length ≤ cap := ⟨_, rfl, Nat.le_add_right _ _⟩
  let C : Array Value := (s.toArray.map fun b => Value.int .u8 b.toNat) ++ Array.replicate (cap - s.length) (.int .u8 0)
  have hC : C.size = cap := by simp [C]; omega
  have hsz : (bytes s).size = s.length := rfl
  refine ⟨(w.drew.alloc (.cells C e)).freeze ⟨w.heap.size, cap, none⟩ 1, C, cap, ?_, hle, ?_, ?_, ?_, hC, ?_, ?_⟩
  · have hsh : (w.drew.alloc (.cells C e)).shape? w.heap.size = some (e, cap) := by
      show (match (w.heap.push (.cells C e))[w.heap.size]? with | some (.cells c elem _) => some (elem, c.size) | _ => none) = _
      simp [hC]
    have hd : (bytes s).data = s.toArray := rfl
    simp only [Conv.stringToBytes, Sem.run_bind, run_choose_drew, Question.forced, Bool.false_eq_true, if_false, Result.andThen, hsz, hcap, hd]
    simp only [newRow, Sem.run_bind, run_newObj_alloc, Result.andThen, Sem.run_pure]
    have hs2 : w.drew.heap.size = w.heap.size := rfl
    simp only [hs2, markStringish, Sem.run_bind, run_shape, Result.andThen]
    have hsh' := hsh
    simp only [C] at hsh'
    simp only [hsh']
    simp [Sem.run_bind, Result.andThen, C]
  · exact Below.freeze ((Below.refl _ _).drew.alloc (Nat.le_refl _) _) (Nat.le_refl _) 1
  · simp [World.freeze]
  · simp only [World.freeze]
    rw [if_neg (by decide)]
    simp only [Array.getElem?_modify, if_true]
    have : (w.drew.alloc (.cells C e)).heap[w.heap.size]? = some (.cells C e) := heap_alloc_new w.drew _
    rw [this]
    rfl
  · intro u hu
    simp only [C, Array.toList_append, Array.toList_map, Array.toList_replicate] at hu
    rcases List.mem_append.1 hu with h | h
    · obtain ⟨b, _, rfl⟩ := List.mem_map.1 h
      rfl
    · rw [(List.mem_replicate.1 h).2]; rfl
  · intro i b hb
    have hlt : i < s.length := (List.getElem?_eq_some_iff.1 hb).1
    simp only [C]
    rw [Array.getElem?_append_left (by simpa using hlt)]
    simp [hb]

theorem cvB_ok {e : TypeId} {v : AV} {cv : Value} (hr : Rel base φ H w) (h : cvB e v H k = some r) (hk : Cont base φ H w r k o a next) (hv : V φ v cv) :
    ∃ s cu w', cv = .string (bytes s) ∧ (Conv.stringToBytes e (bytes s)).run P w = .ok cu w' ∧ next (a.put o.dst cu) w' := by
  unfold cvB at h
  cases v <;> simp only at h <;> try cases h
  rename_i s
  simp only [V] at hv
  obtain ⟨w', C, cap, h1, h2, h3, h4, h5, h6, h7, h8⟩ := run_stringToBytes (P := P) (w := w) e s
  refine ⟨s, _, w', hv, h1, newO_ok hr h hk h3 h4 h5 h7 (by omega) (fun e => by cases e) (fun i hi => by omega) (fun ψ hle q row c x u i1 i2 i3 i4 i5 => ?_) (fun b ψ hb => ?_)⟩
  · rw [putRows_get] at i3
    simp only [List.length_map, Nat.zero_add, Nat.zero_le, true_and, Nat.sub_zero, i1, if_true] at i3
    have hc : c = 0 := by omega
    subst hc
    rw [List.getElem?_map] at i3
    cases hb : s[q]? with
    | none => rw [hb] at i3; cases i3
    | some b =>
      rw [hb] at i3
      cases i3
      simp at i4
      subst i4
      have := h8 q b hb
      rw [show q * 1 + 0 = q by omega, this] at i5
      cases i5
      simp only [V]
  · simp only [V]
    exact ⟨_, _, _, _, hb, rfl, h2, (fun e => by cases e), fun _ => by omega⟩

theorem cvS_ok {v : AV} {cv : Value} {kk : AV → RO} (hr : Rel base φ H w) (h : cvS v H kk = some r) (hv : V φ v cv) :
    ∃ s, kk (.str s) = some r ∧ (∃ b l c, cv = .slice b l c) ∧ (Conv.bytesToString cv).run P w = .ok (.string (bytes s)) w := by
  unfold cvS at h
  cases hl : lenV v with
  | none => rw [hl] at h; cases h
  | some n =>
    rw [hl] at h
    simp only at h
    have hne : ∀ s, v ≠ .str s := fun s e => by subst e; cases h
    have h' : (match elemsV 1 n v H with
      | some l => match bytesOf l with
        | some s => kk (.str s)
        | none => none
      | none => none) = some r := by cases v <;> first | exact h | exact absurd rfl (hne _)
    clear h
    cases he : elemsV 1 n v H with
    | none => rw [he] at h'; cases h'
    | some rs =>
      rw [he] at h'
      simp only at h'
      cases hb : bytesOf rs with
      | none => rw [hb] at h'; cases h'
      | some s =>
        rw [hb] at h'
        simp only at h'
        obtain ⟨vs, c1, c2, c3, c4, c5, _⟩ := elems_ok (P := P) hr he hv
        obtain ⟨ns, e1, e2⟩ := bytesOf_ok hb c1
        refine ⟨s, h', ?_, ?_⟩
        · unfold lenV at hl
          cases v <;> simp only [V] at hv <;> try cases hl
          · exact absurd rfl (hne _)
          · exact ⟨_, _, _, hv⟩
          · obtain ⟨_, _, _, _, _, e, _⟩ := hv; exact ⟨_, _, _, e⟩
          · obtain ⟨_, _, _, _, _, _, e, _⟩ := hv; exact ⟨_, _, _, e⟩
        · subst e1 e2
          have fin : ∀ (ad : Addr) (c : Nat), cv = .slice (some ad) n c → (Conv.bytesToString cv).run P w = .ok (.string (bytes (ns.map fun n => UInt8.ofNat n.toNat))) w := fun ad c e => by
            subst e
            have hc : (loadCells ad n).run P w = .ok (ns.map (Value.int .u8)).toArray w := by
              have h4 : (loadCells ad (n * 1)).run P w = .ok (ns.map (Value.int .u8)).toArray w := c4 w rfl
              rwa [Nat.mul_one] at h4
            rw [run_bytesToString w ad n c ns hc]
            have := fold_push ns []
            have e0 : bytes [] = ByteArray.empty := rfl
            rw [e0] at this
            rw [this]
            rfl
          unfold lenV at hl
          cases v <;> simp only [V] at hv <;> try cases hl
          · exact absurd rfl (hne _)
          · subst hv
            have : ns = [] := by simpa using c5 rfl
            subst this
            rfl
          · obtain ⟨_, _, _, _, _, e, _⟩ := hv; exact fin _ _ e
          · obtain ⟨_, _, _, _, _, _, e, _⟩ := hv; exact fin _ _ e

theorem cvPU_ok {s : AV} {cv : Value} {kk : AV → RO} {src dst e : TypeId} {i : TypeInfo} (hr : Rel base φ H w) (h : cvPU s H kk = some r) (hv : V φ s cv) (hs : P.underlying src = some (.pointer e)) (hd : P.underlying dst = some .unsafePointer)
    (hi : P.info? e = some i) (hz : i.size ≠ 0) : ∃ u, kk u = some r ∧ V φ u cv ∧ (Conv.unsafePointer src dst cv).run P w = .ok cv w ∧ ∃ p, cv = .pointer p := by
  unfold cvPU at h
  cases s <;> simp only at h <;> try cases h
  · have hv' := hv
    simp only [V] at hv'
    subst hv'
    exact ⟨_, h, hv, by simp [Conv.unsafePointer, Sem.run_bind, Result.andThen, run_under hs, run_under hd], _, rfl⟩
  · rename_i b off
    have hv' := hv
    simp only [V] at hv'
    obtain ⟨B, sh, N, hφ, e1⟩ := hv'
    cases hg : H.objs.get b with
    | none => rw [hg] at h; cases h
    | some ob =>
      rw [hg] at h
      simp only at h
      cases hb : Nat.blt off (Nat.mul ob.n ob.es) with
      | false => rw [hb] at h; cases h
      | true =>
        rw [hb] at h
        simp only [cond_true] at h
        have hlt : off < ob.n * ob.es := blt_iff.1 hb
        have ho := hr.obj b ob B sh N hg hφ
        have hf := ho.fits
        refine ⟨_, h, hv, ?_, _, e1⟩
        have hlt' : ¬ N ≤ sh + off := by omega
        rw [e1]
        simp [Conv.unsafePointer, Sem.run_bind, Result.andThen, run_under hs, run_under hd, shape_seen ho.shape, cellsIn, ho.shape, run_size hi, hz, hlt']

theorem cvUP_ok {s : AV} {cv : Value} {kk : AV → RO} {src dst e : TypeId} {i : TypeInfo} (hr : Rel base φ H w) (h : cvUP e i.size s H kk = some r) (hv : V φ s cv) (hs : P.underlying src = some .unsafePointer) (hd : P.underlying dst = some (.pointer e))
    (hi : P.info? e = some i) (hz : i.size ≠ 0) : ∃ u, kk u = some r ∧ V φ u cv ∧ (Conv.unsafePointer src dst cv).run P w = .ok cv w ∧ ∃ p, cv = .pointer p := by
  unfold cvUP at h
  cases s <;> simp only at h <;> try cases h
  · have hv' := hv
    simp only [V] at hv'
    subst hv'
    exact ⟨_, h, hv, by simp [Conv.unsafePointer, Sem.run_bind, Result.andThen, run_under hs, run_under hd], _, rfl⟩
  · rename_i b off
    have hv' := hv
    simp only [V] at hv'
    obtain ⟨B, sh, N, hφ, e1⟩ := hv'
    cases hg : H.objs.get b with
    | none => rw [hg] at h; cases h
    | some ob =>
      rw [hg] at h
      simp only at h
      cases hb : (ob.wh && Nat.beq ob.elem e && Nat.beq off 0 && Nat.beq ob.n 1 && Nat.beq ob.es i.size) with
      | false => rw [hb] at h; cases h
      | true =>
        rw [hb] at h
        simp only [cond_true] at h
        simp only [Bool.and_eq_true] at hb
        obtain ⟨⟨⟨⟨b1, b2⟩, b3⟩, b4⟩, b5⟩ := hb
        have q2 := Nat.eq_of_beq_eq_true b2
        have q3 := Nat.eq_of_beq_eq_true b3
        have q4 := Nat.eq_of_beq_eq_true b4
        have q5 := Nat.eq_of_beq_eq_true b5
        have ho := hr.obj b ob B sh N hg hφ
        obtain ⟨w1, w2⟩ := ho.whole b1
        have hsh := ho.shape
        rw [q2] at hsh
        rw [q4, q5, Nat.one_mul] at w2
        subst w1 q3
        refine ⟨_, h, hv, ?_, _, e1⟩
        have hc : P.cellsOf e = i.size := by simp [Program.cellsOf, hi]
        have hl := lies_whole hc hz
        have hdiv : N / P.cellsOf e = 1 := by rw [hc, w2]; exact Nat.div_self (Nat.pos_of_ne_zero hz)
        rw [e1]
        simp only [Nat.add_zero]
        simp [Conv.unsafePointer, Sem.run_bind, Result.andThen, run_under hs, run_under hd, shape_seen hsh, run_size hi, hz, variablesAt, hsh, hdiv, hl]

theorem convert_ok {src dst : TypeId} {x : Operand} (hop : o.op = .convert src dst x) (hg : GlobOK φ cf.ng) (he : EnvOK φ env a.tmps) (hr : Rel base φ H w) (h : opc P cf cl o.op env H k = some r) (hk : Cont base φ H w r k o a next) : o.wp P a w next Q := by
  rw [hop] at h
  simp only [opc] at h
  obtain ⟨v, h1, h2⟩ := ev_ok hg he h
  obtain ⟨s, hs, h3⟩ := unS_ok h1
  obtain ⟨d, hd, h4⟩ := unS_ok h3
  have E : ∀ {cv w'}, (convert src dst (a.eval x)).run P w = .ok cv w' → (execOp a.eval o).run P w = .ok (.value cv) w' := fun {cv w'} e => by
    simp [execOp, hop, Sem.run_bind, Result.andThen, e]
  cases d <;> simp only at h4 <;> try cases h4
  · rename_i kk
    unfold cvI at h4
    cases v <;> simp only at h4 <;> try cases h4
    rename_i k1 n
    simp only [V] at h2
    refine wp_val (w' := w) (cv := .int kk (kk.wrap n)) (E ?_) (hk.here hr h4 (by simp only [V]; rw [wrapF_eq]))
    rw [h2]
    simp [convert, Sem.run_bind, Result.andThen, run_under hs, run_under hd, Conv.intToInt]
  · cases s <;> simp only at h4 <;> try cases h4
    · unfold cvSame at h4
      cases v <;> simp only at h4 <;> try cases h4
      have h2' := h2
      simp only [V] at h2'
      refine wp_val (w' := w) (cv := a.eval x) (E ?_) (hk.here hr h4 h2)
      rw [h2']
      simp [convert, Sem.run_bind, Result.andThen, run_under hs, run_under hd]
    · rename_i e
      obtain ⟨ed, hed, h5⟩ := unS_ok h4
      cases ed <;> first | (cases h5; done) | skip
      rename_i kk
      cases kk <;> first | (cases h5; done) | skip
      obtain ⟨t, c1, ⟨b, l, c, c2⟩, c3⟩ := cvS_ok (P := P) hr h5 h2
      refine wp_val (w' := w) (cv := .string (bytes t)) (E ?_) (hk.here hr c1 (by simp only [V]))
      rw [c2] at c3 ⊢
      simp [convert, Sem.run_bind, Result.andThen, run_under hs, run_under hd, run_under hed, c3]
  · cases s <;> simp only at h4 <;> try cases h4
    rename_i e
    obtain ⟨i, hi, h5⟩ := szS_ok h4
    cases hb : Nat.beq i.size 0 with
    | true => rw [hb] at h5; cases h5
    | false =>
      rw [hb] at h5
      simp only [cond_false] at h5
      have hz : i.size ≠ 0 := fun e => by rw [e] at hb; cases hb
      obtain ⟨u, c1, c2, c3, p, c4⟩ := cvPU_ok (P := P) hr h5 h2 hs hd hi hz
      refine wp_val (w' := w) (cv := a.eval x) (E ?_) (hk.here hr c1 c2)
      rw [c4] at c3 ⊢
      simp [convert, Sem.run_bind, Result.andThen, run_under hs, run_under hd, c3]
  · cases s <;> simp only at h4 <;> try cases h4
    rename_i e
    obtain ⟨i, hi, h5⟩ := szS_ok h4
    cases hb : Nat.beq i.size 0 with
    | true => rw [hb] at h5; cases h5
    | false =>
      rw [hb] at h5
      simp only [cond_false] at h5
      have hz : i.size ≠ 0 := fun e => by rw [e] at hb; cases hb
      obtain ⟨u, c1, c2, c3, p, c4⟩ := cvUP_ok (P := P) hr h5 h2 hs hd hi hz
      refine wp_val (w' := w) (cv := a.eval x) (E ?_) (hk.here hr c1 c2)
      rw [c4] at c3 ⊢
      simp [convert, Sem.run_bind, Result.andThen, run_under hs, run_under hd, c3]
  · cases s <;> simp only at h4 <;> try cases h4
    rename_i e
    obtain ⟨ed, hed, h5⟩ := unS_ok h4
    cases ed <;> first | (cases h5; done) | skip
    rename_i kk
    cases kk <;> first | (cases h5; done) | skip
    obtain ⟨t, cu, w', c1, c2, c3⟩ := cvB_ok (P := P) hr h5 hk h2
    refine wp_val (w' := w') (cv := cu) (E ?_) c3
    rw [c1]
    simp [convert, Sem.run_bind, Result.andThen, run_under hs, run_under hd, run_under hed, c2]
end

end Go.Proofs.YtlpfhodieopmhaaGreatDoor.Ae

namespace Go.Proofs.YtlpfhodieopmhaaGreatDoor.Ae
open Go.RowKit

section
variable {P : Program} {cf : Cf} {cl : Caller} {base : Nat} {φ : Lay} {H : AH} {w : World} {o : Oper} {a : Act} {env : Env} {r : AV × AH} {next : Act → World → Prop} {Q : Exit → Act → World → Prop} {k : KV}

theorem setCells_append (B : Nat) : ∀ (vs us : List Value) (p : Nat) (w : World), w.setCells B p (vs ++ us) = (w.setCells B p vs).setCells B (p + vs.length) us
  | [], us, p, w => rfl
  | v :: vs, us, p, w => by
    simp only [List.cons_append, World.setCells, List.length_cons]
    rw [setCells_append B vs us (p + 1), show p + 1 + vs.length = p + (vs.length + 1) by omega]

theorem wrElems_spec {b B sh N size : Nat} (hφ : φ b = some (B, sh, N)) : ∀ {rs : List (List AV)} {H H' : AH} {w : World} {off : Nat} {vs : List Value}, Rel base φ H w → wrElems b size H off rs = some H' → VR φ size rs vs → (∀ v ∈ vs, v.oneCell' = true) →
    (∀ j, j < vs.length → (w.cell? ⟨B, sh + off + j, none⟩).isSome = true) ∧ (∀ j, j < vs.length → w.frozen? ⟨B, sh + off + j, none⟩ = false) ∧ Step base φ H w φ H' (w.setCells B (sh + off) vs)
  | [], H, H', w, off, vs, hr, h, hv, _ => by
    simp only [VR] at hv
    subst hv
    simp only [wrElems, Option.some.injEq] at h
    subst h
    exact ⟨fun j hj => absurd hj (by simp), fun j hj => absurd hj (by simp), Step.refl hr⟩
  | r1 :: rs, H, H', w, off, vs, hr, h, hv, h1 => by
    simp only [VR] at hv
    obtain ⟨us, ts, rfl, hl, hp, hrs⟩ := hv
    simp only [wrElems] at h
    cases hw : wrCells H b off size r1 with
    | none => rw [hw] at h; cases h
    | some H1 =>
      rw [hw] at h
      simp only at h
      obtain ⟨c1, c2, c3⟩ := wrCells_spec hr hφ hw hl (fun v hv => h1 v (List.mem_append_left _ hv)) hp
      obtain ⟨d1, d2, d3⟩ := wrElems_spec hφ c3.rel h hrs (fun v hv => h1 v (List.mem_append_right _ hv))
      have e : sh + Nat.add off size = sh + off + us.length := by rw [hl]; show sh + (off + size) = _; omega
      rw [e] at d1 d2 d3
      refine ⟨fun j hj => ?_, fun j hj => ?_, ?_⟩
      · by_cases hj' : j < size
        · exact c1 j hj'
        · have := d1 (j - us.length) (by simp at hj; omega)
          rw [show sh + off + us.length + (j - us.length) = sh + off + j by omega, World.cell?_setCells_out _ _ _ _ _ (fun _ _ => .inr (by show sh + off + us.length ≤ sh + off + j; omega))] at this
          exact this
      · by_cases hj' : j < size
        · exact c2 j hj'
        · have := d2 (j - us.length) (by simp at hj; omega)
          rw [show sh + off + us.length + (j - us.length) = sh + off + j by omega, World.frozen?_setCells] at this
          exact this
      · rw [setCells_append]
        exact c3.trans d3

theorem growBy_le (need : Nat) : ∀ (q c : Nat), Builtin.growBy need q c ≤ max c (need + (need + 768) / 4)
  | 0, c => Nat.le_max_left _ _
  | q + 1, c => by
    simp only [Builtin.growBy]
    split
    · exact Nat.le_max_left _ _
    · refine Nat.le_trans (growBy_le need q _) ?_
      have : c + (c + 768) / 4 ≤ need + (need + 768) / 4 := by omega
      omega

theorem next_le {need cap : Nat} (h : cap < need) : Builtin.nextslicecap need cap ≤ 2 * need + 1000 := by
  unfold Builtin.nextslicecap
  split
  · omega
  · split
    · omega
    · have := growBy_le need 4 cap
      omega

theorem nextBytes_le {need cap bytes : Nat} (h : cap < need) (hb : need * bytes ≤ 1048576) (h0 : 0 < need) : ¬ Builtin.nextslicecap need cap * bytes > 2 ^ 48 := by
  have h1 := next_le h
  have h2 : Builtin.nextslicecap need cap * bytes ≤ (2 * need + 1000) * bytes := Nat.mul_le_mul_right _ h1
  have h3 : bytes ≤ 1048576 := by
    have : 1 * bytes ≤ need * bytes := Nat.mul_le_mul_right _ h0
    omega
  have h4 : (2 * need + 1000) * bytes = 2 * (need * bytes) + 1000 * bytes := by rw [Nat.add_mul, Nat.mul_assoc]
  have h5 : (2 : Nat) ^ 48 = 281474976710656 := by decide
  omega

/-- What an append that grows makes: a new row. -/
theorem run_append_grow {ats : Array TypeId} {sT xT ty elem : TypeId} {i : TypeInfo} {z : Value} {xd : TypeDesc} {base' : Option Addr} {sLen sCap n : Nat} {cx : Value} {old new : List Value}
    (hs0 : ats[0]? = some sT) (hs1 : ats[1]? = some xT) (h1 : P.underlying sT = some (.slice elem)) (h2 : P.underlying xT = some xd) (h3 : ∀ k, xd ≠ .int k) (hi : P.info? elem = some i) (hz : i.zero = some z)
    (hn : (Builtin.lenOf cx).run P w = .ok n w) (ho : ∀ v : World, v.heap = w.heap → (Builtin.firstCells i.size sLen (.slice base' sLen sCap)).run P v = .ok old.toArray v) (hw : ∀ v : World, v.heap = w.heap → (Builtin.firstCells i.size n cx).run P v = .ok new.toArray v)
    (hgt : sCap < sLen + n) (hb : (sLen + n) * i.bytes ≤ 1048576) (hb0 : i.bytes ≠ 0) :
    ∃ newCap, sLen + n ≤ newCap ∧ (Builtin.append_ ats ty #[.slice base' sLen sCap, cx]).run P w =
      .ok (.slice (some ⟨w.heap.size, 0, none⟩) (sLen + n) newCap) (w.drew.alloc (.cells (old.toArray ++ new.toArray ++ Builtin.zeroCells z.cells (newCap - (sLen + n))) elem)) := by
  refine ⟨(Question.appendCap (sLen + n) sCap elem).cut (w.tape w.drawn (.appendCap (sLen + n) sCap elem)), Nat.le_add_right _ _, ?_⟩
  have hnext := nextBytes_le hgt hb (by omega)
  have hzeros : (xd matches .int _) = false := by cases xd <;> first | rfl | exact absurd rfl (h3 _)
  have hle : ¬ (sLen + n ≤ sCap) := by omega
  have ho1 := ho w.drew rfl
  have hw1 := hw w.drew rfl
  unfold Builtin.append_
  simp only [hs0, hs1, List.getElem?_toArray, List.getElem?_cons_zero, List.getElem?_cons_succ, Sem.run_bind, run_under h1, run_under h2, Result.andThen, run_size hi, Sem.run_pure, hzeros, Bool.false_eq_true, if_false, hn, hle, run_info hi, hb0, or_false, and_false, hnext,
    run_choose_drew, Question.forced, askRoom, ho1, hw1, run_zero hi hz, newRow, run_newObj_alloc]
  have hask : ∀ m : Nat, (if m > roomBytes then mark Mark.noRoom else pure () : Sem Unit).run P w.drew = .ok () w.drew := fun m => by split <;> rfl
  simp only [hask, ho1, Bool.not_false, if_true, hw1]
  rfl


theorem run_append_room {ats : Array TypeId} {sT xT ty elem : TypeId} {i : TypeInfo} {xd : TypeDesc} {B p : Nat} {sLen sCap n : Nat} {cx : Value} {new : List Value}
    (hs0 : ats[0]? = some sT) (hs1 : ats[1]? = some xT) (h1 : P.underlying sT = some (.slice elem)) (h2 : P.underlying xT = some xd) (h3 : ∀ k, xd ≠ .int k) (hi : P.info? elem = some i)
    (hn : (Builtin.lenOf cx).run P w = .ok n w) (hw : (Builtin.firstCells i.size n cx).run P w = .ok new.toArray w) (hl : new.length = n * i.size) (hle : sLen + n ≤ sCap)
    (hc : ∀ j, j < new.length → (w.cell? ⟨B, p + sLen * i.size + j, none⟩).isSome = true) (hf : ∀ j, j < new.length → w.frozen? ⟨B, p + sLen * i.size + j, none⟩ = false) (h1c : ∀ v ∈ new, v.oneCell' = true) :
    (Builtin.append_ ats ty #[.slice (some ⟨B, p, none⟩) sLen sCap, cx]).run P w = .ok (.slice (some ⟨B, p, none⟩) (sLen + n) sCap) (w.setCells B (p + sLen * i.size) new) := by
  have hzeros : (xd matches .int _) = false := by cases xd <;> first | rfl | exact absurd rfl (h3 _)
  have hst := run_storeCells_cells (P := P) B (p + sLen * i.size) new 0 w (fun j hj => by simpa using hc j hj) (fun j hj => by simpa using hf j hj) h1c
  rw [Nat.add_zero] at hst
  unfold Builtin.append_
  simp only [hs0, hs1, List.getElem?_toArray, List.getElem?_cons_zero, List.getElem?_cons_succ, Sem.run_bind, run_under h1, run_under h2, Result.andThen, run_size hi, Sem.run_pure, hzeros, Bool.false_eq_true, if_false, hn, hle, if_true, Bool.not_false, hw, addr_add, hst]

theorem run_append_none {ats : Array TypeId} {sT xT ty elem : TypeId} {i : TypeInfo} {xd : TypeDesc} {cx : Value}
    (hs0 : ats[0]? = some sT) (hs1 : ats[1]? = some xT) (h1 : P.underlying sT = some (.slice elem)) (h2 : P.underlying xT = some xd) (h3 : ∀ k, xd ≠ .int k) (hi : P.info? elem = some i)
    (hn : (Builtin.lenOf cx).run P w = .ok 0 w) (hw : (Builtin.firstCells i.size 0 cx).run P w = .ok #[] w) (b : Option Addr) (c : Nat) :
    (Builtin.append_ ats ty #[.slice b 0 c, cx]).run P w = .ok (.slice b 0 c) w := by
  have hzeros : (xd matches .int _) = false := by cases xd <;> first | rfl | exact absurd rfl (h3 _)
  unfold Builtin.append_
  simp only [hs0, hs1, List.getElem?_toArray, List.getElem?_cons_zero, List.getElem?_cons_succ, Sem.run_bind, run_under h1, run_under h2, Result.andThen, run_size hi, Sem.run_pure, hzeros, Bool.false_eq_true, if_false, hn, Nat.add_zero, Nat.zero_le, if_true, Bool.not_false, hw]
  cases b <;> simp [storeCells, Sem.run_bind, Result.andThen]

theorem zeroCells_size (z : Array Value) (n : Nat) : (Builtin.zeroCells z n).size = n * z.size := by simp [Builtin.zeroCells]

theorem zeroCells_one {z : Array Value} {n : Nat} (h : ∀ u ∈ z.toList, u.oneCell' = true) (hz : z.size ≠ 0) : ∀ u ∈ (Builtin.zeroCells z n).toList, u.oneCell' = true := by
  intro u hu
  simp only [Builtin.zeroCells, Array.toList_map, List.mem_map] at hu
  obtain ⟨i, _, rfl⟩ := hu
  have hlt : i % z.size < z.size := Nat.mod_lt _ (Nat.pos_of_ne_zero hz)
  rw [getElem!_pos z _ hlt]
  exact h _ (Array.mem_toList_iff.2 (Array.getElem_mem _))

/-- The rows of what has grown. -/
theorem grownRows {ob : AObj} {B sh N off size len : Nat} {old new : List (List AV)} {vo vn : List Value} (hob : RelO φ w ob B sh N) (hold : rdElems ob size off len = some old) (hz : size ≠ 0)
    (hvo : VR φ size old vo) (hco : ∀ j v, vo[j]? = some v → w.cell? ⟨B, sh + off + j, none⟩ = some v) (hvn : VR φ size new vn) {q c : Nat} {row : List AV} {x : AV} {v : Value} (hq : q < len + new.length) (hc : c < size)
    (hg : (bif Nat.beq off 0 && Nat.beq ob.es size then putRows ob.rows len new else putRows .e 0 (old ++ new)).get q = some row) (hx : row[c]? = some x) (hv : (vo ++ vn)[q * size + c]? = some v) : V φ x v := by
  have hlen : old.length = len := by
    have : ∀ (n off : Nat) (rs : List (List AV)), rdElems ob size off n = some rs → rs.length = n := by
      intro n
      induction n with
      | zero => intro off rs h; simp only [rdElems, Option.some.injEq] at h; subst h; rfl
      | succ n ih =>
        intro off rs h
        simp only [rdElems] at h
        split at h
        · rename_i h2
          cases h
          simp [ih _ _ h2]
        · cases h
    exact this _ _ _ hold
  have hvl := hvo.length
  rw [hlen] at hvl
  cases hb : (Nat.beq off 0 && Nat.beq ob.es size) with
  | true =>
    rw [hb] at hg
    simp only [cond_true] at hg
    simp only [Bool.and_eq_true] at hb
    have e1 := Nat.eq_of_beq_eq_true hb.1
    have e2 := Nat.eq_of_beq_eq_true hb.2
    subst e1
    rw [putRows_get] at hg
    by_cases hlt : q < len
    · rw [if_neg (by omega)] at hg
      have hb1 : q * size + c < len * size := by
        have : (q + 1) * size ≤ len * size := Nat.mul_le_mul_right _ hlt
        rw [Nat.add_mul, Nat.one_mul] at this
        omega
      rw [List.getElem?_append_left (by omega)] at hv
      have hcell := hco _ v hv
      -- row q lies in the block
      have hqn : q < ob.n := by
        have : ∀ (n p : Nat) (rs : List (List AV)), rdElems ob size (p * size) n = some rs → ∀ m, m < n → p + m < ob.n := by
          intro n
          induction n with
          | zero => intro p rs _ m hm; omega
          | succ n ih =>
            intro p rs h m hm
            simp only [rdElems] at h
            split at h
            · rename_i r1 rs' h1 h2
              cases m with
              | zero =>
                unfold rdCells at h1
                cases hcc : (Nat.ble (Nat.add (Nat.mod (p * size) ob.es) size) ob.es && Nat.blt (Nat.div (p * size) ob.es) ob.n) with
                | false => rw [hcc] at h1; cases h1
                | true =>
                  simp only [Bool.and_eq_true, blt_iff] at hcc
                  have h3 : p * size / ob.es < ob.n := hcc.2
                  rw [e2, Nat.mul_div_cancel _ (Nat.pos_of_ne_zero hz)] at h3
                  omega
              | succ m =>
                have h2' : rdElems ob size ((p + 1) * size) n = some rs' := by
                  rw [show (p + 1) * size = Nat.add (p * size) size by show _ = p * size + size; rw [Nat.add_mul, Nat.one_mul]]
                  exact h2
                have := ih (p + 1) rs' h2' m (by omega)
                omega
            · cases h
        have := this len 0 old (by rw [Nat.zero_mul]; exact hold) q hlt
        omega
      refine hob.holds q row c x v hqn (by omega) hg hx ?_
      rw [e2]
      rw [show sh + (q * size + c) = sh + 0 + (q * size + c) by omega]
      exact hcell
    · rw [if_pos (by omega)] at hg
      rw [List.getElem?_append_right (by
        have : len * size ≤ q * size := Nat.mul_le_mul_right _ (by omega)
        omega)] at hv
      refine hvn.get hg hx hc ?_
      rw [hvl] at hv
      have : q * size + c - len * size = (q - len) * size + c := by
        have : q * size = (q - len) * size + len * size := by rw [← Nat.add_mul]; congr 1; omega
        omega
      rwa [this] at hv
  | false =>
    rw [hb] at hg
    simp only [cond_false] at hg
    rw [putRows_get] at hg
    simp only [Nat.zero_le, true_and, Nat.zero_add, Nat.sub_zero] at hg
    rw [if_pos (by simp [hlen]; exact hq)] at hg
    exact (hvo.append hvn).get hg hx hc hv

theorem Rel.pres {φ : Lay} {H : AH} {w : World} {b B sh N : Nat} {ob : AObj} (h : Rel base φ H w) (hg : H.objs.get b = some ob) (hφ : φ b = some (B, sh, N)) : RelO φ w ob B sh N := h.obj b ob B sh N hg hφ

theorem Step.dead {b : Nat} (h : Rel base φ H w) (hφ : φ b ≠ none) : Step base φ H w φ (kill H b) w := by
  have old : ∀ {c p}, (kill H b).objs.get c = some p → H.objs.get c = some p := fun {c p} h1 => by
    change (H.objs.set b none).get c = some p at h1
    rw [Tm.get_set] at h1
    split at h1
    · cases h1
    · exact h1
  refine ⟨Lay.le_refl _, ⟨fun c p C s M h1 h2 => h.obj c p C s M (old h1) h2, fun c p C s M h1 h2 => h.own c p C s M (old h1) h2, fun c p d q C s M s' M' h1 h2 => h.inj c p d q C s M s' M' (old h1) (old h2),
    fun c hc => ?_, fun c p C s M h1 h2 => h.lt c p C s M (old h1) h2, h.base⟩, Below.refl _ _, Nat.le_refl _, fun c hc h0 => ⟨h0, ?_⟩⟩
  · have := h.next c hc
    refine ⟨?_, this.2⟩
    show (H.objs.set b none).get c = none
    rw [Tm.get_set]
    split
    · rfl
    · exact this.1
  · show (H.objs.set b none).get c = H.objs.get c
    rw [Tm.get_set, if_neg (fun e => hφ (by rw [← e]; exact h0))]

/-- What was appended lies where there was room. -/
theorem inplace {b B sh N p size len n : Nat} {ob : AObj} {rows : Tm (List AV)} {vo vn : List Value} (hr : Rel base φ H w) (hg : H.objs.get b = some ob) (hφ : φ b = some (B, sh, N)) (hro : ob.ro = false) (hfz : ob.fz = 0) (hp : sh ≤ p)
    (hvo : vo.length = len * size) (hvn : vn.length = n * size) (hco : ∀ j u, vo[j]? = some u → w.cell? ⟨B, p + j, none⟩ = some u) (h1 : ∀ u ∈ vn, u.oneCell' = true) (hN : p + (len + n) * size ≤ N)
    (hrows : ∀ q row c y v, q < len + n → c < size → rows.get q = some row → row[c]? = some y → (vo ++ vn)[q * size + c]? = some v → V φ y v) :
    (∀ j, j < vn.length → (w.cell? ⟨B, p + len * size + j, none⟩).isSome = true) ∧ (∀ j, j < vn.length → w.frozen? ⟨B, p + len * size + j, none⟩ = false) ∧
    Step base φ H w (φ.set H.next (B, p, N)) ⟨(H.objs.set b none).set H.next (some ⟨rows, len + n, size, ob.elem, false, 0, false⟩), H.next.succ⟩ (w.setCells B (p + len * size) vn) := by
  have hob := hr.obj b ob B sh N hg hφ
  have hmul : (len + n) * size = len * size + n * size := Nat.add_mul _ _ _
  have s1 : ∀ j, j < vn.length → (w.cell? ⟨B, p + len * size + j, none⟩).isSome = true := fun j hj => by
    obtain ⟨v, hv, _⟩ := hob.cell (p + len * size + j) (by omega)
    rw [hv]; rfl
  have s2 : ∀ i, sh ≤ i → i < N → w.frozen? ⟨B, i, none⟩ = false := fun i h2 h3 => by
    have := hob.free hro (i - sh) (by omega) (by omega)
    rwa [show sh + (i - sh) = i by omega] at this
  have inn := World.cell?_setCells_in B vn (p + len * size) w s1
  have out : ∀ i, i < p + len * size ∨ p + len * size + vn.length ≤ i → (w.setCells B (p + len * size) vn).cell? ⟨B, i, none⟩ = w.cell? ⟨B, i, none⟩ := fun i hi =>
    World.cell?_setCells_out B vn (p + len * size) w ⟨B, i, none⟩ (fun _ _ => hi)
  refine ⟨s1, fun j hj => s2 _ (by omega) (by omega), Step.again hr hg hφ hro (fun C hC => heap_setCells B _ _ _ _ hC) (below_setCells (hr.own b ob B sh N hg hφ hro) _ _ _) ?_⟩
  refine ⟨?_, fun i hi => ?_, hN, fun q row c y v q1 q2 q3 q4 q5 => ?_, (fun e => by cases e), fun _ i _ hi => ?_⟩
  · rw [shape_setCells]; exact hob.shape
  · by_cases hin : p + len * size ≤ i ∧ i < p + len * size + vn.length
    · obtain ⟨h2, h3⟩ := hin
      have := inn (i - (p + len * size)) (by omega)
      rw [show p + len * size + (i - (p + len * size)) = i by omega] at this
      exact ⟨_, this, h1 _ (List.getElem_mem _)⟩
    · rw [out i (by omega)]
      exact hob.cell i hi
  · have q1' : q < len + n := q1
    have q2' : c < size := q2
    have q3' : rows.get q = some row := q3
    have q5' : (w.setCells B (p + len * size) vn).cell? ⟨B, p + (q * size + c), none⟩ = some v := q5
    refine (hrows q row c y v q1' q2' q3' q4 ?_).mono (Lay.le_set (hr.next _ (Nat.le_refl _)).2)
    have hlt : q * size + c < (len + n) * size := by
      have : (q + 1) * size ≤ (len + n) * size := Nat.mul_le_mul_right _ q1'
      rw [Nat.add_mul, Nat.one_mul] at this
      omega
    by_cases hj : q * size + c < len * size
    · rw [out _ (by omega)] at q5'
      rw [List.getElem?_append_left (by omega), List.getElem?_eq_getElem (by omega)]
      have := hco (q * size + c) _ (List.getElem?_eq_getElem (by omega))
      rw [q5'] at this
      exact this.symm
    · have := inn (q * size + c - len * size) (by omega)
      rw [show p + len * size + (q * size + c - len * size) = p + (q * size + c) by omega, q5'] at this
      rw [List.getElem?_append_right (by omega), hvo, List.getElem?_eq_getElem (by omega)]
      exact this.symm
  · have hi' : p + i < N := hi
    rw [World.frozen?_setCells]
    exact s2 (p + i) (by omega) hi'

theorem Cont.step {φ' : Lay} {H' : AH} {w' : World} (hk : Cont base φ H w r k o a next) (hs : Step base φ H w φ' H' w') : Cont base φ' H' w' r k o a next :=
  fun v H'' φ'' w'' cv h1 h2 h3 => hk v H'' φ'' w'' cv h1 (hs.trans h2) h3

theorem apP_ok {ats : Array TypeId} {sT xT ty elem : TypeId} {i : TypeInfo} {z : Value} {za : AV} {xd : TypeDesc} {s x : AV} {cs cx : Value} (hs0 : ats[0]? = some sT) (hs1 : ats[1]? = some xT)
    (h1 : P.underlying sT = some (.slice elem)) (h2 : P.underlying xT = some xd) (h3 : ∀ k, xd ≠ .int k) (hi : P.info? elem = some i) (hz : i.zero = some z) (hza : V φ za z) (hzw : za.width = i.size)
    (hr : Rel base φ H w) (h : apP elem i.size i.bytes s x H k = some r) (hk : Cont base φ H w r k o a next) (hs : V φ s cs) (hx : V φ x cx) :
    ∃ cu w', (Builtin.append_ ats ty #[cs, cx]).run P w = .ok cu w' ∧ next (a.put o.dst cu) w' := by
  unfold apP at h
  cases hl : lenV x with
  | none => rw [hl] at h; cases h
  | some n =>
    rw [hl] at h
    simp only at h
    cases he : elemsV i.size n x H with
    | none => rw [he] at h; cases h
    | some new =>
      rw [he] at h
      simp only at h
      cases h0 : (Nat.beq i.size 0 || Nat.beq i.bytes 0) with
      | true => rw [h0] at h; cases h
      | false =>
        rw [h0] at h
        simp only [cond_false] at h
        simp only [Bool.or_eq_false_iff] at h0
        have hsz : i.size ≠ 0 := fun e => by rw [e] at h0; exact absurd h0.1 (by decide)
        have hby : i.bytes ≠ 0 := fun e => by rw [e] at h0; exact absurd h0.2 (by decide)
        have hn := len_ok (P := P) (w := w) hl hx
        obtain ⟨vn, n1, n2, n3, n4, n5, n6⟩ := elems_ok (P := P) hr he hx
        have hvl : vn.length = n * i.size := by rw [n1.length, n2]
        have hw' := n4
        obtain ⟨z1, z2, z3⟩ := hza.cells (by omega)
        -- a new row
        have grow : ∀ (bo : Option Addr) (sLen sCap need : Nat) (vo : List Value) (rows : Tm (List AV)) (H1 : AH), need = sLen + n → cs = .slice bo sLen sCap → vo.length = sLen * i.size → (∀ u ∈ vo, u.oneCell' = true) →
            (∀ v : World, v.heap = w.heap → (Builtin.firstCells i.size sLen (.slice bo sLen sCap)).run P v = .ok vo.toArray v) → sCap < need → need * i.bytes ≤ 1048576 →
            (∀ q row c y v, q < need → c < i.size → rows.get q = some row → row[c]? = some y → (vo ++ vn)[q * i.size + c]? = some v → V φ y v) →
            Step base φ H w φ H1 w →
            (newO false elem i.size need rows H1 k fun b => .slice b 0 need need i.size false) = some r →
            ∃ cu w', (Builtin.append_ ats ty #[cs, cx]).run P w = .ok cu w' ∧ next (a.put o.dst cu) w' := by
          intro bo sLen sCap need vo rows H1 hneed hcs hvo hvo1 hfo hgt hbb hrows hst hnew
          subst hneed
          obtain ⟨newCap, g1, g2⟩ := run_append_grow (ty := ty) hs0 hs1 h1 h2 h3 hi hz hn hfo hw' hgt hbb hby
          refine ⟨_, _, by rw [hcs]; exact g2, ?_⟩
          have hCs : (vo.toArray ++ vn.toArray ++ Builtin.zeroCells z.cells (newCap - (sLen + n))).size = newCap * i.size := by
            rw [Array.size_append, Array.size_append, zeroCells_size, z1, hzw, List.size_toArray, List.size_toArray, hvo, hvl, ← Nat.add_mul, ← Nat.add_mul]
            congr 1
            omega
          refine newO_ok hst.rel hnew (hk.step hst) (lo := 0) (hi := 0) ((Below.refl _ _).drew.alloc (Nat.le_refl _) _) (by show w.heap.size < (w.heap.push _).size; rw [Array.size_push]; omega) (heap_alloc_new w.drew _) ?_ ?_ (fun e => by cases e) (fun _ _ => by omega) ?_ ?_
          · intro u hu
            simp only [Array.toList_append, List.mem_append] at hu
            rcases hu with (hu | hu) | hu
            · exact hvo1 u (by simpa using hu)
            · exact n3 u (by simpa using hu)
            · exact zeroCells_one z2 (by omega) u hu
          · rw [hCs]
            exact Nat.mul_le_mul_right _ g1
          · intro ψ hle q row c y v q1 q2 q3 q4 q5
            refine (hrows q row c y v q1 q2 q3 q4 ?_).mono hle
            have hlt : q * i.size + c < (vo ++ vn).length := by
              rw [List.length_append, hvo, hvl, ← Nat.add_mul]
              have : (q + 1) * i.size ≤ (sLen + n) * i.size := Nat.mul_le_mul_right _ q1
              rw [Nat.add_mul, Nat.one_mul] at this
              omega
            rw [Array.getElem?_append_left (by simpa using hlt)] at q5
            simpa using q5
          · intro b ψ hb
            simp only [V]
            exact ⟨_, _, _, newCap, hb, rfl, g1, (fun e => by cases e), fun _ => by rw [hCs]; omega⟩
        have none0 : ∀ (bo : Option Addr) (c : Nat), cs = .slice bo 0 c → n = 0 → (Builtin.append_ ats ty #[cs, cx]).run P w = .ok cs w := fun bo c hcs h0 => by
          subst h0
          have hv0 : vn = [] := List.length_eq_zero_iff.1 (by rw [hvl]; simp)
          rw [hcs]
          exact run_append_none hs0 hs1 h1 h2 h3 hi hn (by have := hw' w rfl; rw [hv0] at this; exact this) bo c
        cases s <;> simp only at h <;> try cases h
        · simp only [V] at hs
          cases hb0 : Nat.beq n 0 with
          | true =>
            rw [hb0] at h
            simp only [cond_true] at h
            exact ⟨cs, w, none0 none 0 hs (Nat.eq_of_beq_eq_true hb0), hk.here hr h (by simp only [V]; exact hs)⟩
          | false =>
            rw [hb0] at h
            simp only [cond_false] at h
            have hn0 : n ≠ 0 := fun e => by rw [e] at hb0; cases hb0
            cases hbb : Nat.ble (Nat.mul n i.bytes) 1048576 with
            | false => rw [hbb] at h; cases h
            | true =>
              rw [hbb] at h
              simp only [cond_true] at h
              refine grow none 0 0 n [] (putRows .e 0 new) H (Nat.zero_add n).symm hs (by simp) (fun u hu => by simp at hu) (fun v _ => rfl) (by omega) (Nat.le_of_ble_eq_true hbb) (fun q row c y v q1 q2 q3 q4 q5 => ?_) (Step.refl hr) h
              rw [putRows_get, if_pos (by omega), Nat.sub_zero] at q3
              exact n1.get q3 q4 q2 (by simpa using q5)
        · rename_i b off len cap zz ex
          simp only [V] at hs
          obtain ⟨B, sh, N, c, hφ, hcs, hcap, hex, hroom⟩ := hs
          cases hzz : Nat.beq i.size zz with
          | false => rw [hzz] at h; cases h
          | true =>
            rw [hzz] at h
            simp only [Bool.not_true, cond_false] at h
            have ez := Nat.eq_of_beq_eq_true hzz
            cases hle : Nat.ble (Nat.add len n) cap with
            | true =>
              rw [hle] at h
              simp only [cond_true] at h
              have hle' : len + n ≤ cap := Nat.le_of_ble_eq_true hle
              cases hwr : wrElems b i.size H (Nat.add off (Nat.mul len i.size)) new with
              | none => rw [hwr] at h; cases h
              | some H1 =>
                rw [hwr] at h
                simp only at h
                obtain ⟨s1, s2, s3⟩ := wrElems_spec hφ hr hwr n1 n3
                have e : sh + Nat.add off (Nat.mul len i.size) = sh + off + len * i.size := by show sh + (off + len * i.size) = _; omega
                rw [e] at s1 s2 s3
                refine ⟨_, _, by rw [hcs]; exact run_append_room (ty := ty) hs0 hs1 h1 h2 h3 hi hn (hw' w rfl) hvl (by omega) s1 s2 n3, hk _ _ _ _ _ h s3 ?_⟩
                simp only [V]
                exact ⟨B, sh, N, c, hφ, rfl, hcap, hex, hroom⟩
            | false =>
              rw [hle] at h
              simp only [cond_false] at h
              have hgt : cap < len + n := by
                have : ¬ (len + n ≤ cap) := fun e => by
                  have := Nat.ble_eq_true_of_le e
                  rw [show Nat.ble (len + n) cap = Nat.ble (Nat.add len n) cap from rfl, hle] at this
                  cases this
                omega
              cases hbb : Nat.ble (Nat.mul (Nat.add len n) i.bytes) 1048576 with
              | false => rw [hbb] at h; cases h
              | true =>
                rw [hbb] at h
                simp only [cond_true] at h
                have hbb' : (len + n) * i.bytes ≤ 1048576 := Nat.le_of_ble_eq_true hbb
                unfold grown at h
                cases hg : H.objs.get b with
                | none => rw [hg] at h; cases h
                | some ob =>
                  rw [hg] at h
                  simp only at h
                  cases hdd : (!ex && (ob.ro || !(Nat.beq ob.fz 0) || !(Nat.beq ob.elem elem))) with
                  | true => rw [hdd] at h; cases h
                  | false =>
                    rw [hdd] at h
                    simp only [cond_false] at h
                    cases hrd : rdElems ob i.size off len with
                    | none => rw [hrd] at h; cases h
                    | some old =>
                      rw [hrd] at h
                      simp only at h
                      have hob := hr.obj b ob B sh N hg hφ
                      obtain ⟨vo, o1, o2, o3, o4, o5⟩ := rdElems_spec hob hrd
                      have hvol : vo.length = len * i.size := by rw [o1.length, o2]
                      have hfo : ∀ v : World, v.heap = w.heap → (Builtin.firstCells i.size len (.slice (some ⟨B, sh + off, none⟩) len c)).run P v = .ok vo.toArray v := fun v hv => by
                        have := run_loadCells_list (P := P) v ⟨B, sh + off, none⟩ vo (fun j u hu => by
                          rw [addr_add]
                          have := o3 j u hu
                          unfold World.cell? at this ⊢
                          rw [hv]
                          exact this)
                        rw [hvol] at this
                        exact this
                      have hrows : ∀ q row c' y v, q < len + n → c' < i.size → (bif Nat.beq off 0 && Nat.beq ob.es i.size then putRows ob.rows len new else putRows .e 0 (old ++ new)).get q = some row → row[c']? = some y → (vo ++ vn)[q * i.size + c']? = some v → V φ y v :=
                        fun q row c' y v q1 q2 q3 q4 q5 => grownRows hob hrd hsz o1 o3 n1 (by rw [n2]; exact q1) q2 q3 q4 q5
                      have hst : Step base φ H w φ (bif !ex then kill H b else H) w := by
                        cases ex with
                        | true => exact Step.refl hr
                        | false => exact Step.dead hr (by rw [hφ]; simp)
                      by_cases hc : c < len + n
                      · exact grow _ len c (Nat.add len n) vo _ _ rfl hcs hvol o4 hfo hc hbb' hrows hst h
                      · -- in place
                        cases ex with
                        | true => have := hex rfl; omega
                        | false =>
                          simp only [Bool.not_false, Bool.true_and, Bool.or_eq_false_iff, Bool.not_eq_false'] at hdd
                          obtain ⟨⟨d1, d2⟩, d3⟩ := hdd
                          have d2' := Nat.eq_of_beq_eq_true d2
                          have d3' := Nat.eq_of_beq_eq_true d3
                          have hroom' := hroom rfl
                          rw [← ez] at hroom'
                          have hin : (len + n) * i.size ≤ c * i.size := Nat.mul_le_mul_right _ (by omega)
                          have hmul : (len + n) * i.size = len * i.size + n * i.size := Nat.add_mul _ _ _
                          simp only [Bool.not_false, cond_true] at h
                          unfold newO at h
                          obtain ⟨s1, s2, s3⟩ := inplace (rows := bif Nat.beq off 0 && Nat.beq ob.es i.size then putRows ob.rows len new else putRows .e 0 (old ++ new)) (p := sh + off) hr hg hφ d1 d2' (by omega) hvol hvl o3 n3 (by omega) hrows
                          rw [d3'] at s3
                          refine ⟨_, _, by rw [hcs]; exact run_append_room (ty := ty) hs0 hs1 h1 h2 h3 hi hn (hw' w rfl) hvl (by omega) s1 s2 n3, hk _ _ _ _ _ h s3 ?_⟩
                          simp only [V]
                          exact ⟨B, sh + off, N, c, Lay.set_same _ _ _, rfl, by show len + n ≤ c; omega, (fun e => by cases e), fun _ => by omega⟩
        · rename_i b zz
          simp only [V] at hs
          obtain ⟨B, sh, N, oo, c, hφ, hcs, hoo, hroom⟩ := hs
          cases hb0 : Nat.beq n 0 with
          | true =>
            rw [hb0] at h
            simp only [cond_true] at h
            exact ⟨cs, w, none0 _ c hcs (Nat.eq_of_beq_eq_true hb0), hk.here hr h (by simp only [V]; exact ⟨B, sh, N, oo, c, hφ, hcs, hoo, hroom⟩)⟩
          | false =>
            rw [hb0] at h
            simp only [cond_false] at h
            have hn0 : n ≠ 0 := fun e => by rw [e] at hb0; cases hb0
            cases hbb : (Nat.ble (Nat.mul n i.bytes) 1048576 && Nat.beq i.size zz) with
            | false => rw [hbb] at h; cases h
            | true =>
              rw [hbb] at h
              simp only [cond_true] at h
              simp only [Bool.and_eq_true, Nat.ble_eq] at hbb
              have ez := Nat.eq_of_beq_eq_true hbb.2
              cases hg : H.objs.get b with
              | none => rw [hg] at h; cases h
              | some ob =>
                rw [hg] at h
                simp only at h
                cases hdd : (ob.ro || !(Nat.beq ob.fz 0) || !(Nat.beq ob.elem elem)) with
                | true => rw [hdd] at h; cases h
                | false =>
                  rw [hdd] at h
                  simp only [cond_false] at h
                  simp only [Bool.or_eq_false_iff, Bool.not_eq_false'] at hdd
                  obtain ⟨⟨d1, d2⟩, d3⟩ := hdd
                  have d2' := Nat.eq_of_beq_eq_true d2
                  have d3' := Nat.eq_of_beq_eq_true d3
                  rw [← ez] at hroom
                  have hrows : ∀ q row c' y v, q < n → c' < i.size → (putRows .e 0 new).get q = some row → row[c']? = some y → (([] : List Value) ++ vn)[q * i.size + c']? = some v → V φ y v := fun q row c' y v q1 q2 q3 q4 q5 => by
                    rw [putRows_get, if_pos (by omega), Nat.sub_zero] at q3
                    exact n1.get q3 q4 q2 (by simpa using q5)
                  by_cases hc : c < n
                  · exact grow _ 0 c n [] _ _ (Nat.zero_add n).symm hcs (by simp) (fun u hu => by simp at hu) (fun v _ => by
                      show (loadCells _ (0 * i.size)).run P v = _
                      rw [Nat.zero_mul]
                      rfl) hc hbb.1 hrows (Step.dead hr (by rw [hφ]; simp)) h
                  · unfold newO at h
                    have hin : n * i.size ≤ c * i.size := Nat.mul_le_mul_right _ (by omega)
                    obtain ⟨s1, s2, s3⟩ := inplace (rows := putRows .e 0 new) (p := oo) (len := 0) (n := n) (vo := []) hr hg hφ d1 d2' hoo (by simp) hvl (fun j u hu => by simp at hu) n3 (by rw [Nat.zero_add]; omega) (by rw [Nat.zero_add]; exact hrows)
                    rw [d3'] at s3
                    rw [Nat.zero_add] at s3
                    refine ⟨_, _, by rw [hcs]; exact run_append_room (ty := ty) (sLen := 0) hs0 hs1 h1 h2 h3 hi hn (hw' w rfl) hvl (by omega) s1 s2 n3, hk _ _ _ _ _ h s3 ?_⟩
                    simp only [V]
                    exact ⟨B, oo, N, c, Lay.set_same _ _ _, by rw [Nat.zero_add]; rfl, by omega, (fun e => by cases e), fun _ => by omega⟩
end

end Go.Proofs.YtlpfhodieopmhaaGreatDoor.Ae

namespace Go.Proofs.YtlpfhodieopmhaaGreatDoor.Ae
open Go.RowKit

section
variable {P : Program} {cf : Cf} {cl : Caller} {base : Nat} {φ : Lay} {H : AH} {w : World} {o : Oper} {a : Act} {env : Env} {r : AV × AH} {next : Act → World → Prop} {Q : Exit → Act → World → Prop} {k : KV}

/-- A part's cells put into others. -/
def putAt (cells : Array Value) (off : Nat) (vs : Array Value) : Array Value := vs.zipIdx.foldl (fun cs (c, j) => cs.setIfInBounds (off + j) c) cells

theorem putAt_get (cells : Array Value) (off : Nat) (vs : Array Value) (h : off + vs.size ≤ cells.size) (i : Nat) :
    (putAt cells off vs)[i]? = if off ≤ i ∧ i < off + vs.size then vs[i - off]? else cells[i]? := by
  have key : ∀ (l : List Value) (s : Nat) (cs : Array Value), off + s + l.length ≤ cs.size →
      (l.zipIdx s |>.foldl (fun cs (c, j) => cs.setIfInBounds (off + j) c) cs)[i]? = if off + s ≤ i ∧ i < off + s + l.length then l[i - (off + s)]? else cs[i]? := by
    intro l
    induction l with
    | nil => intro s cs _; simp; omega
    | cons v l ih =>
      intro s cs hl
      simp only [List.length_cons] at hl
      rw [List.zipIdx_cons, List.foldl_cons, ih (s + 1) _ (by simp; omega)]
      by_cases h1 : off + (s + 1) ≤ i ∧ i < off + (s + 1) + l.length
      · rw [if_pos h1, if_pos (by simp only [List.length_cons]; omega), show i - (off + s) = (i - (off + (s + 1))) + 1 by omega]
        simp
      · rw [if_neg h1]
        by_cases h2 : i = off + s
        · subst h2
          rw [if_pos (by simp only [List.length_cons]; omega), Nat.sub_self, Array.getElem?_setIfInBounds_self_of_lt (by omega)]
          rfl
        · rw [if_neg (by simp only [List.length_cons]; omega), Array.getElem?_setIfInBounds_ne (by omega)]
  unfold putAt
  rw [← Array.foldl_toList, Array.toList_zipIdx]
  have := key vs.toList 0 cells (by simpa using h)
  simpa using this

theorem putAt_size (cells : Array Value) (off : Nat) (vs : Array Value) : (putAt cells off vs).size = cells.size := by
  unfold putAt
  rw [← Array.foldl_toList]
  have : ∀ (l : List (Value × Nat)) (cs : Array Value), (l.foldl (fun cs (c, j) => cs.setIfInBounds (off + j) c) cs).size = cs.size := by
    intro l
    induction l with
    | nil => intro cs; rfl
    | cons x l ih => intro cs; rw [List.foldl_cons, ih]; simp
  exact this _ _

theorem putAt_mem {cells : Array Value} {off : Nat} {vs : Array Value} (h : off + vs.size ≤ cells.size) (h1 : ∀ u ∈ cells.toList, u.oneCell' = true) (h2 : ∀ u ∈ vs.toList, u.oneCell' = true) : ∀ u ∈ (putAt cells off vs).toList, u.oneCell' = true := by
  intro u hu
  obtain ⟨i, hi⟩ := List.getElem?_of_mem hu
  rw [Array.getElem?_toList, putAt_get cells off vs h] at hi
  split at hi
  · exact h2 u (Array.mem_toList_iff.2 (Array.mem_of_getElem? hi))
  · exact h1 u (Array.mem_toList_iff.2 (Array.mem_of_getElem? hi))

theorem fill_cons (place : Nat → Option (Nat × Nat)) (cells : Array Value) (i off size : Nat) (v : Value) (rest : List (Nat × Value)) (hp : place i = some (off, size)) (hs : v.cells.size = size) (hb : off + size ≤ cells.size) :
    Instr.fill place cells ((i, v) :: rest) = Instr.fill place (putAt cells off v.cells) rest := by
  simp only [Instr.fill, hp]
  rw [if_neg (by simp; omega)]
  rfl

/-- Parts, with their places. -/
def VPt (φ : Lay) (place : Nat → Option (Nat × Nat)) : List (Nat × Nat × AV) → List (Nat × Value) → Prop
  | [], l => l = []
  | (off, size, x) :: as, l => ∃ i v vs, l = (i, v) :: vs ∧ place i = some (off, size) ∧ V φ x v ∧ VPt φ place as vs

theorem fillP_ok {place : Nat → Option (Nat × Nat)} {n : Nat} : ∀ {ps : List (Nat × Nat × AV)} {l l' : List AV} {vs : List (Nat × Value)} {cells : Array Value}, fillP n ps l = some l' → VPt φ place ps vs → cells.size = n → (∀ u ∈ cells.toList, u.oneCell' = true) → VP φ l cells.toList →
    ∃ cells', Instr.fill place cells vs = some cells' ∧ cells'.size = n ∧ (∀ u ∈ cells'.toList, u.oneCell' = true) ∧ VP φ l' cells'.toList
  | [], l, l', vs, cells, h, hv, hs, h1, hp => by
    simp only [VPt] at hv
    subst hv
    simp only [fillP, Option.some.injEq] at h
    subst h
    exact ⟨cells, rfl, hs, h1, hp⟩
  | (off, size, x) :: ps, l, l', vs, cells, h, hv, hs, h1, hp => by
    simp only [VPt] at hv
    obtain ⟨i, v, vs, rfl, hpl, hx, hvs⟩ := hv
    simp only [fillP] at h
    cases hb : (Nat.beq x.width size && !(Nat.beq size 0) && Nat.ble (Nat.add off size) n) with
    | false => rw [hb] at h; cases h
    | true =>
      rw [hb] at h
      simp only [cond_true] at h
      simp only [Bool.and_eq_true, Bool.not_eq_true', Nat.ble_eq] at hb
      obtain ⟨⟨b1, b2⟩, b3⟩ := hb
      have e1 := Nat.eq_of_beq_eq_true b1
      have hz : size ≠ 0 := fun e => by rw [e] at b2; cases b2
      have b3' : off + size ≤ n := b3
      obtain ⟨c1, c2, c3⟩ := hx.cells (by omega)
      have hfit : off + v.cells.size ≤ cells.size := by omega
      rw [fill_cons place cells i off size v vs hpl (c1.trans e1) (by omega)]
      refine fillP_ok h hvs (by rw [putAt_size]; exact hs) (putAt_mem hfit h1 c2) (VP.of fun j y u hy hu => ?_)
      rw [Array.getElem?_toList, putAt_get cells off v.cells hfit] at hu
      rw [splice_get] at hy
      have one : u.oneCell' = true := by
        split at hu
        · exact c2 u (Array.mem_toList_iff.2 (Array.mem_of_getElem? hu))
        · exact h1 u (Array.mem_toList_iff.2 (Array.mem_of_getElem? hu))
      by_cases g1 : j < off
      · rw [if_pos g1, Option.some.injEq] at hy
        rw [if_neg (by omega)] at hu
        cases hl : l[j]? with
        | none => simp [List.getD, hl] at hy; subst hy; simpa only [V] using one
        | some y' =>
          simp [List.getD, hl] at hy
          subst hy
          exact hp.get hl (by simpa using hu)
      · rw [if_neg g1] at hy
        by_cases g2 : j < off + size
        · rw [if_pos g2, Option.some.injEq] at hy
          rw [if_pos (by omega)] at hu
          cases hl : x.cells[j - off]? with
          | none => simp [List.getD, hl] at hy; subst hy; simpa only [V] using one
          | some y' =>
            simp [List.getD, hl] at hy
            subst hy
            exact c3.get hl (by simpa using hu)
        · rw [if_neg g2] at hy
          rw [if_neg (by omega)] at hu
          exact hp.get hy (by simpa using hu)

theorem places_ok {pl : List (Nat × Nat)} {place : Nat → Option (Nat × Nat)} (hpl : ∀ i, place i = nth pl i) : ∀ {ps : List (Nat × AV)} {q : List (Nat × Nat × AV)} {vs : List (Nat × Value)}, placesS pl ps = some q → VN φ ps vs → VPt φ place q vs
  | [], q, vs, h, hv => by
    simp only [placesS, Option.some.injEq] at h
    subst h
    exact hv
  | (i, x) :: ps, q, vs, h, hv => by
    obtain ⟨v, vs, rfl, hx, hvs⟩ := hv
    simp only [placesS] at h
    cases h1 : nth pl i with
    | none => rw [h1] at h; cases h
    | some os =>
      obtain ⟨off, size⟩ := os
      rw [h1] at h
      simp only at h
      cases h2 : placesS pl ps with
      | none => rw [h2] at h; cases h
      | some l =>
        rw [h2] at h
        cases h
        exact ⟨i, v, vs, rfl, by rw [hpl, h1], hx, places_ok hpl h2 hvs⟩

theorem placesA_ok {size : Nat} : ∀ {ps : List (Nat × AV)} {vs : List (Nat × Value)}, VN φ ps vs → VPt φ (fun i => some (i * size, size)) (placesA size ps) vs
  | [], vs, hv => hv
  | (i, x) :: ps, vs, hv => by
    obtain ⟨v, vs, rfl, hx, hvs⟩ := hv
    exact ⟨i, v, vs, rfl, rfl, hx, placesA_ok hvs⟩

theorem run_places (w : World) : ∀ {fs : List Field} {pl : List (Nat × Nat)}, plS P fs = some pl → (fs.mapM fun f => do pure (f.offset, ← sizeOf f.type) : Sem (List (Nat × Nat))).run P w = .ok pl w
  | [], pl, h => by
    simp only [plS, Option.some.injEq] at h
    subst h
    rfl
  | f :: fs, pl, h => by
    simp only [plS] at h
    cases hi : P.info? f.type with
    | none => rw [hi] at h; cases h
    | some i =>
      rw [hi] at h
      simp only at h
      cases hr : plS P fs with
      | none => rw [hr] at h; cases h
      | some l =>
        rw [hr] at h
        cases h
        have ih := run_places w hr
        simp only [List.mapM_cons, Sem.run_bind, Result.andThen, run_size hi, Sem.run_pure, ih]

theorem bdP_ok {n : Nat} {zero : List AV} {ps : List (Nat × Nat × AV)} {kk : AV → RO} {place : Nat → Option (Nat × Nat)} {vs : List (Nat × Value)} {cells : Array Value} (h : bdP n zero ps kk = some r) (hv : VPt φ place ps vs) (hs : n ≠ 0 → cells.size = n ∧ (∀ u ∈ cells.toList, u.oneCell' = true) ∧ VP φ zero cells.toList) :
    ∃ v cells', kk v = some r ∧ Instr.fill place cells vs = some cells' ∧ V φ v (.agg cells') := by
  unfold bdP at h
  cases hz : Nat.beq n 0 with
  | true => rw [hz] at h; cases h
  | false =>
    rw [hz] at h
    simp only [cond_false] at h
    obtain ⟨hs, h1, hp⟩ := hs (fun e => by rw [e] at hz; cases hz)
    cases hf : fillP n ps zero with
    | none => rw [hf] at h; cases h
    | some l =>
      rw [hf] at h
      obtain ⟨cells', c1, c2, c3, c4⟩ := fillP_ok hf hv hs h1 hp
      exact ⟨_, cells', h, c1, by simp only [V]; exact ⟨cells', rfl, c2, c3, c4⟩⟩

theorem build_ok {t : TypeId} {parts : Array (Nat × Operand)} (hop : o.op = .build t parts) (hg : GlobOK φ cf.ng) (he : EnvOK φ env a.tmps) (hr : Rel base φ H w) (h : opc P cf cl o.op env H k = some r) (hk : Cont base φ H w r k o a next) : o.wp P a w next Q := by
  rw [hop] at h
  simp only [opc] at h
  obtain ⟨ps, h1, h2⟩ := evP_ok hg he h
  obtain ⟨i, z, za, h3, h4, h5, h6, h7⟩ := zeS_ok φ h1
  obtain ⟨td, hd, h8⟩ := unS_ok h7
  have hparts : (parts.map fun (i, x) => (i, a.eval x)).toList = parts.toList.map fun (i, x) => (i, a.eval x) := by simp
  have hzz : i.size ≠ 0 → z.cells.size = i.size ∧ (∀ u ∈ z.cells.toList, u.oneCell' = true) ∧ VP φ za.cells z.cells.toList := fun hz => by
    obtain ⟨z1, z2, z3⟩ := h5.cells (by omega)
    exact ⟨z1.trans h6, z2, z3⟩
  cases td <;> simp only at h8 <;> try cases h8
  · rename_i n elem
    obtain ⟨j, hj, h9⟩ := szS_ok h8
    obtain ⟨v, cells', c1, c2, c3⟩ := bdP_ok h9 (placesA_ok h2) hzz
    refine wp_val (w' := w) (cv := .agg cells') ?_ (hk.here hr c1 c3)
    simp only [execOp, hop, Instr.build, Sem.run_bind, Result.andThen, run_zero h3 h4, run_under hd, run_size hj, hparts, c2, Sem.run_pure]
  · rename_i fs
    cases hpl : plS P fs.toList with
    | none => rw [hpl] at h8; cases h8
    | some pl =>
      rw [hpl] at h8
      simp only at h8
      cases hq : placesS pl ps with
      | none => rw [hq] at h8; cases h8
      | some q =>
        rw [hq] at h8
        simp only at h8
        have hplace : ∀ i, (pl.toArray[·]? : Nat → Option (Nat × Nat)) i = nth pl i := fun i => by rw [nth_eq]; simp
        obtain ⟨v, cells', c1, c2, c3⟩ := bdP_ok h8 (places_ok hplace hq h2) hzz
        refine wp_val (w' := w) (cv := .agg cells') ?_ (hk.here hr c1 c3)
        have hm : (fs.mapM fun f => do pure (f.offset, ← sizeOf f.type) : Sem (Array (Nat × Nat))).run P w = .ok pl.toArray w := by
          rw [Array.mapM_eq_mapM_toList]
          simp only [Sem.run_map, run_places w hpl, Result.andThen]
        simp only [execOp, hop, Instr.build, Sem.run_bind, Result.andThen, run_zero h3 h4, run_under hd, hm, hparts, c2, Sem.run_pure]

/-! ### Slices that are built -/
theorem rowsOf_ok {zero : List AV} {size : Nat} (hz : size ≠ 0) : ∀ {n i : Nat} {ps : List (Nat × AV)} {rs : List (List AV)} {vs : List (Nat × Value)} {cells : Array Value}, rowsOf zero size n i ps = some rs → VN φ ps vs → cells.size = (i + n) * size → (∀ u ∈ cells.toList, u.oneCell' = true) →
    (∀ q c x v, i ≤ q → c < size → zero[c]? = some x → cells[q * size + c]? = some v → V φ x v) →
    ∃ cells', Instr.fill (fun i => some (i * size, size)) cells vs = some cells' ∧ cells'.size = cells.size ∧ (∀ u ∈ cells'.toList, u.oneCell' = true) ∧ (∀ k, k < i * size → cells'[k]? = cells[k]?) ∧ rs.length = n ∧
      (∀ q row c x v, i ≤ q → c < size → rs[q - i]? = some row → row[c]? = some x → cells'[q * size + c]? = some v → V φ x v)
  | 0, i, ps, rs, vs, cells, h, hv, hs, h1, hzero => by
    cases ps with
    | cons p ps => simp [rowsOf] at h
    | nil =>
      simp only [rowsOf, Option.some.injEq] at h
      subst h
      simp only [VN] at hv
      subst hv
      exact ⟨cells, rfl, rfl, h1, fun _ _ => rfl, rfl, fun q row c x v _ _ h => by simp at h⟩
  | n + 1, i, ps, rs, vs, cells, h, hv, hs, h1, hzero => by
    have skip : ∀ {ps : List (Nat × AV)} {rs' : List (List AV)}, rowsOf zero size n (Nat.succ i) ps = some rs' → VN φ ps vs → rs = zero :: rs' → 
        ∃ cells', Instr.fill (fun i => some (i * size, size)) cells vs = some cells' ∧ cells'.size = cells.size ∧ (∀ u ∈ cells'.toList, u.oneCell' = true) ∧ (∀ k, k < i * size → cells'[k]? = cells[k]?) ∧ rs.length = n + 1 ∧
          (∀ q row c x v, i ≤ q → c < size → rs[q - i]? = some row → row[c]? = some x → cells'[q * size + c]? = some v → V φ x v) := by
      intro ps rs' hh hv' e
      subst e
      obtain ⟨cells', c1, c2, c3, c4, c5, c6⟩ := rowsOf_ok hz hh hv' (by rw [hs]; congr 1; show i + (n + 1) = i + 1 + n; omega) h1 (fun q c x v hq => hzero q c x v (by have : i + 1 ≤ q := hq; omega))
      have e1 : Nat.succ i * size = i * size + size := by show (i + 1) * size = _; rw [Nat.add_mul, Nat.one_mul]
      refine ⟨cells', c1, c2, c3, fun k hk => c4 k (by omega), by simp [c5], fun q row c x v hq hc hr hx hcell => ?_⟩
      by_cases e : q = i
      · subst e
        rw [Nat.sub_self] at hr
        simp at hr
        subst hr
        rw [c4 _ (by omega)] at hcell
        exact hzero q c x v (Nat.le_refl _) hc hx hcell
      · rw [show q - i = (q - Nat.succ i) + 1 by show q - i = q - (i + 1) + 1; omega, List.getElem?_cons_succ] at hr
        exact c6 q row c x v (by show i + 1 ≤ q; omega) hc hr hx hcell
    cases ps with
    | nil =>
      simp only [rowsOf] at h
      cases h2 : rowsOf zero size n (Nat.succ i) [] with
      | none => rw [h2] at h; cases h
      | some rs' =>
        rw [h2] at h
        simp only [Option.some.injEq] at h
        exact skip h2 hv h.symm
    | cons p ps =>
      obtain ⟨j, y⟩ := p
      simp only [rowsOf] at h
      cases hj : Nat.beq j i with
      | false =>
        rw [hj] at h
        simp only [cond_false] at h
        cases h2 : rowsOf zero size n (Nat.succ i) ((j, y) :: ps) with
        | none => rw [h2] at h; cases h
        | some rs' =>
          rw [h2] at h
          simp only [Option.some.injEq] at h
          exact skip h2 hv h.symm
      | true =>
        rw [hj] at h
        simp only [cond_true] at h
        cases hw : (Nat.beq y.width size && !(Nat.beq size 0)) with
        | false => rw [hw] at h; cases h
        | true =>
          rw [hw] at h
          simp only [cond_true] at h
          simp only [Bool.and_eq_true] at hw
          have e2 := Nat.eq_of_beq_eq_true hw.1
          have e3 := Nat.eq_of_beq_eq_true hj
          subst e3
          cases h2 : rowsOf zero size n (Nat.succ j) ps with
          | none => rw [h2] at h; cases h
          | some rs' =>
            rw [h2] at h
            simp only [Option.some.injEq] at h
            subst h
            simp only [VN] at hv
            obtain ⟨v, vs, rfl, hy, hvs⟩ := hv
            obtain ⟨y1, y2, y3⟩ := hy.cells (by omega)
            have e1 : Nat.succ j * size = j * size + size := by show (j + 1) * size = _; rw [Nat.add_mul, Nat.one_mul]
            have hfit : j * size + v.cells.size ≤ cells.size := by
              rw [hs, show j + (n + 1) = (j + 1) + n by omega, Nat.add_mul, Nat.add_mul, Nat.one_mul]
              omega
            obtain ⟨cells', c1, c2, c3, c4, c5, c6⟩ := rowsOf_ok (cells := putAt cells (j * size) v.cells) hz h2 hvs (by rw [putAt_size, hs]; congr 1; show j + (n + 1) = j + 1 + n; omega) (putAt_mem hfit h1 y2) (fun q c x u hq hc hx hu => by
              have hq' : (j + 1) * size ≤ q * size := Nat.mul_le_mul_right _ hq
              rw [putAt_get cells _ _ hfit, if_neg (by rw [Nat.add_mul, Nat.one_mul] at hq'; omega)] at hu
              exact hzero q c x u (by have : j + 1 ≤ q := hq; omega) hc hx hu)
            refine ⟨cells', ?_, by rw [c2, putAt_size], c3, fun k hk => ?_, by simp [c5], fun q row c x u hq hc hr hx hcell => ?_⟩
            · rw [fill_cons _ cells j (j * size) size v vs rfl (y1.trans e2) (by omega)]
              exact c1
            · rw [c4 k (by omega), putAt_get cells _ _ hfit, if_neg (by omega)]
            · by_cases e : q = j
              · subst e
                rw [Nat.sub_self] at hr
                simp at hr
                subst hr
                rw [c4 _ (by omega), putAt_get cells _ _ hfit, if_pos (by omega), Nat.add_sub_cancel_left] at hcell
                exact y3.get hx (by simpa using hcell)
              · rw [show q - j = (q - Nat.succ j) + 1 by show q - j = q - (j + 1) + 1; omega, List.getElem?_cons_succ] at hr
                exact c6 q row c x u (by show j + 1 ≤ q; omega) hc hr hx hcell

/-- Zeros. -/
def zeros (z : Array Value) (n : Nat) : Array Value := (Array.range n).map (z[· % z.size]!)

theorem zeros_get {z : Array Value} {n i : Nat} (hz : z.size ≠ 0) (h : i < n) : (zeros z n)[i]? = z[i % z.size]? := by
  have hlt : i % z.size < z.size := Nat.mod_lt _ (by omega)
  simp [zeros, h, hlt]

theorem zeros_size (z : Array Value) (n : Nat) : (zeros z n).size = n := by simp [zeros]

theorem zeros_mem {z : Array Value} {n : Nat} (hz : z.size ≠ 0) (h : ∀ u ∈ z.toList, u.oneCell' = true) : ∀ u ∈ (zeros z n).toList, u.oneCell' = true := by
  intro u hu
  obtain ⟨i, hi⟩ := List.getElem?_of_mem hu
  have hlt : i < n := by
    have := (List.getElem?_eq_some_iff.1 hi).1
    simpa [zeros_size] using this
  rw [Array.getElem?_toList, zeros_get hz hlt] at hi
  exact h u (Array.mem_toList_iff.2 (Array.mem_of_getElem? hi))

theorem zeros_row {z : Array Value} {zero : List AV} {size n q c : Nat} {x : AV} {v : Value} (hs : z.size = size) (hz : size ≠ 0) (hp : VP φ zero z.toList) (hc : c < size) (hx : zero[c]? = some x) (hv : (zeros z (n * size))[q * size + c]? = some v) : V φ x v := by
  have hlt : q * size + c < n * size := by
    have := (Array.getElem?_eq_some_iff.1 hv).1
    simpa [zeros_size] using this
  rw [zeros_get (by omega) hlt, hs, Nat.add_comm, Nat.add_mul_mod_self_right, Nat.mod_eq_of_lt hc] at hv
  exact hp.get hx (by simpa using hv)

theorem buildSlice_ok {t : TypeId} {len : Nat} {parts : Array (Nat × Operand)} (hop : o.op = .buildSlice t len parts) (hg : GlobOK φ cf.ng) (he : EnvOK φ env a.tmps) (hr : Rel base φ H w) (h : opc P cf cl o.op env H k = some r) (hk : Cont base φ H w r k o a next) : o.wp P a w next Q := by
  rw [hop] at h
  simp only [opc] at h
  obtain ⟨ps, h1, h2⟩ := evP_ok hg he h
  obtain ⟨td, hd, h3⟩ := unS_ok h1
  cases td <;> simp only at h3 <;> try cases h3
  rename_i elem
  obtain ⟨i, z, za, h4, h5, h6, h7, h8⟩ := zeS_ok φ h3
  unfold bsP at h8
  cases hrs : rowsOf za.cells i.size len 0 ps with
  | none => rw [hrs] at h8; cases h8
  | some rs =>
    rw [hrs] at h8
    simp only at h8
    cases hc : (Nat.beq i.size 0 || !(Nat.ble (Nat.mul len i.size) 16777216)) with
    | true => rw [hc] at h8; cases h8
    | false =>
      rw [hc] at h8
      simp only [cond_false] at h8
      simp only [Bool.or_eq_false_iff, Bool.not_eq_false', Nat.ble_eq] at hc
      have hz : i.size ≠ 0 := fun e => by rw [e] at hc; exact absurd hc.1 (by decide)
      have hlim : len * i.size ≤ 16777216 := hc.2
      obtain ⟨z1, z2, z3⟩ := h6.cells (by omega)
      rw [h7] at z1
      have hparts : (parts.map fun (i, x) => (i, a.eval x)).toList = parts.toList.map fun (i, x) => (i, a.eval x) := by simp
      obtain ⟨cells', c1, c2, c3, _, c5, c6⟩ := rowsOf_ok (cells := zeros z.cells (len * i.size)) hz hrs h2 (by rw [zeros_size, Nat.zero_add]) (zeros_mem (by omega) z2) (fun q c x v _ hc hx hv => zeros_row z1 hz z3 hc hx hv)
      rw [zeros_size] at c2
      refine wp_val (w' := w.alloc (.cells cells' elem)) (cv := .slice (some ⟨w.heap.size, 0, none⟩) len len) ?_ ?_
      · by_cases e : len * i.size = 0
        · have c0 : Instr.fill (fun i_1 => some (i_1 * i.size, i.size)) ((Array.range 0).map fun _ => default) (parts.toList.map fun x => (x.fst, a.eval x.snd)) = some cells' := by
            rw [← c1, e]
            have : zeros z.cells 0 = (Array.range 0).map fun _ => (default : Value) := by simp [zeros]
            rw [this]
          simp [execOp, hop, Instr.buildSlice, Sem.run_bind, Result.andThen, run_under hd, run_size h4, e, newRow]
          rw [c0]
          simp
        · unfold zeros at c1
          have c1' : Instr.fill (fun i_1 => some (i_1 * i.size, i.size)) ((Array.range (len * i.size)).map (z.cells[· % z.cells.size]!)) (parts.toList.map fun (i, x) => (i, a.eval x)) = some cells' := c1
          simp only [execOp, hop, Instr.buildSlice, Sem.run_bind, Result.andThen, run_under hd, run_size h4]
          rw [if_neg (show ¬ len * i.size > 2 ^ 24 by omega)]
          simp only [e, if_false, Sem.run_bind, Sem.run_pure, Result.andThen, run_zero h4 h5, hparts, c1', newRow]
          simp [Sem.run_bind, Result.andThen]
      · refine newO_ok hr h8 hk (C := cells') (lo := 0) (hi := 0) ((Below.refl _ _).alloc (Nat.le_refl _) _) (by simp) (heap_alloc_new _ _) c3 (by rw [c2]; exact Nat.le_refl _) (fun e => by cases e) (fun _ _ => by omega)
          (fun ψ hle q row c x u g1 g2 g3 g4 g5 => ?_) (fun b ψ hb => by simp only [V]; exact ⟨_, _, _, len, hb, rfl, Nat.le_refl _, fun _ => rfl, fun e => by cases e⟩)
        rw [putRows_get, if_pos (by omega), Nat.sub_zero] at g3
        exact (c6 q row c x u (Nat.zero_le _) g2 (by simpa using g3) g4 g5).mono hle

/-! ### make -/
theorem repl_get {α : Type} (x : α) : ∀ (n i : Nat) (y : α), (repl x n)[i]? = some y → y = x
  | 0, _, _, h => by simp [repl] at h
  | n + 1, 0, _, h => by simp [repl] at h; exact h.symm
  | n + 1, i + 1, y, h => repl_get x n i y (by simpa [repl] using h)

theorem repl_length {α : Type} (x : α) : ∀ n : Nat, (repl x n).length = n
  | 0 => rfl
  | n + 1 => by simp [repl, repl_length x n]

theorem wrap_small {n : Nat} (h : n ≤ 1048576) : IntKind.i64.wrap n = n := by rw [IntKind.wrap_i64]; omega

theorem makeSlice_ok {t : TypeId} {l c : Operand} (hop : o.op = .makeSlice t l c) (hg : GlobOK φ cf.ng) (he : EnvOK φ env a.tmps) (hr : Rel base φ H w) (h : opc P cf cl o.op env H k = some r) (hk : Cont base φ H w r k o a next) : o.wp P a w next Q := by
  rw [hop] at h
  simp only [opc] at h
  obtain ⟨vl, h1, h2⟩ := ev_ok hg he h
  obtain ⟨vc, h3, h4⟩ := ev_ok hg he h1
  obtain ⟨td, hd, h5⟩ := unS_ok h3
  cases td <;> simp only at h5 <;> try cases h5
  rename_i elem
  cases hi : P.info? elem with
  | none => rw [hi] at h5; cases h5
  | some i =>
    rw [hi] at h5
    simp only at h5
    obtain ⟨i', z, za, h6, h7, h8, h9, h10⟩ := zeS_ok φ h5
    rw [hi] at h6
    cases h6
    unfold msP at h10
    cases hl : natP vl with
    | none => rw [hl] at h10; cases h10
    | some ln =>
      cases hc : natP vc with
      | none => rw [hl, hc] at h10; cases h10
      | some cn =>
        rw [hl, hc] at h10
        simp only at h10
        cases hb : (Nat.ble ln cn && Nat.ble cn 1048576 && Nat.ble (Nat.mul cn i.bytes) 1048576 && !(Nat.beq i.size 0)) with
        | false => rw [hb] at h10; cases h10
        | true =>
          rw [hb] at h10
          simp only [cond_true] at h10
          simp only [Bool.and_eq_true, Bool.not_eq_true', Nat.ble_eq] at hb
          obtain ⟨⟨⟨b1, b2⟩, b3⟩, b4⟩ := hb
          replace b3 : cn * i.bytes ≤ 1048576 := b3
          have hz : i.size ≠ 0 := fun e => by rw [e] at b4; exact absurd b4 (by decide)
          obtain ⟨z1, z2, z3⟩ := h8.cells (by omega)
          rw [h9] at z1
          obtain ⟨jl, el⟩ := natP_ok hl h2
          obtain ⟨jc, ec⟩ := natP_ok hc h4
          refine wp_val (w' := w.alloc (.cells (zeros z.cells (cn * i.size)) elem)) (cv := .slice (some ⟨w.heap.size, 0, none⟩) ln cn) ?_ ?_
          · have hcap : ¬ (i.bytes : Int) * (cn : Int) > 2 ^ 48 := by
              have : (i.bytes : Int) * (cn : Int) = ((cn * i.bytes : Nat) : Int) := by rw [Nat.mul_comm]; simp
              rw [this]
              have h5 : (2 : Int) ^ 48 = 281474976710656 := by decide
              omega
            have hcap' : ¬ 281474976710656 < (i.bytes : Int) * (cn : Int) := by
              have h5 : (2 : Int) ^ 48 = 281474976710656 := by decide
              rw [h5] at hcap
              exact hcap
            have hroom : ¬ cn * i.bytes > roomBytes := by
              have h5 : roomBytes = 140737488355328 := by decide
              omega
            have b1' : ¬ (ln : Int) > (cn : Int) := by omega
            have n1 : ¬ (ln : Int) < 0 := by omega
            have n2 : ¬ (cn : Int) < 0 := by omega
            simp only [execOp, hop, Instr.makeSlice, Sem.run_bind, Result.andThen, run_under hd, el, ec, asInt, asIntOf, Sem.run_pure, run_info hi, wrap_small b2, wrap_small (Nat.le_trans b1 b2)]
            by_cases e : cn * i.size = 0
            · simp [hcap', hroom, b1', n1, n2, e, askRoom, Sem.run_bind, Result.andThen, run_size hi, newRow, zeros]
              exact congrArg (fun c => w.alloc (.cells c elem)) (by apply Array.ext <;> simp)
            · simp [hcap', hroom, b1', n1, n2, e, askRoom, Sem.run_bind, Result.andThen, run_size hi, run_zero hi h7, newRow, zeros]
          · refine newO_ok hr h10 hk (C := zeros z.cells (cn * i.size)) (lo := 0) (hi := 0) ((Below.refl _ _).alloc (Nat.le_refl _) _) (by simp) (heap_alloc_new _ _) (zeros_mem (by omega) z2) (by rw [zeros_size]; exact Nat.le_refl _) (fun e => by cases e) (fun _ _ => by omega)
              (fun ψ hle q row c x u g1 g2 g3 g4 g5 => ?_) (fun b ψ hb => by simp only [V]; exact ⟨_, _, _, cn, hb, rfl, Nat.le_refl _, fun _ => rfl, fun e => by cases e⟩)
            rw [putRows_get, if_pos (by rw [repl_length]; omega), Nat.sub_zero] at g3
            have := repl_get _ _ _ _ g3
            subst this
            exact (zeros_row z1 hz z3 g2 g4 g5).mono hle
end

end Go.Proofs.YtlpfhodieopmhaaGreatDoor.Ae

namespace Go.Proofs.YtlpfhodieopmhaaGreatDoor.Ae
open Go.RowKit

section
variable {P : Program} {cf : Cf} {cl : Caller} {base : Nat} {φ : Lay} {H : AH} {w : World} {o : Oper} {a : Act} {env : Env} {r : AV × AH} {next : Act → World → Prop} {Q : Exit → Act → World → Prop} {k : KV}

theorem lenP_ok {v : AV} {cv : Value} {kk : AV → RO} (h : lenP v kk = some r) (hv : V φ v cv) : ∃ n, kk (.int .i64 (Int.ofNat n)) = some r ∧ ((∃ s, cv = .string s ∧ s.size = n) ∨ (∃ b c, cv = .slice b n c)) := by
  unfold lenP at h
  cases hl : lenV v with
  | none => rw [hl] at h; cases h
  | some n =>
    rw [hl] at h
    refine ⟨n, h, ?_⟩
    unfold lenV at hl
    cases v <;> simp only [Option.some.injEq] at hl <;> try cases hl
    · simp only [V] at hv; subst hv; exact .inl ⟨_, rfl, rfl⟩
    · simp only [V] at hv; subst hv; exact .inr ⟨_, _, rfl⟩
    · simp only [V] at hv; obtain ⟨_, _, _, _, _, rfl, _⟩ := hv; exact .inr ⟨_, _, rfl⟩
    · simp only [V] at hv; obtain ⟨_, _, _, _, _, _, rfl, _⟩ := hv; exact .inr ⟨_, _, rfl⟩

theorem lenS_ok {v : AV} {cv : Value} {kk : AV → RO} (h : (match v with | .str _ => none | _ => lenP v kk) = some r) (hv : V φ v cv) : ∃ n b c, kk (.int .i64 (Int.ofNat n)) = some r ∧ cv = .slice b n c := by
  cases v <;> simp only [lenP, lenV] at h <;> try cases h
  · simp only [V] at hv; exact ⟨_, _, _, h, hv⟩
  · simp only [V] at hv; obtain ⟨_, _, _, _, _, e, _⟩ := hv; exact ⟨_, _, _, h, e⟩
  · simp only [V] at hv; obtain ⟨_, _, _, _, _, _, e, _⟩ := hv; exact ⟨_, _, _, h, e⟩

theorem mmL_ok (P : Program) (w : World) {mx : Bool} : ∀ {l : List AV} {x y : AV} {cx : Value} {vs : List Value}, mmL mx x l = some y → V φ x cx → VL φ l vs → ∃ cy, (vs.foldlM (if mx then Builtin.max2 else Builtin.min2) cx).run P w = .ok cy w ∧ V φ y cy
  | [], x, y, cx, vs, h, hx, hv => by
    simp only [mmL, Option.some.injEq] at h
    simp only [VL] at hv
    subst h hv
    exact ⟨cx, rfl, hx⟩
  | b :: l, x, y, cx, vs, h, hx, hv => by
    simp only [VL] at hv
    obtain ⟨cb, vs, rfl, hb, hvs⟩ := hv
    simp only [mmL] at h
    cases hm : mmV mx x b with
    | none => rw [hm] at h; cases h
    | some z =>
      rw [hm] at h
      simp only at h
      unfold mmV at hm
      cases x <;> simp only at hm <;> try cases hm
      rename_i kx nx
      cases b <;> simp only at hm <;> try cases hm
      rename_i kb nb
      simp only [V] at hx hb
      subst hx hb
      obtain ⟨cy, h1, h2⟩ := mmL_ok P w (cx := .int kx (bif (bif mx then ltI nx nb else ltI nb nx) then nb else nx)) h (by simp only [V]) hvs
      refine ⟨cy, ?_, h2⟩
      rw [List.foldlM_cons, Sem.run_bind]
      have e : ((if mx = true then Builtin.max2 else Builtin.min2) (Value.int kx nx) (Value.int kb nb)).run P w = .ok (.int kx (bif (bif mx then ltI nx nb else ltI nb nx) then nb else nx)) w := by
        cases mx with
        | true =>
          simp only [if_true, cond_true, Builtin.max2, Sem.run_pure, ltI_eq]
          by_cases g : nx < nb <;> simp [g]
        | false =>
          simp only [cond_false, Builtin.min2, Sem.run_pure, ltI_eq]
          by_cases g : nb < nx <;> simp [g, Builtin.min2]
      rw [e]
      exact h1

theorem cpP_ok {ats : Array TypeId} {dT ty elem : TypeId} {i : TypeInfo} {d x : AV} {cd cx : Value} (hs0 : ats[0]? = some dT) (h1 : P.underlying dT = some (.slice elem)) (hi : P.info? elem = some i)
    (hr : Rel base φ H w) (h : cpP i.size d x H k = some r) (hk : Cont base φ H w r k o a next) (hd : V φ d cd) (hx : V φ x cx) :
    ∃ cu w', (Builtin.copy_ ats ty #[cd, cx]).run P w = .ok cu w' ∧ next (a.put o.dst cu) w' := by
  unfold cpP at h
  cases hl : lenV x with
  | none => rw [hl] at h; cases h
  | some na =>
    cases hl' : lenV d with
    | none => rw [hl, hl'] at h; cases h
    | some nc =>
      rw [hl, hl'] at h
      simp only at h
      generalize hn : (bif Nat.ble na nc then na else nc) = n at h
      have hmin : Nat.min na nc = n := by
        rw [← hn]
        cases hb : Nat.ble na nc with
        | true => exact Nat.min_eq_left (Nat.le_of_ble_eq_true hb)
        | false =>
          refine Nat.min_eq_right ?_
          have : ¬ na ≤ nc := fun e => by rw [Nat.ble_eq_true_of_le e] at hb; cases hb
          omega
      cases he : elemsV i.size n x H with
      | none => rw [he] at h; cases h
      | some new =>
        rw [he] at h
        simp only at h
        obtain ⟨vn, n1, n2, n3, n4, n5, n6⟩ := elems_ok (P := P) hr he hx
        have hlx := len_ok (P := P) (w := w) hl hx
        have pre : ∀ (b : Option Addr) (c : Nat), cd = .slice b nc c → (Builtin.copy_ ats ty #[cd, cx]).run P w = Result.andThen (((if let some a := b then storeCells a vn else pure ()) : Sem Unit).run P w) (fun _ w' => .ok (goInt n) w') := by
          intro b c hcd
          rw [hcd]
          have e2 := n4 w rfl
          rw [← hmin] at e2
          simp only [Builtin.copy_, hs0]
          cases b with
          | none => simp [Sem.run_bind, Result.andThen, run_under h1, hlx, run_size hi, hmin, n4 w rfl]
          | some p =>
            simp [Sem.run_bind, Result.andThen, run_under h1, hlx, run_size hi, hmin, n4 w rfl]
        cases d <;> simp only at h <;> try cases h
        · simp only [V] at hd
          cases hb0 : Nat.beq n 0 with
          | false => rw [hb0] at h; cases h
          | true =>
            rw [hb0] at h
            simp only [cond_true] at h
            have e0 := Nat.eq_of_beq_eq_true hb0
            simp only [lenV, Option.some.injEq] at hl'
            subst hl'
            refine ⟨goInt n, w, ?_, hk.here hr h ?_⟩
            · rw [pre none 0 hd]; rfl
            · rw [e0]; simp only [V]; rfl
        · rename_i b off len cap zz ex
          cases hw : wrElems b i.size H off new with
          | none => rw [hw] at h; cases h
          | some H' =>
            rw [hw] at h
            simp only at h
            simp only [V] at hd
            obtain ⟨B, sh, N, c, hφ, hcd, _⟩ := hd
            simp only [lenV, Option.some.injEq] at hl'
            subst hl'
            obtain ⟨s1, s2, s3⟩ := wrElems_spec hφ hr hw n1 n3
            refine ⟨goInt n, w.setCells B (sh + off) vn, ?_, hk _ _ _ _ _ h s3 (by simp only [V]; rfl)⟩
            rw [pre _ c hcd]
            have := run_storeCells_cells (P := P) B (sh + off) vn 0 w (fun j hj => by simpa using s1 j hj) (fun j hj => by simpa using s2 j hj) n3
            simp only [Nat.add_zero] at this
            simp [this, Result.andThen]
        · simp only [V] at hd
          obtain ⟨B, sh, N, oo, c, hφ, hcd, _⟩ := hd
          cases hb0 : Nat.beq n 0 with
          | false => rw [hb0] at h; cases h
          | true =>
            rw [hb0] at h
            simp only [cond_true] at h
            have e0 := Nat.eq_of_beq_eq_true hb0
            simp only [lenV, Option.some.injEq] at hl'
            subst hl'
            have hv0 : vn = [] := List.length_eq_zero_iff.1 (by rw [n1.length, n2, e0]; simp)
            refine ⟨goInt n, w, ?_, hk.here hr h ?_⟩
            · rw [pre _ c hcd, hv0]; rfl
            · rw [e0]; simp only [V]; rfl

/-! ### unsafe.String, unsafe.SliceData -/
theorem shape?_freeze (p : Addr) (n : Nat) (C : Nat) : (w.freeze p n).shape? C = w.shape? C := by
  unfold World.freeze
  split
  · rfl
  · simp only [World.shape?, Array.getElem?_modify]
    by_cases e : p.block = C
    · rw [if_pos e]
      cases h : w.heap[C]? with
      | none => rfl
      | some q => cases q <;> simp
    · rw [if_neg e]

theorem cell?_freeze (p : Addr) (n : Nat) (B i : Nat) : (w.freeze p n).cell? ⟨B, i, none⟩ = w.cell? ⟨B, i, none⟩ := by
  unfold World.freeze
  split
  · rfl
  · simp only [World.cell?, Array.getElem?_modify]
    by_cases e : p.block = B
    · rw [if_pos e]
      cases h : w.heap[B]? with
      | none => rfl
      | some q => cases q <;> simp
    · rw [if_neg e]

theorem heap_freeze (p : Addr) (n : Nat) {C : Nat} (h : C ≠ p.block) : (w.freeze p n).heap[C]? = w.heap[C]? := by
  unfold World.freeze
  split
  · rfl
  · simp only [Array.getElem?_modify]
    rw [if_neg (Ne.symm h)]

theorem freeze_size (p : Addr) (n : Nat) : (w.freeze p n).heap.size = w.heap.size := by
  unfold World.freeze
  split <;> simp

/-- A block that is frozen: it is written no more. -/
theorem Step.frozen {b B sh N : Nat} {ob : AObj} (hr : Rel base φ H w) (hb : H.objs.get b = some ob) (hφ : φ b = some (B, sh, N)) (hB : base ≤ B) (off n : Nat) :
    Step base φ H w φ ⟨H.objs.set b (some { ob with ro := true }), H.next⟩ (w.freeze ⟨B, off, none⟩ n) := by
  have old : ∀ {c p}, (H.objs.set b (some { ob with ro := true })).get c = some p → ∃ q, H.objs.get c = some q ∧ (c ≠ b → q = p) ∧ (c = b → q = ob ∧ p = { ob with ro := true }) := fun {c p} h1 => by
    rw [Tm.get_set] at h1
    split at h1
    · rename_i e
      subst e
      cases h1
      exact ⟨ob, hb, fun h => absurd rfl h, fun _ => ⟨rfl, rfl⟩⟩
    · rename_i e
      exact ⟨p, h1, fun _ => rfl, fun h => absurd h e⟩
  have roF : ∀ {c p}, (H.objs.set b (some { ob with ro := true })).get c = some p → p.ro = false → c ≠ b ∧ H.objs.get c = some p := fun {c p} h1 h2 => by
    obtain ⟨q, q1, q2, q3⟩ := old h1
    by_cases e : c = b
    · obtain ⟨_, rfl⟩ := q3 e
      cases h2
    · have := q2 e
      subst this
      exact ⟨e, q1⟩
  refine ⟨Lay.le_refl _, ⟨fun c p C s M h1 h2 => ?_, fun c p C s M h1 h2 h3 => hr.own c p C s M (roF h1 h3).2 h2 h3, fun c p d q C s M s' M' h1 h2 h3 h4 h5 => ?_, fun c hc => ?_, fun c p C s M h1 h2 => ?_, ?_⟩, Lib.below_freeze (Below.refl _ _) hB n, Nat.le_refl _, fun c hc h0 => ⟨h0, ?_⟩⟩
  · obtain ⟨q, q1, q2, q3⟩ := old h1
    have hq := hr.obj c q C s M q1 h2
    have keep : RelO φ (w.freeze ⟨B, off, none⟩ n) { q with ro := true } C s M :=
      ⟨by rw [shape?_freeze]; exact hq.shape, fun i hi => by rw [cell?_freeze]; exact hq.cell i hi, hq.fits, fun r' row c' x v g1 g2 g3 g4 g5 => hq.holds r' row c' x v g1 g2 g3 g4 (by rwa [cell?_freeze] at g5), hq.whole, fun h => by cases h⟩
    by_cases e : c = b
    · obtain ⟨rfl, rfl⟩ := q3 e
      exact keep
    · have := q2 e
      subst this
      by_cases hro : q.ro = true
      · have e2 : q = { q with ro := true } := by cases q; simp_all
        rw [e2]
        exact keep
      · have hro' : q.ro = false := by simpa using hro
        have hne : C ≠ B := fun e3 => by
          subst e3
          exact e (hr.inj c q b ob C s M sh N q1 hb h2 hφ hro')
        exact hq.move (Lay.le_refl _) (heap_freeze ⟨B, off, none⟩ n hne)
  · obtain ⟨g1, g2⟩ := roF h1 h5
    obtain ⟨q', q1, _⟩ := old h2
    exact hr.inj c p d q' C s M s' M' g2 q1 h3 h4 h5
  · refine ⟨?_, (hr.next c hc).2⟩
    have hbn : b < H.next := Nat.lt_of_not_le fun hh => by have := (hr.next b hh).1; rw [hb] at this; cases this
    have hc' : H.next ≤ c := hc
    rw [Tm.get_set, if_neg (by omega)]
    exact (hr.next c hc).1
  · obtain ⟨q, q1, _⟩ := old h1
    rw [freeze_size]
    exact hr.lt c q C s M q1 h2
  · rw [freeze_size]; exact hr.base
  · have h1 : c ≠ b := fun e => by rw [e, hφ] at h0; cases h0
    rw [Tm.get_set, if_neg h1]

theorem lies_bytes {e : TypeId} (hs : P.cellsOf e = 1) {count off n : Nat} (h : off + n ≤ count) : liesAt P P.depth e count off e n = true := by
  have hd : P.depth = (2 * (P.types.size + Made.depth) + 1) + 1 := rfl
  rw [hd]
  simp only [liesAt, Bool.or_eq_true]
  left
  rw [hd]
  simp [rowAt, hs, h, sameLayout, Nat.mod_one]

/-- The two arguments are told. -/
theorem us_m {motive : Array Value → Sort _} (p : Option Addr) (x : Value) (h1 : (p : Option Addr) → (x : Value) → motive #[.pointer p, x]) (h2 : (a : Array Value) → motive a) : Builtin.unsafeString_.match_3 motive #[.pointer p, x] h1 h2 = h1 p x := rfl

/-- A byte's number. -/
theorem run_loadBytes' : ∀ (ns : List Int) (a : Addr) (acc : ByteArray), (∀ j x, ns[j]? = some x → w.cell? (a.add j) = some (.int .u8 x)) →
    (loadBytes a acc ns.length).run P w = .ok ⟨acc.data ++ (ns.map fun n => UInt8.ofNat n.toNat).toArray⟩ w
  | [], a, acc, _ => by simp [loadBytes]
  | x :: l, a, acc, h => by
    have h0 : w.cell? a = some (.int .u8 x) := by
      have := h 0 x rfl
      simpa [Addr.add] using this
    have ih := run_loadBytes' l (a.add 1) (acc.push (x.toNat.toUInt8)) (fun j y hy => by
      have := h (j + 1) y (by simpa using hy)
      have e : (a.add 1).add j = a.add (j + 1) := by
        unfold Addr.add
        by_cases hj : j = 0
        · subst hj; simp
        · simp [hj]; omega
      rw [e]; exact this)
    simp only [List.length_cons, loadBytes, Sem.run_bind, run_load, h0, Result.andThen]
    rw [ih]
    congr 1
    apply ByteArray.ext
    simp [ByteArray.push]

theorem usP_ok {ats : Array TypeId} {pT ty e : TypeId} {i : TypeInfo} {p n : AV} {cp cn : Value} (hs0 : ats[0]? = some pT) (h1 : P.underlying pT = some (.pointer e)) (hi : P.info? e = some i) (hsz : i.size = 1)
    (hr : Rel base φ H w) (h : usP e p n H k = some r) (hk : Cont base φ H w r k o a next) (hp : V φ p cp) (hn : V φ n cn) :
    ∃ cu w', (Builtin.unsafeString_ ats ty #[cp, cn]).run P w = .ok cu w' ∧ next (a.put o.dst cu) w' := by
  unfold usP at h
  cases hnn : natP n with
  | none => rw [hnn] at h; cases h
  | some m =>
    rw [hnn] at h
    simp only at h
    obtain ⟨jn', en⟩ := natP_ok hnn hn
    have hmax : IntKind.i64.max = 9223372036854775807 := rfl
    have hc1 : P.cellsOf e = 1 := by simp [Program.cellsOf, hi, hsz]
    cases p <;> simp only at h <;> try cases h
    · simp only [V] at hp
      cases hb : Nat.beq m 0 with
      | false => rw [hb] at h; cases h
      | true =>
        rw [hb] at h
        simp only [cond_true] at h
        have e0 := Nat.eq_of_beq_eq_true hb
        subst e0 hp en
        refine ⟨.string .empty, w, ?_, hk.here hr h (by simp only [V]; rfl)⟩
        delta Builtin.unsafeString_
        rw [us_m]
        simp [hs0, asInt, asIntOf, Sem.run_bind, Result.andThen, hmax]
    · rename_i b off
      simp only [V] at hp
      obtain ⟨B, sh, N, hφ, hcp⟩ := hp
      cases hb : Nat.beq m 0 with
      | true =>
        rw [hb] at h
        simp only [cond_true] at h
        have e0 := Nat.eq_of_beq_eq_true hb
        subst e0 hcp en
        refine ⟨.string .empty, w, ?_, hk.here hr h (by simp only [V]; rfl)⟩
        delta Builtin.unsafeString_
        rw [us_m]
        simp [hs0, asInt, asIntOf, Sem.run_bind, Result.andThen, hmax]
      | false =>
        rw [hb] at h
        simp only [cond_false] at h
        have hm0 : m ≠ 0 := fun e => by rw [e] at hb; cases hb
        cases hg : H.objs.get b with
        | none => rw [hg] at h; cases h
        | some ob =>
          rw [hg] at h
          simp only at h
          cases hc : (ob.ro || !(Nat.beq ob.elem e) || !(Nat.ble m 1048576)) with
          | true => rw [hc] at h; cases h
          | false =>
            rw [hc] at h
            simp only [cond_false] at h
            simp only [Bool.or_eq_false_iff, Bool.not_eq_false', Nat.ble_eq] at hc
            have hro := hc.1.1
            have q1 := Nat.eq_of_beq_eq_true hc.1.2
            have q2 : m ≤ 1048576 := hc.2
            cases hrd : rdElems ob 1 off m with
            | none => rw [hrd] at h; cases h
            | some l =>
              rw [hrd] at h
              simp only at h
              cases hby : bytesOf l with
              | none => rw [hby] at h; cases h
              | some s =>
                rw [hby] at h
                simp only at h
                have ho := hr.obj b ob B sh N hg hφ
                obtain ⟨vs, o1, o2, o3, o4, o5⟩ := rdElems_spec ho hrd
                obtain ⟨ns, e1, e2⟩ := bytesOf_ok hby o1
                have hlen : ns.length = m := by
                  have := o1.length
                  rw [e1, o2] at this
                  simpa using this
                have hst := Step.frozen hr hg hφ (hr.own b ob B sh N hg hφ hro) (sh + off) m
                refine ⟨.string (bytes s), w.freeze ⟨B, sh + off, none⟩ m, ?_, hk _ _ _ _ _ h hst (by simp only [V])⟩
                subst hcp en
                have hlb := run_loadBytes' (P := P) (w := w) ns ⟨B, sh + off, none⟩ .empty (fun j x hx => by
                  rw [addr_add]
                  refine o3 j _ ?_
                  rw [e1]
                  simp [hx])
                rw [hlen] at hlb
                have hsh := ho.shape
                rw [q1] at hsh
                have hlies := lies_bytes (P := P) hc1 (count := N / P.cellsOf e) (off := sh + off) (n := m) (by have := o5 hm0; rw [hc1]; omega)
                have n1 : ¬ (m : Int) < 0 := by omega
                have n2 : ¬ (9223372036854775807 : Int) < (m : Int) := by omega
                have hs' : bytes s = ⟨(ByteArray.empty.data ++ (ns.map fun n => UInt8.ofNat n.toNat).toArray)⟩ := by rw [e2]; simp [bytes]
                delta Builtin.unsafeString_
                rw [us_m, hs']
                simp [hs0, asInt, asIntOf, Sem.run_bind, Result.andThen, hmax, n1, n2, hm0, variablesAt, hsh, elemOf, run_under h1, hlies, hlb]

theorem sdP_ok {ats : Array TypeId} {ty : TypeId} {x : AV} {cx : Value} {kk : AV → RO} (h : sdP x kk = some r) (hx : V φ x cx) : ∃ v cu, kk v = some r ∧ V φ v cu ∧ (Builtin.unsafeSliceData_ ats ty #[cx]).run P w = .ok cu w := by
  unfold sdP at h
  cases x <;> simp only at h <;> try cases h
  · simp only [V] at hx
    subst hx
    exact ⟨_, _, h, by simp only [V], rfl⟩
  · rename_i b off l c z ex
    cases hb : Nat.beq c 0 with
    | true => rw [hb] at h; cases h
    | false =>
      rw [hb] at h
      simp only [cond_false] at h
      simp only [V] at hx
      obtain ⟨B, sh, N, cc, hφ, rfl, hle, _⟩ := hx
      have : c ≠ 0 := fun e => by rw [e] at hb; cases hb
      exact ⟨_, _, h, by simp only [V]; exact ⟨B, sh, N, hφ, rfl⟩, Lib.run_unsafeSliceData_row w ats ty _ l cc (by omega)⟩

theorem capP_ok {x : AV} {cx : Value} {kk : AV → RO} (h : capP x kk = some r) (hx : V φ x cx) : ∃ n b l, kk (.int .i64 (Int.ofNat n)) = some r ∧ cx = .slice b l n := by
  unfold capP at h
  cases x <;> simp only at h <;> try cases h
  · simp only [V] at hx
    exact ⟨0, none, 0, h, hx⟩
  · rename_i b off l c z ex
    cases ex <;> simp only at h <;> try cases h
    simp only [V] at hx
    obtain ⟨B, sh, N, cc, hφ, e, hle, hc, _⟩ := hx
    have hc' := hc (by first | rfl | trivial)
    subst hc'
    exact ⟨_, _, l, h, e⟩

theorem one_arg {c : Call} {x : AV} (h : VL φ [x] (c.args.toList.map a.eval)) : ∃ cx, V φ x cx ∧ c.args.map a.eval = #[cx] := by
  simp only [VL] at h
  obtain ⟨cx, vs, e, h1, rfl⟩ := h
  refine ⟨cx, h1, ?_⟩
  apply Array.toList_inj.1
  simpa using e

theorem two_args {c : Call} {x y : AV} (h : VL φ [x, y] (c.args.toList.map a.eval)) : ∃ cx cy, V φ x cx ∧ V φ y cy ∧ c.args.map a.eval = #[cx, cy] := by
  simp only [VL] at h
  obtain ⟨cx, vs, e, h1, cy, vs', rfl, h2, rfl⟩ := h
  refine ⟨cx, cy, h1, h2, ?_⟩
  apply Array.toList_inj.1
  simpa using e

theorem opB_ok {c : Call} {b : Builtin} {args : List AV} (hop : o.op = .call c) (hb : c.callee = .builtin b) (hr : Rel base φ H w) (h : opB P b c.argTypes args H k = some r) (hv : VL φ args (c.args.toList.map a.eval)) (hk : Cont base φ H w r k o a next) : o.wp P a w next Q := by
  have E : ∀ {cu w'}, (builtin b c.argTypes o.type (c.args.map fun | .const _ => true | _ => false) (c.args.map a.eval)).run P w = .ok (.value cu) w' → (execOp a.eval o).run P w = .ok (.value cu) w' := fun {cu w'} e => by
    simp only [execOp, hop, resolve, hb, Sem.run_bind, Sem.run_pure, Result.andThen, invoke]
    exact e
  cases b <;> simp only [opB] at h <;> try cases h
  case append =>
    match args, h, hv with
    | [s, x], h, hv =>
      obtain ⟨cs, cx, h1, h2, e⟩ := two_args hv
      simp only at h
      cases t0 : c.argTypes[0]? with
      | none => rw [t0] at h; cases h
      | some t =>
        cases t1 : c.argTypes[1]? with
        | none => rw [t0, t1] at h; cases h
        | some u =>
          rw [t0, t1] at h
          simp only at h
          obtain ⟨ud, hu, h⟩ := unS_ok h
          have hint : ∀ j, ud ≠ .int j := fun j e => by subst e; cases h
          have h : (unS P t fun td => match td with
            | .slice elem => match P.info? elem with
              | some i => zeS P elem fun size _ => apP elem size i.bytes s x H k
              | none => none
            | _ => none) = some r := by
            cases ud <;> first | exact h | exact absurd rfl (hint _)
          obtain ⟨td, ht, h⟩ := unS_ok h
          cases td <;> simp only at h <;> try cases h
          rename_i elem
          cases hi : P.info? elem with
          | none => rw [hi] at h; cases h
          | some i =>
            rw [hi] at h
            simp only at h
            obtain ⟨i', z, za, h6, h7, h8, h9, h10⟩ := zeS_ok φ h
            rw [hi] at h6
            cases h6
            obtain ⟨cu, w', g1, g2⟩ := apP_ok (ty := o.type) t0 t1 ht hu hint hi h7 h8 h9 hr h10 hk h1 h2
            exact wp_val (E (by rw [e]; simp only [builtin, Sem.run_bind, g1, Result.andThen, Sem.run_pure])) g2
  case cap =>
    match args, h, hv with
    | [x], h, hv =>
      obtain ⟨cx, h1, e⟩ := one_arg hv
      simp only at h
      cases t0 : c.argTypes[0]? with
      | none => rw [t0] at h; cases h
      | some t =>
        rw [t0] at h
        simp only at h
        obtain ⟨td, ht, h⟩ := unS_ok h
        cases td <;> simp only at h <;> try cases h
        obtain ⟨n, b, l, h2, rfl⟩ := capP_ok h h1
        exact wp_val (E (cu := goInt n) (by rw [e]; simp [builtin, Builtin.cap_, t0, Sem.run_bind, run_under ht, Result.andThen])) (hk.here hr h2 (by simp only [V]; rfl))
  case copy =>
    match args, h, hv with
    | [d, x], h, hv =>
      obtain ⟨cd, cx, h1, h2, e⟩ := two_args hv
      simp only at h
      cases t0 : c.argTypes[0]? with
      | none => rw [t0] at h; cases h
      | some t =>
        rw [t0] at h
        simp only at h
        obtain ⟨td, ht, h⟩ := unS_ok h
        cases td <;> simp only at h <;> try cases h
        obtain ⟨i, hi, h⟩ := szS_ok h
        obtain ⟨cu, w', g1, g2⟩ := cpP_ok (ty := o.type) t0 ht hi hr h hk h1 h2
        exact wp_val (E (by rw [e]; simp only [builtin, Sem.run_bind, g1, Result.andThen, Sem.run_pure])) g2
  case len =>
    match args, h, hv with
    | [x], h, hv =>
      obtain ⟨cx, h1, e⟩ := one_arg hv
      simp only at h
      cases t0 : c.argTypes[0]? with
      | none => rw [t0] at h; cases h
      | some t =>
        rw [t0] at h
        simp only at h
        obtain ⟨td, ht, h⟩ := unS_ok h
        cases td <;> simp only at h <;> try cases h
        · cases x <;> simp only at h <;> try cases h
          obtain ⟨n, h2, h3⟩ := lenP_ok h h1
          simp only [V] at h1
          subst h1
          obtain ⟨s, e1, e2⟩ | ⟨_, _, e1⟩ := h3
          · cases e1
            subst e2
            exact wp_val (E (cu := goInt _) (by rw [e]; simp only [builtin, Builtin.len_, t0]; simp [Sem.run_bind, run_under ht, Result.andThen]; rfl)) (hk.here hr h2 (by simp only [V]; rfl))
          · cases e1
        · obtain ⟨n, b, c', h2, rfl⟩ := lenS_ok h h1
          exact wp_val (E (cu := goInt n) (by rw [e]; simp only [builtin, Builtin.len_, t0]; simp [Sem.run_bind, run_under ht, Result.andThen])) (hk.here hr h2 (by simp only [V]; rfl))
        · rename_i n _
          exact wp_val (E (cu := goInt n) (by rw [e]; simp only [builtin, Builtin.len_, t0]; simp [Sem.run_bind, run_under ht, Result.andThen])) (hk.here hr h (by simp only [V]; rfl))
  case max =>
    match args, h, hv with
    | x :: l, h, hv =>
      simp only [mmP] at h
      cases hm : mmL true x l with
      | none => rw [hm] at h; cases h
      | some v =>
        rw [hm] at h
        simp only [VL] at hv
        obtain ⟨cx, vs, e, h1, h2⟩ := hv
        obtain ⟨cy, h3, h4⟩ := mmL_ok P w hm h1 h2
        refine wp_val (E (cu := cy) ?_) (hk.here hr h h4)
        have e' : (c.args.map a.eval).toList = cx :: vs := by simpa using e
        simp only [builtin, Builtin.max_, e', Sem.run_bind]
        rw [show (List.foldlM Builtin.max2 cx vs).run P w = .ok cy w from h3]
        rfl
  case min =>
    match args, h, hv with
    | x :: l, h, hv =>
      simp only [mmP] at h
      cases hm : mmL false x l with
      | none => rw [hm] at h; cases h
      | some v =>
        rw [hm] at h
        simp only [VL] at hv
        obtain ⟨cx, vs, e, h1, h2⟩ := hv
        obtain ⟨cy, h3, h4⟩ := mmL_ok P w hm h1 h2
        refine wp_val (E (cu := cy) ?_) (hk.here hr h h4)
        have e' : (c.args.map a.eval).toList = cx :: vs := by simpa using e
        simp only [builtin, Builtin.min_, e', Sem.run_bind]
        rw [show (List.foldlM Builtin.min2 cx vs).run P w = .ok cy w from h3]
        rfl
  case unsafeSliceData =>
    match args, h, hv with
    | [x], h, hv =>
      obtain ⟨cx, h1, e⟩ := one_arg hv
      simp only at h
      obtain ⟨v, cu, h2, h3, h4⟩ := sdP_ok (P := P) (w := w) (ats := c.argTypes) (ty := o.type) h h1
      exact wp_val (E (by rw [e]; simp only [builtin, Sem.run_bind, h4, Result.andThen, Sem.run_pure])) (hk.here hr h2 h3)
  case unsafeString =>
    match args, h, hv with
    | [x, n], h, hv =>
      obtain ⟨cx, cn, h1, h2, e⟩ := two_args hv
      simp only at h
      cases t0 : c.argTypes[0]? with
      | none => rw [t0] at h; cases h
      | some t =>
        rw [t0] at h
        simp only at h
        obtain ⟨td, ht, h⟩ := unS_ok h
        cases td <;> simp only at h <;> try cases h
        obtain ⟨i, hi, h⟩ := szS_ok h
        cases h1s : Nat.beq i.size 1 with
        | false => rw [h1s] at h; cases h
        | true =>
          rw [h1s] at h
          simp only [cond_true] at h
          obtain ⟨cu, w', g1, g2⟩ := usP_ok (ty := o.type) t0 ht hi (Nat.eq_of_beq_eq_true h1s) hr h hk h1 h2
          exact wp_val (E (by rw [e]; simp only [builtin, Sem.run_bind, g1, Result.andThen, Sem.run_pure])) g2
end

end Go.Proofs.YtlpfhodieopmhaaGreatDoor.Ae

namespace Go.Proofs.YtlpfhodieopmhaaGreatDoor.Ae
open Go.RowKit

/-- How a call ends: with a value that is told, and memory that is told. -/
def Res (base : Nat) (φ : Lay) (H : AH) (w : World) (r : AV × AH) : Ending → World → Prop
  | .returned v, w' => ∃ φ', Step base φ H w φ' r.2 w' ∧ V φ' r.1 v
  | .panicked _, _ => False
  | .outgrown, _ => False

/-- The evaluator's calls are the model's. -/
def ClOK (P : Program) (cf : Cf) (cl : Caller) : Prop := ∀ f args H r, cl f args H = some r →
  (∃ fn c, P.funcs[f]? = some fn ∧ fn.body = some c ∧ (fn.name == "runtime.NumGoroutine") = false) ∧
  ∀ base φ w (cargs : Array Value), Rel base φ H w → GlobOK φ cf.ng → VL φ args cargs.toList → Calls P f cargs w (Res base φ H w r)

/-- The functions without a body are what they are told to be. -/
def PrOK (P : Program) (cf : Cf) : Prop := ∀ f n, cf.pr.lookup f = some n → ∃ fn, P.funcs[f]? = some fn ∧ (fn.name == "runtime.NumGoroutine") = false ∧ fn.body.isNone = true ∧ Extern.findNext fn = none ∧
  match n with
  | 0 => Extern.find fn = some Extern.BytealgIndexByte.indexByte
  | 1 => Extern.find fn = some Extern.AbiNoEscape.same
  | _ => ∃ ps t, Extern.find fn = some (Extern.BytealgMakeNoZero.makeNoZero ps #[t]) ∧ P.underlying t = some (.slice cf.u8)

section
variable {P : Program} {cf : Cf} {cl : Caller} {base : Nat} {φ : Lay} {H : AH} {w : World} {o : Oper} {a : Act} {env : Env} {r : AV × AH} {next : Act → World → Prop} {Q : Exit → Act → World → Prop} {k : KV}

theorem enter_ok {f : FuncId} {args : List AV} {cargs : Array Value} (hcl : ClOK P cf cl) (hg : GlobOK φ cf.ng) (hr : Rel base φ H w) (h : callP cl f args H k = some r) (hv : VL φ args cargs.toList) (hk : Cont base φ H w r k o a next)
    (E : ∀ fn c, P.funcs[f]? = some fn → fn.body = some c → (fn.name == "runtime.NumGoroutine") = false → (execOp a.eval o).run P w = .ok (.enter f cargs) w) : o.wp P a w next Q := by
  unfold callP at h
  cases hc : cl f args H with
  | none => rw [hc] at h; cases h
  | some q =>
    obtain ⟨v, H'⟩ := q
    rw [hc] at h
    simp only at h
    obtain ⟨⟨fn, c, h1, h2, h3⟩, h4⟩ := hcl f args H _ hc
    refine wp_enter (E fn c h1 h2 h3) (h4 base φ w cargs hr hg hv) (fun u w'' hu => ?_) (fun _ _ h => h) (fun _ h => h)
    obtain ⟨φ', s1, s2⟩ := hu
    exact hk _ _ _ _ _ h s1 s2

theorem run_callFunc {f : FuncId} {fn : Func} {c : Code} {args : Array Value} (h1 : P.funcs[f]? = some fn) (h2 : fn.body = some c) (h3 : (fn.name == "runtime.NumGoroutine") = false) : (callFunc f args).run P w = .ok (.enter f args) w := by
  have h3' : ¬ fn.name = "runtime.NumGoroutine" := by simpa using h3
  simp [callFunc, Sem.run_bind, Result.andThen, h1, h3', h2]

theorem run_callPrim {f : FuncId} {fn : Func} {args : Array Value} {e : Array Value → Sem Value} {cu : Value} {w' : World} (h1 : P.funcs[f]? = some fn) (h2 : fn.body.isNone = true) (h3 : (fn.name == "runtime.NumGoroutine") = false) (h4 : Extern.findNext fn = none) (h5 : Extern.find fn = some e) (h6 : (e args).run P w = .ok cu w') :
    (callFunc f args).run P w = .ok (.value cu) w' := by
  rw [run_callFunc_extern h1 h3 h2 h4 h5, h6]
  rfl

theorem idxB_eq (c : Nat) (hc : c < 256) : ∀ (l : List UInt8) (i : Nat), idxB c i l = (if Lib.indexByte l c.toUInt8 == -1 then -1 else Lib.indexByte l c.toUInt8 + i)
  | [], i => rfl
  | b :: l, i => by
    have hb : Nat.beq b.toNat c = (b == c.toUInt8) := by
      rw [Bool.eq_iff_iff, Nat.beq_eq, beq_iff_eq]
      constructor
      · intro h
        apply UInt8.toNat_inj.1
        rw [h]
        simp
        omega
      · intro h
        rw [h]
        simp
        omega
    have ge := Lib.indexByte_ge l c.toUInt8
    unfold idxB Lib.indexByte
    rw [hb]
    by_cases h1 : (b == c.toUInt8) = true
    · simp [h1]
    · have h1' : (b == c.toUInt8) = false := by simpa using h1
      rw [if_neg h1, h1', cond_false, idxB_eq c hc l]
      by_cases h2 : (Lib.indexByte l c.toUInt8 == -1) = true
      · simp [h2]
      · have h3 : ¬ Lib.indexByte l c.toUInt8 = -1 := by simpa using h2
        have h4 : ¬ (Lib.indexByte l c.toUInt8 + 1 == -1) = true := by rw [beq_iff_eq]; omega
        rw [if_neg h2, if_neg h2, if_neg h4]
        show _ + ((i + 1 : Nat) : Int) = _
        omega

theorem digits_spec : ∀ (n t : Nat) (acc : Array Value), (∀ u ∈ acc.toList, u.oneCell' = true) → (Extern.BytealgMakeNoZero.digits n t acc).size = acc.size + n ∧ ∀ u ∈ (Extern.BytealgMakeNoZero.digits n t acc).toList, u.oneCell' = true
  | 0, _, acc, h => ⟨rfl, h⟩
  | n + 1, t, acc, h => by
    obtain ⟨h1, h2⟩ := digits_spec n (t / 256) (acc.push (.int .u8 (Int.ofNat (t % 256)))) (fun u hu => by
      simp only [Array.toList_push, List.mem_append, List.mem_singleton] at hu
      rcases hu with hu | rfl
      · exact h u hu
      · rfl)
    refine ⟨?_, h2⟩
    simp only [Extern.BytealgMakeNoZero.digits]
    rw [h1, Array.size_push]
    omega

/-- The argument is told. -/
theorem nz_m {motive : Array Value → Sort _} (n : Int) (h1 : (n : Int) → motive #[.int .i64 n]) (h2 : (a : Array Value) → motive a) : Extern.BytealgMakeNoZero.makeNoZero.match_3 motive #[.int .i64 n] h1 h2 = h1 n := rfl

theorem run_noZero (ps : Array TypeId) (t e : TypeId) (ht : P.underlying t = some (.slice e)) (n : Nat) (hn : n ≤ 1048576) :
    ∃ C : Array Value, (Extern.BytealgMakeNoZero.makeNoZero ps #[t] #[.int .i64 n]).run P w = .ok (.slice (some ⟨w.heap.size, 0, none⟩) n C.size) (w.drew.drew.alloc (.cells C e)) ∧ n ≤ C.size ∧ ∀ u ∈ C.toList, u.oneCell' = true := by
  obtain ⟨cap, hcap, hle⟩ : ∃ cap, (Question.appendCap n 0 e).cut (w.tape w.drawn (.appendCap n 0 e)) = cap ∧ n ≤ cap := ⟨_, rfl, Nat.le_add_right _ _⟩
  obtain ⟨d1, d2⟩ := digits_spec cap ((Question.extern "internal/bytealg.MakeNoZero.bytes" 0).cut (w.tape (w.drawn + 1) (.extern "internal/bytealg.MakeNoZero.bytes" 0))) #[] (fun u hu => by simp at hu)
  have d3 : (Extern.BytealgMakeNoZero.digits cap ((Question.extern "internal/bytealg.MakeNoZero.bytes" 0).cut (w.tape (w.drawn + 1) (.extern "internal/bytealg.MakeNoZero.bytes" 0))) #[]).size = cap := by rw [d1]; simp
  refine ⟨_, ?_, ?_, d2⟩
  · have h1 : ¬ (n : Int) < 0 := by omega
    have h2 : ¬ (281474976710656 : Int) < (n : Int) := by omega
    rw [d3]
    delta Extern.BytealgMakeNoZero.makeNoZero
    rw [nz_m]
    simp [run_underlying ht, h1, h2, Question.forced, newRow, hcap]
  · rw [d3]; exact hle

theorem prim_ok {f : FuncId} {n : Nat} {args : List AV} {cargs : Array Value} (hp : PrOK P cf) (hl : cf.pr.lookup f = some n) (hr : Rel base φ H w) (h : prim cf.u8 n args H k = some r) (hv : VL φ args cargs.toList) (hk : Cont base φ H w r k o a next)
    (E : ∀ cu w', (callFunc f cargs).run P w = .ok (.value cu) w' → (execOp a.eval o).run P w = .ok (.value cu) w') : o.wp P a w next Q := by
  obtain ⟨fn, f1, f2, f3, f4, f5⟩ := hp f n hl
  unfold prim at h
  obtain _ | _ | n := n
  · simp only at f5 h
    rcases args with _ | ⟨x, _ | ⟨c, _ | ⟨_, _⟩⟩⟩ <;> simp only at h <;> try cases h
    cases x <;> simp only at h <;> try cases h
    rename_i s
    cases c <;> simp only at h <;> try cases h
    rename_i j m
    cases m <;> simp only at h <;> try cases h
    rename_i m
    cases hb : (eqK j .u8 && Nat.blt m 256) with
    | false => rw [hb] at h; cases h
    | true =>
      rw [hb] at h
      simp only [cond_true] at h
      simp only [Bool.and_eq_true, blt_iff] at hb
      have hj : j = .u8 := by have := hb.1; cases j <;> first | rfl | cases this
      subst hj
      simp only [VL, V] at hv
      obtain ⟨_, _, e, rfl, _, _, rfl, rfl, rfl⟩ := hv
      have e' : cargs = #[.string (bytes s), .int .u8 (Int.ofNat m)] := by
        apply Array.toList_inj.1
        simpa using e
      refine wp_val (E _ _ (run_callPrim f1 f3 f2 f4 f5 (by rw [e']; exact Lib.run_indexByteString (bytes s) _ w))) (hk.here hr h ?_)
      simp only [V]
      rw [idxB_eq m hb.2 s 0]
      have : (Int.ofNat m).toNat.toUInt8 = m.toUInt8 := rfl
      rw [this]
      have e3 : (bytes s).data.toList = s := rfl
      rw [e3]
      by_cases h2 : (Lib.indexByte s m.toUInt8 == -1) = true
      · rw [if_pos h2]
        have h3 : Lib.indexByte s m.toUInt8 = -1 := by simpa using h2
        rw [h3]
      · rw [if_neg h2]; simp
  · simp only at f5 h
    rcases args with _ | ⟨x, _ | ⟨_, _⟩⟩ <;> simp only at h <;> try cases h
    simp only [VL] at hv
    obtain ⟨cx, _, e, hx, rfl⟩ := hv
    have e' : cargs = #[cx] := by
      apply Array.toList_inj.1
      simpa using e
    exact wp_val (E _ _ (run_callPrim f1 f3 f2 f4 f5 (by rw [e']; rfl))) (hk.here hr h hx)
  · simp only at f5 h
    obtain ⟨ps, t, f6, f7⟩ := f5
    rcases args with _ | ⟨x, _ | ⟨_, _⟩⟩ <;> simp only at h <;> try cases h
    cases x <;> simp only at h <;> try cases h
    rename_i j m
    cases m <;> simp only at h <;> try cases h
    rename_i m
    cases hb : (eqK j .i64 && Nat.ble m 1048576) with
    | false => rw [hb] at h; cases h
    | true =>
      rw [hb] at h
      simp only [cond_true] at h
      simp only [Bool.and_eq_true, Nat.ble_eq] at hb
      have hj : j = .i64 := by have := hb.1; cases j <;> first | rfl | cases this
      subst hj
      simp only [VL, V] at hv
      obtain ⟨_, _, e, rfl, rfl⟩ := hv
      have e' : cargs = #[.int .i64 (Int.ofNat m)] := by
        apply Array.toList_inj.1
        simpa using e
      obtain ⟨C, c1, c2, c3⟩ := run_noZero (P := P) (w := w) ps t cf.u8 f7 m hb.2
      refine wp_val (E _ _ (run_callPrim f1 f3 f2 f4 f6 (by rw [e']; exact c1))) ?_
      refine newO_ok hr h hk (C := C) (lo := 0) (hi := 0) ((Below.refl _ _).drew.drew.alloc (Nat.le_refl _) _) (by show w.heap.size < (w.heap.push _).size; rw [Array.size_push]; omega) (heap_alloc_new w.drew.drew _) c3 (by omega) (fun e => by cases e) (fun _ _ => by omega)
        (fun ψ hle q row c x u g1 g2 g3 g4 g5 => ?_) (fun b ψ hb => by simp only [V]; exact ⟨_, _, _, C.size, hb, rfl, c2, (fun e => by cases e), fun _ => by omega⟩)
      rw [putRows_get, if_pos (by rw [repl_length]; omega), Nat.sub_zero] at g3
      have := repl_get _ _ _ _ g3
      subst this
      have hx : x = .any := by
        cases c with
        | zero => simpa using g4.symm
        | succ c => simp at g4
      subst hx
      simp only [V]
      exact c3 u (Array.mem_toList_iff.2 (Array.mem_of_getElem? g5))

/-! ### Calls -/
theorem call_ok {c : Call} (hop : o.op = .call c) (hcl : ClOK P cf cl) (hp : PrOK P cf) (hg : GlobOK φ cf.ng) (he : EnvOK φ env a.tmps) (hr : Rel base φ H w) (h : opc P cf cl o.op env H k = some r) (hk : Cont base φ H w r k o a next) : o.wp P a w next Q := by
  rw [hop] at h
  simp only [opc] at h
  have hlist : (c.args.map a.eval).toList = c.args.toList.map a.eval := by simp
  cases hcal : c.callee with
  | builtin b =>
    rw [hcal] at h
    simp only at h
    obtain ⟨args, h1, h2⟩ := evL_ok hg he h
    exact opB_ok hop hcal hr h1 h2 hk
  | invoke x n => rw [hcal] at h; cases h
  | value f =>
    rw [hcal] at h
    have fin : ∀ (x : Operand), (ev cf env x fun f => evL cf env c.args.toList fun args => callV cl f args H k) = some r → c.callee = .value x → o.wp P a w next Q := by
      intro x h hx
      obtain ⟨f, h1, h2⟩ := ev_ok hg he h
      obtain ⟨args, h3, h4⟩ := evL_ok hg he h1
      unfold callV at h3
      cases f <;> simp only at h3 <;> try cases h3
      rename_i g fi ca
      simp only [V] at h2
      obtain ⟨va, vc, e, h5, h6⟩ := h2
      refine enter_ok (args := fi ++ args ++ ca) (cargs := va ++ c.args.map a.eval ++ vc) hcl hg hr h3 ?_ hk (fun fn cd g1 g2 g3 => ?_)
      · simp only [Array.toList_append, hlist]
        exact (h5.append h4).append h6
      · simp only [execOp, hop, resolve, hx, e, Deferred.ofValue, Sem.run_bind, Sem.run_pure, Result.andThen, invoke]
        exact run_callFunc g1 g2 g3
    cases f with
    | func f =>
      simp only at h
      obtain ⟨args, h1, h2⟩ := evL_ok hg he h
      have E : (execOp a.eval o).run P w = (callFunc f (c.args.map a.eval)).run P w := by
        simp only [execOp, hop, resolve, hcal, Act.eval, Deferred.ofValue, Sem.run_bind, Sem.run_pure, Result.andThen, invoke]
        simp
      cases hl : cf.pr.lookup f with
      | some n =>
        rw [hl] at h1
        simp only at h1
        exact prim_ok hp hl hr h1 (by rw [hlist]; exact h2) hk (fun cu w' e => by rw [E]; exact e)
      | none =>
        rw [hl] at h1
        simp only at h1
        exact enter_ok hcl hg hr h1 (by rw [hlist]; exact h2) hk (fun fn cd g1 g2 g3 => by rw [E]; exact run_callFunc g1 g2 g3)
    | _ => exact fin _ h hcal
end

end Go.Proofs.YtlpfhodieopmhaaGreatDoor.Ae

namespace Go.Proofs.YtlpfhodieopmhaaGreatDoor.Ae
open Go.RowKit

section
variable {P : Program} {cf : Cf} {cl : Caller} {base : Nat} {φ : Lay} {H : AH} {w : World} {o : Oper} {a : Act} {env : Env} {r : AV × AH} {next : Act → World → Prop} {Q : Exit → Act → World → Prop} {k : KV}

theorem opc_ok (hcl : ClOK P cf cl) (hp : PrOK P cf) (hg : GlobOK φ cf.ng) (he : EnvOK φ env a.tmps) (hr : Rel base φ H w) (h : opc P cf cl o.op env H k = some r) (hk : Cont base φ H w r k o a next) : o.wp P a w next Q := by
  generalize hop : o.op = op at h
  have h' : opc P cf cl o.op env H k = some r := by rw [hop]; exact h
  cases op with
  | move x => exact move_ok (.inl hop) hg he hr h hk
  | assign x => exact move_ok (.inr hop) hg he hr h hk
  | pick c x y => exact pick_ok hop hg he hr h' hk
  | alloc t => exact alloc_ok hop hr h' hk
  | box t x => exact box_ok hop hg he hr h' hk
  | build t ps => exact build_ok hop hg he hr h' hk
  | buildSlice t n ps => exact buildSlice_ok hop hg he hr h' hk
  | load t x => exact load_ok hop hg he hr h' hk
  | store t x y => exact store_ok hop hg he hr h' hk
  | nilCheck x => exact nil_ok hop hg he hr h' hk
  | binOp op t x y u => exact binOp_ok hop hg he hr h' hk
  | unOp op t x => exact unOp_ok hop hg he hr h' hk
  | convert s d x => exact convert_ok hop hg he hr h' hk
  | makeInterface t x => exact makeInterface_ok hop hg he hr h' hk
  | makeFunc f x y =>
    cases f with
    | func f => exact makeFunc_ok hop hg he hr h' hk
    | _ => simp [opc] at h
  | makeSlice t l c => exact makeSlice_ok hop hg he hr h' hk
  | slice t x lo hi mx => exact slice_ok hop hg he hr h' hk
  | fieldAddr t x i => exact fieldAddr_ok hop hg he hr h' hk
  | field t x i => exact field_ok hop hg he hr h' hk
  | indexAddr t x y => exact indexAddr_ok hop hg he hr h' hk
  | index t x y => exact index_ok hop hg he hr h' hk
  | extract x i => exact extract_ok hop hg he hr h' hk
  | call c => exact call_ok hop hcl hp hg he hr h' hk
  | _ => simp [opc] at h

/-- The state of a function's activation: what its temporaries hold. -/
structure St (n : Nat) (φ : Lay) (env : Env) (a : Act) : Prop where
  env : EnvOK φ env a.tmps
  size : a.tmps.size = n
  nod : a.defers = []

theorem put_size (d : Option Nat) (cv : Value) : (a.put d cv).tmps.size = a.tmps.size := by cases d <;> simp [Act.put]
theorem put_nod (d : Option Nat) (cv : Value) : (a.put d cv).defers = a.defers := by cases d <;> rfl

theorem St.put {n : Nat} {v : AV} {cv : Value} {φ' : Lay} {d : Option Nat} (h : St n φ env a) (hle : φ.le φ') (hv : V φ' v cv) (hd : ∀ t, d = some t → t < n) : St n φ' (psh d v env) (a.put d cv) :=
  ⟨(h.env.mono hle).put hv d (fun t ht => by rw [h.size]; exact hd t ht), by rw [put_size]; exact h.size, by rw [put_nod]; exact h.nod⟩

theorem St.mono {n : Nat} {φ' : Lay} (h : St n φ env a) (hle : φ.le φ') : St n φ' env a := ⟨h.env.mono hle, h.size, h.nod⟩

/-- What follows behind a piece of code. -/
def Then (n base : Nat) (φ : Lay) (H : AH) (w : World) (r : AV × AH) (K : KC) (next : Act → World → Prop) : Prop :=
  ∀ env' H' φ' w' a', K env' H' = some r → Step base φ H w φ' H' w' → St n φ' env' a' → next a' w'

theorem Then.step {n : Nat} {K : KC} {φ' : Lay} {H' : AH} {w' : World} (h : Then n base φ H w r K next) (s : Step base φ H w φ' H' w') : Then n base φ' H' w' r K next :=
  fun env' H'' φ'' w'' a' h1 h2 h3 => h env' H'' φ'' w'' a' h1 (s.trans h2) h3

/-- A guard that is told. -/
theorem gdP_ok {ops : Array Oper} {n j d : Nat} {want : Bool} {g : AV} {x y : RO} (hs : St n φ env a) (hgu : o.guard = some (j, want)) (hd : (ops[j]?).bind (·.dst) = some d) (hl : lk env d = some g) (h : gdP g want x y = some r) :
    (Region.wanted o (yielded ops a.tmps) = true ∧ x = some r) ∨ (Region.wanted o (yielded ops a.tmps) = false ∧ y = some r) := by
  obtain ⟨cv, h1, h2⟩ := hs.env d g hl
  unfold gdP at h
  have hyb : ∀ b, cv = .bool b → yielded ops a.tmps j = some b := fun b e => by
    subst e
    unfold yielded
    rw [hd]
    simp [h1]
  have hyt : ∀ vs, cv = .tuple vs → yielded ops a.tmps j = none := fun vs e => by
    subst e
    unfold yielded
    rw [hd]
    simp [h1]
  cases g <;> (try simp only at h) <;> first | (cases h; done) | skip
  · rename_i b
    simp only [V] at h2
    have hy := hyb b h2
    cases hb : (b == want) with
    | true =>
      rw [hb] at h
      refine .inl ⟨?_, h⟩
      simp only [Region.wanted, hgu, hy]
      simpa using hb
    | false =>
      rw [hb] at h
      refine .inr ⟨?_, h⟩
      simp only [Region.wanted, hgu, hy]
      simpa using hb
  · rename_i cs
    cases cs with
    | nil =>
      simp only [V] at h2
      obtain ⟨vs, e, _⟩ := h2
      have hy := hyt vs e
      exact .inr ⟨by simp [Region.wanted, hgu, hy], h⟩
    | cons _ _ => cases h

theorem undef_ok : V φ (.tup []) undef := by
  simp only [V]
  exact ⟨#[], rfl, by simp only [VL]⟩

theorem rgo_ok {ops : Array Oper} {n : Nat} (hcl : ClOK P cf cl) (hp : PrOK P cf) (hd : ∀ o ∈ ops.toList, ∀ t, o.dst = some t → t < n) :
    ∀ (l : List Oper) (i : Nat) (env : Env) (H : AH) (φ : Lay) (w : World) (a : Act) (K : KC), ops.toList.drop i = l → GlobOK φ cf.ng → St n φ env a → Rel base φ H w →
      rgo P cf cl ops l env H K = some r → Then n base φ H w r K (Q .normal) → wpOps P ops Q (List.range' i l.length) a w
  | [], i, env, H, φ, w, a, K, _, hg, hs, hr, h, hk => by
    simp only [List.length_nil, List.range', wpOps]
    exact hk env H φ w a h (Step.refl hr) hs
  | o :: l, i, env, H, φ, w, a, K, hl, hg, hs, hr, h, hk => by
    have ho : ops[i]? = some o := by
      have : ops.toList[i]? = some o := by
        have := congrArg (·[0]?) hl
        simpa [List.getElem?_drop] using this
      simpa using this
    have hl' : ops.toList.drop (i + 1) = l := by
      have := congrArg List.tail hl
      simpa [List.tail_drop] using this
    have hmem : o ∈ ops.toList := by
      have : ops.toList[i]? = some o := by simpa using ho
      exact List.mem_of_getElem? this
    have next : ∀ {v : AV} {cv : Value} {H' : AH} {φ' : Lay} {w' : World}, Step base φ H w φ' H' w' → V φ' v cv → rgo P cf cl ops l (psh o.dst v env) H' K = some r → wpOps P ops Q (List.range' (i + 1) l.length) (a.put o.dst cv) w' := fun s hv h =>
      rgo_ok hcl hp hd l (i + 1) _ _ _ _ _ K hl' (hg.mono s.le) (hs.put s.le hv (hd o hmem)) s.rel h (hk.step s)
    simp only [List.length_cons, List.range'_succ, wpOps, ho]
    simp only [rgo] at h
    cases hgu : o.guard with
    | none =>
      rw [hgu] at h
      simp only at h
      rw [if_pos (by simp [Region.wanted, hgu])]
      exact .inl (opc_ok hcl hp hg hs.env hr h (fun v H' φ' w' cv h1 h2 h3 => next h2 h3 h1))
    | some jw =>
      obtain ⟨j, want⟩ := jw
      rw [hgu] at h
      simp only at h
      cases hj : (ops[j]?).bind (·.dst) with
      | none => rw [hj] at h; cases h
      | some d =>
        rw [hj] at h
        simp only at h
        cases hlk : lk env d with
        | none => rw [hlk] at h; cases h
        | some g =>
          rw [hlk] at h
          simp only [jn] at h
          rcases gdP_ok hs hgu hj hlk h with ⟨h1, h2⟩ | ⟨h1, h2⟩
          · rw [if_pos h1]
            exact .inl (opc_ok hcl hp hg hs.env hr h2 (fun v H' φ' w' cv h1 h2 h3 => next h2 h3 h1))
          · rw [h1]
            simp only [Bool.false_eq_true, if_false]
            exact next (Step.refl hr) undef_ok h2
end

end Go.Proofs.YtlpfhodieopmhaaGreatDoor.Ae

namespace Go.Proofs.YtlpfhodieopmhaaGreatDoor.Ae
open Go.RowKit

/-- What it hands on does not hang on what it is handed on to. -/
def Dt {α : Type} (f : (α → RO) → RO) : Prop := ∀ k r, f k = some r → ∃ v, k v = some r ∧ ∀ k', f k' = k' v

theorem Dt.none {α : Type} : Dt (fun (_ : α → RO) => none) := fun _ _ h => by cases h
theorem Dt.pure {α : Type} (v : α) : Dt (fun (k : α → RO) => k v) := fun _ _ h => ⟨v, h, fun _ => rfl⟩
theorem Dt.bind {α β : Type} {f : (α → RO) → RO} {g : α → (β → RO) → RO} (hf : Dt f) (hg : ∀ x, Dt (g x)) : Dt (fun k => f fun x => g x k) := fun k r h => by
  obtain ⟨x, h1, h2⟩ := hf _ _ h
  obtain ⟨y, h3, h4⟩ := hg x k r h1
  exact ⟨y, h3, fun k' => by show f _ = _; rw [h2, h4]⟩
theorem Dt.ofOpt {α : Type} (x : Option α) : Dt (fun (k : α → RO) => match x with | some v => k v | .none => .none) := by
  cases x with
  | none => exact Dt.none
  | some v => exact Dt.pure v
theorem Dt.bif {α : Type} (b : Bool) {f g : (α → RO) → RO} (hf : Dt f) (hg : Dt g) : Dt (fun k => bif b then f k else g k) := by
  cases b
  · exact hg
  · exact hf

section
variable {P : Program} {cf : Cf} {cl : Caller} {base : Nat} {φ : Lay} {H : AH} {w : World} {o : Oper} {a : Act} {env : Env} {r : AV × AH} {next : Act → World → Prop} {Q : Exit → Act → World → Prop} {k : KV}

theorem ev_dt (x : Operand) : Dt (ev cf env x) := by
  unfold ev
  cases x with
  | tmp t =>
    dsimp only
    cases lk env t with
    | none => exact Dt.none
    | some v => exact Dt.pure v
  | const v =>
    dsimp only
    cases absV v with
    | none => exact Dt.none
    | some v => exact Dt.pure v
  | global g => exact Dt.bif _ (Dt.pure _) Dt.none
  | func f => exact Dt.pure _
theorem evL_dt : ∀ (xs : List Operand), Dt (evL cf env xs)
  | [] => Dt.pure _
  | x :: xs => (ev_dt x).bind (g := fun v k => evL cf env xs fun vs => k (v :: vs)) fun v => (evL_dt xs).bind (g := fun vs k => k (v :: vs)) fun vs => Dt.pure _
theorem evP_dt : ∀ (xs : List (Nat × Operand)), Dt (evP cf env xs)
  | [] => Dt.pure _
  | (i, x) :: xs => (ev_dt x).bind (g := fun v k => evP cf env xs fun vs => k ((i, v) :: vs)) fun v => (evP_dt xs).bind (g := fun vs k => k ((i, v) :: vs)) fun vs => Dt.pure _
theorem evO_dt (x : Option Operand) : Dt (evO cf env x) := by
  cases x with
  | none => exact Dt.pure _
  | some x => exact (ev_dt x).bind (g := fun v k => k (some v)) fun v => Dt.pure _
theorem szS_dt (t : TypeId) : Dt (szS P t) := by
  unfold szS
  cases P.info? t with
  | none => exact Dt.none
  | some i => exact Dt.pure _
theorem agS_dt (t : TypeId) : Dt (agS P t) := by
  unfold agS
  cases P.underlying t with
  | none => exact Dt.none
  | some i => exact Dt.pure _
theorem unS_dt (t : TypeId) : Dt (unS P t) := by
  unfold unS
  cases P.underlying t with
  | none => exact Dt.none
  | some i => exact Dt.pure _
theorem zeS_dt (t : TypeId) : Dt (fun (k : Nat × AV → RO) => zeS P t fun n v => k (n, v)) := by
  unfold zeS
  cases P.info? t with
  | none => exact Dt.none
  | some i =>
    dsimp only
    cases i.zero with
    | none => exact Dt.none
    | some z =>
      dsimp only
      cases absV z with
      | none => exact Dt.none
      | some a => exact Dt.bif _ (Dt.pure (i.size, a)) Dt.none

theorem zeS_bind {β : Type} {t : TypeId} {g : Nat → AV → (β → RO) → RO} (h : ∀ n z, Dt (g n z)) : Dt (fun q => zeS P t fun n z => g n z q) :=
  (zeS_dt t).bind (g := fun nz q => g nz.1 nz.2 q) fun nz => h nz.1 nz.2

theorem pickP_dt (c x y : AV) : Dt (pickP c x y) := by
  unfold pickP
  cases c <;> first | exact Dt.none | exact Dt.pure _
theorem bdP_dt (n : Nat) (z : List AV) (ps : List (Nat × Nat × AV)) : Dt (bdP n z ps) := by
  unfold bdP
  refine Dt.bif _ Dt.none ?_
  cases fillP n ps z with
  | none => exact Dt.none
  | some l => exact Dt.pure _
theorem nilP_dt (v : AV) : Dt (nilP v) := by
  unfold nilP
  cases v <;> first | exact Dt.none | exact Dt.pure _
theorem binP_dt (op : BinOp) (x y : AV) : Dt (binP op x y) := by
  unfold binP
  cases binV op x y with
  | none => exact Dt.none
  | some v => exact Dt.pure v

theorem unP_dt (op : UnOp) (x : AV) : Dt (unP op x) := by
  unfold unP
  cases unV op x with
  | none => exact Dt.none
  | some v => exact Dt.pure v

theorem faP_dt (n : Nat) (x : AV) : Dt (faP n x) := by
  unfold faP
  cases x <;> first | exact Dt.none | exact Dt.pure _
theorem fdP_dt (g : Bool) (m n : Nat) (x : AV) : Dt (fdP g m n x) := by
  unfold fdP
  cases x <;> try exact Dt.none
  rename_i q cs
  dsimp only
  cases partV g m n q cs with
  | none => exact Dt.none
  | some v => exact Dt.pure v
theorem iaS_dt (n : Nat) (x y : AV) : Dt (iaS n x y) := by
  unfold iaS
  cases natP y with
  | none => exact Dt.none
  | some i => cases x <;> first | exact Dt.none | exact Dt.bif _ (Dt.pure _) Dt.none
theorem iaA_dt (m n : Nat) (x y : AV) : Dt (iaA m n x y) := by
  unfold iaA
  cases natP y with
  | none => exact Dt.none
  | some i => cases x <;> first | exact Dt.none | exact Dt.bif _ (Dt.pure _) Dt.none
theorem ixS_dt (x y : AV) : Dt (ixS x y) := by
  unfold ixS
  cases natP y with
  | none => exact Dt.none
  | some i =>
    cases x <;> try exact Dt.none
    rename_i l
    simp only
    cases nth l i with
    | none => exact Dt.none
    | some b => exact Dt.pure _
theorem ixA_dt (g : Bool) (m n : Nat) (x y : AV) : Dt (ixA g m n x y) := by
  unfold ixA
  cases natP y with
  | none => exact Dt.none
  | some i =>
    cases x <;> try exact Dt.none
    rename_i q cs
    refine Dt.bif _ ?_ Dt.none
    cases partV g (Nat.mul i n) n q cs with
    | none => exact Dt.none
    | some v => exact Dt.pure v
theorem exP_dt (i : Nat) (x : AV) : Dt (exP i x) := by
  unfold exP
  cases x <;> try exact Dt.none
  rename_i cs
  dsimp only
  cases nth cs i with
  | none => exact Dt.none
  | some v => exact Dt.pure v
theorem slS_dt (lo hi : Option AV) (x : AV) : Dt (slS lo hi x) := by
  unfold slS
  cases x <;> try exact Dt.none
  rename_i s
  simp only
  cases bnd hi s.length <;> cases bnd lo 0 <;> first | exact Dt.none | exact Dt.bif _ (Dt.pure _) Dt.none
theorem slL_dt (n : Nat) (lo hi mx : Option AV) (x : AV) : Dt (slL n lo hi mx x) := by
  unfold slL
  cases x <;> try exact Dt.none
  · simp only
    cases bnd mx 0 <;> cases bnd hi 0 <;> cases bnd lo 0 <;> first | exact Dt.none | exact Dt.bif _ (Dt.pure _) Dt.none
  · rename_i b o len cap z x
    simp only
    cases bnd mx cap <;> cases bnd hi len <;> cases bnd lo 0 <;> try exact Dt.none
    refine Dt.bif _ ?_ Dt.none
    cases (mx.isSome || x)
    · exact Dt.bif _ (Dt.pure _) (Dt.pure _)
    · exact Dt.pure _
theorem slA_dt (m n : Nat) (lo hi mx : Option AV) (x : AV) : Dt (slA m n lo hi mx x) := by
  unfold slA
  cases x <;> try exact Dt.none
  rename_i b o
  simp only
  cases bnd mx m <;> cases bnd hi m <;> cases bnd lo 0 <;> first | exact Dt.none | exact Dt.bif _ (Dt.pure _) Dt.none
theorem cvI_dt (j : IntKind) (x : AV) : Dt (cvI j x) := by
  unfold cvI
  cases x <;> first | exact Dt.none | exact Dt.pure _
theorem cvSame_dt (x : AV) : Dt (cvSame x) := by
  unfold cvSame
  cases x <;> first | exact Dt.none | exact Dt.pure _
theorem lenP_dt (x : AV) : Dt (lenP x) := by
  unfold lenP
  cases lenV x with
  | none => exact Dt.none
  | some n => exact Dt.pure _
theorem capP_dt (x : AV) : Dt (capP x) := by
  unfold capP
  cases x <;> try exact Dt.none
  · exact Dt.pure _
  · rename_i x
    cases x
    · exact Dt.none
    · exact Dt.pure _
theorem mmP_dt (m : Bool) (l : List AV) : Dt (mmP m l) := by
  unfold mmP
  cases l with
  | nil => exact Dt.none
  | cons x l =>
    show Dt fun k => match mmL m x l with | some v => k v | none => none
    cases mmL m x l with
    | none => exact Dt.none
    | some v => exact Dt.pure v
theorem sdP_dt (x : AV) : Dt (sdP x) := by
  unfold sdP
  cases x <;> try exact Dt.none
  · exact Dt.pure _
  · exact Dt.bif _ Dt.none (Dt.pure _)
theorem eqT_dt (td : TypeDesc) (t : TypeId) (c : Bool) (x y : AV) : Dt (eqT P td t c x y) := by
  unfold eqT
  cases td <;> try exact Dt.none
  · cases x <;> try exact Dt.none
    cases y <;> first | exact Dt.none | exact Dt.pure _
  · cases x <;> try exact Dt.none
    · cases y <;> first | exact Dt.none | exact Dt.pure _
    · cases y <;> first | exact Dt.none | exact Dt.pure _ | exact (szS_dt _).bind fun _ => Dt.bif _ (Dt.pure _) Dt.none
  · cases x <;> try exact Dt.none
    all_goals cases y <;> first | exact Dt.none | exact Dt.pure _
  · rename_i fs
    cases x <;> try exact Dt.none
    cases y <;> try exact Dt.none
    rename_i n xs m ys
    dsimp only
    cases flatF P 0 fs.toList with
    | none => exact Dt.none
    | some ks =>
      refine Dt.bif _ ?_ Dt.none
      cases eqN ks xs ys with
      | none => exact Dt.none
      | some b => exact Dt.pure b
  · cases x <;> try exact Dt.none
    all_goals cases y <;> first | exact Dt.none | exact Dt.pure _
  · cases x <;> try exact Dt.none
    all_goals cases y <;> first | exact Dt.none | exact Dt.pure _ | exact Dt.bif _ (Dt.pure _) Dt.none

theorem eqO_dt (t : TypeId) (c : Bool) (x y : AV) : Dt (eqO P t c x y) := by
  unfold eqO
  have key : Dt (fun k => unS P t fun td => eqT P td t c x y k) := (unS_dt t).bind fun td => eqT_dt td t c x y
  cases x <;> first | exact key | skip
  · cases y <;> first | exact Dt.none | exact Dt.bif _ (Dt.pure _) Dt.none
  · cases y <;> first | exact Dt.none | exact Dt.pure _

/-- An operation that does not ask memory. -/
theorem pure_dt {op : Op} (h : opK P op = 1) : Dt (fun q => opc P cf cl op env ⟨.e, 0⟩ fun v _ => q v) ∧ ∀ H k, opc P cf cl op env H k = opc P cf cl op env ⟨.e, 0⟩ fun v _ => k v H := by
  cases op <;> simp only [opK] at h <;> try cases h
  case move x => exact ⟨by simp only [opc]; exact ev_dt x, fun _ _ => by simp only [opc]⟩
  case assign x => exact ⟨by simp only [opc]; exact ev_dt x, fun _ _ => by simp only [opc]⟩
  case pick c x y =>
    refine ⟨?_, fun _ _ => by simp only [opc]⟩
    simp only [opc]
    exact (ev_dt c).bind fun c => (ev_dt x).bind fun x => (ev_dt y).bind fun y => pickP_dt c x y
  case build t ps =>
    refine ⟨?_, fun _ _ => by simp only [opc]⟩
    simp only [opc]
    refine (evP_dt _).bind fun ps => ?_
    refine zeS_bind fun n z => (unS_dt t).bind fun td => ?_
    cases td <;> try exact Dt.none
    · exact (szS_dt _).bind fun es => bdP_dt _ _ _
    · rename_i fs
      dsimp only
      cases plS P fs.toList with
      | none => exact Dt.none
      | some pl =>
        dsimp only
        cases placesS pl ps with
        | none => exact Dt.none
        | some l => exact bdP_dt _ _ _
  case nilCheck x =>
    refine ⟨?_, fun _ _ => by simp only [opc]⟩
    simp only [opc]
    exact (ev_dt x).bind fun x => nilP_dt x
  case binOp op t x y u =>
    refine ⟨?_, fun _ _ => by cases op <;> simp only [opc]⟩
    simp only [opc]
    refine (ev_dt x).bind fun x => (ev_dt y).bind fun y => ?_
    cases op <;> first | exact (eqO_dt _ _ _ _).bind (g := fun c q => q _) fun c => Dt.pure _ | exact binP_dt _ x y
  case unOp op t x =>
    refine ⟨?_, fun _ _ => by simp only [opc]⟩
    simp only [opc]
    exact (ev_dt x).bind fun x => unP_dt op x
  case makeInterface t x =>
    refine ⟨?_, fun _ _ => by simp only [opc]⟩
    simp only [opc]
    refine (ev_dt x).bind fun x => (unS_dt t).bind fun td => ?_
    cases td <;> first | exact Dt.none | exact Dt.pure _
  case makeFunc f x y =>
    cases f with
    | func f =>
      refine ⟨?_, fun _ _ => by simp only [opc]⟩
      simp only [opc]
      exact (evL_dt _).bind fun x => (evL_dt _).bind fun y => Dt.pure _
    | _ => exact ⟨by simp only [opc]; exact Dt.none, fun _ _ => by simp only [opc]⟩
  case slice t x lo hi mx =>
    refine ⟨?_, fun _ _ => by simp only [opc]⟩
    simp only [opc]
    refine (ev_dt x).bind fun x => (evO_dt lo).bind fun lo => (evO_dt hi).bind fun hi => (evO_dt mx).bind fun mx => (unS_dt t).bind fun td => ?_
    cases td <;> try exact Dt.none
    · cases mx
      · exact slS_dt _ _ _
      · exact Dt.none
    · exact Dt.bif _ Dt.none ((szS_dt _).bind fun n => slL_dt _ _ _ _ _)
    · exact Dt.bif _ Dt.none ((szS_dt _).bind fun n => slA_dt _ _ _ _ _ _)
  case fieldAddr t x i =>
    refine ⟨?_, fun _ _ => by simp only [opc]⟩
    simp only [opc]
    refine (ev_dt x).bind fun x => (unS_dt t).bind fun td => ?_
    cases td <;> try exact Dt.none
    rename_i fs
    dsimp only
    cases fs[i]? with
    | none => exact Dt.none
    | some f => exact (szS_dt _).bind fun n => Dt.bif _ Dt.none (faP_dt _ _)
  case field t x i =>
    refine ⟨?_, fun _ _ => by simp only [opc]⟩
    simp only [opc]
    refine (ev_dt x).bind fun x => (unS_dt t).bind fun td => ?_
    cases td <;> try exact Dt.none
    rename_i fs
    dsimp only
    cases fs[i]? with
    | none => exact Dt.none
    | some f => exact (agS_dt _).bind fun g => (szS_dt _).bind fun n => fdP_dt _ _ _ _
  case indexAddr t x y =>
    refine ⟨?_, fun _ _ => by simp only [opc]⟩
    simp only [opc]
    refine (ev_dt x).bind fun x => (ev_dt y).bind fun y => (unS_dt t).bind fun td => ?_
    cases td <;> try exact Dt.none
    · exact (szS_dt _).bind fun n => iaS_dt _ _ _
    · exact (szS_dt _).bind fun n => iaA_dt _ _ _ _
  case index t x y =>
    refine ⟨?_, fun _ _ => by simp only [opc]⟩
    simp only [opc]
    refine (ev_dt x).bind fun x => (ev_dt y).bind fun y => (unS_dt t).bind fun td => ?_
    cases td <;> try exact Dt.none
    · exact ixS_dt _ _
    · exact (agS_dt _).bind fun g => (szS_dt _).bind fun n => ixA_dt _ _ _ _ _
  case extract x i =>
    refine ⟨?_, fun _ _ => by simp only [opc]⟩
    simp only [opc]
    exact (ev_dt x).bind fun x => exP_dt _ _
  case convert s d x =>
    cases hd : P.underlying d with
    | none => rw [hd] at h; cases h
    | some dd =>
      rw [hd] at h
      cases hs : P.underlying s with
      | none =>
        refine ⟨?_, fun _ _ => by simp only [opc, unS, hs]⟩
        simp only [opc, unS, hs]
        exact (ev_dt x).bind fun x => Dt.none
      | some sd =>
        rw [hs] at h
        cases dd <;> simp only at h <;> try cases h
        · refine ⟨?_, fun _ _ => by simp only [opc, unS, hs, hd]⟩
          simp only [opc, unS, hs, hd]
          exact (ev_dt x).bind fun x => cvI_dt _ _
        · cases sd <;> simp only at h <;> try cases h
          refine ⟨?_, fun _ _ => by simp only [opc, unS, hs, hd]⟩
          simp only [opc, unS, hs, hd]
          exact (ev_dt x).bind fun x => cvSame_dt _
  case call c =>
    cases hc : c.callee with
    | builtin b =>
      rw [hc] at h
      have hB : ∀ args, Dt (fun q => opB P b c.argTypes args ⟨.e, 0⟩ fun v _ => q v) ∧ ∀ H k, opB P b c.argTypes args H k = opB P b c.argTypes args ⟨.e, 0⟩ fun v _ => k v H := by
        intro args
        cases b <;> simp only at h <;> try cases h
        · refine ⟨?_, fun _ _ => by simp only [opB]⟩
          simp only [opB]
          rcases args with _ | ⟨x, _ | ⟨y, z⟩⟩ <;> try exact Dt.none
          dsimp only
          cases c.argTypes[0]? with
          | none => exact Dt.none
          | some t =>
            refine (unS_dt t).bind fun td => ?_
            cases td <;> first | exact Dt.none | exact capP_dt x
        · refine ⟨?_, fun _ _ => by simp only [opB]⟩
          simp only [opB]
          rcases args with _ | ⟨x, _ | ⟨y, z⟩⟩ <;> try exact Dt.none
          dsimp only
          cases c.argTypes[0]? with
          | none => exact Dt.none
          | some t =>
            refine (unS_dt t).bind fun td => ?_
            cases td <;> try exact Dt.none
            · cases x <;> first | exact Dt.none | exact lenP_dt _
            · cases x <;> first | exact Dt.none | exact lenP_dt _
            · exact Dt.pure _
        · refine ⟨?_, fun _ _ => by simp only [opB]⟩
          simp only [opB]
          exact mmP_dt _ _
        · refine ⟨?_, fun _ _ => by simp only [opB]⟩
          simp only [opB]
          exact mmP_dt _ _
        · refine ⟨?_, fun _ _ => by simp only [opB]⟩
          simp only [opB]
          rcases args with _ | ⟨x, _ | ⟨y, z⟩⟩ <;> first | exact Dt.none | exact sdP_dt x
      refine ⟨?_, fun H k => ?_⟩
      · simp only [opc, hc]
        exact (evL_dt _).bind fun args => (hB args).1
      · simp only [opc, hc]
        congr 1
        funext args
        exact (hB args).2 H k
    | value f => rw [hc] at h; cases h
    | invoke x n => rw [hc] at h; cases h
end

end Go.Proofs.YtlpfhodieopmhaaGreatDoor.Ae

namespace Go.Proofs.YtlpfhodieopmhaaGreatDoor.Ae
open Go.RowKit

/-- A block was made, and holds what it is told to hold. -/
structure NewF (φ : Lay) (w w' : World) (wh : Bool) (elem es n : Nat) (rows : Tm (List AV)) (mk : Nat → AV) (cv : Value) (C : Array Value) (lo hi : Nat) : Prop where
  below : Below w.heap.size w w'
  size : w.heap.size < w'.heap.size
  block : w'.heap[w.heap.size]? = some (.cells C elem (lo, hi))
  one : ∀ u ∈ C.toList, u.oneCell' = true
  fits : n * es ≤ C.size
  whole : wh = true → C.size = n * es
  free : ∀ i, i < C.size → ¬ (lo ≤ i ∧ i < hi)
  holds : ∀ q row c x v, q < n → c < es → rows.get q = some row → row[c]? = some x → C[q * es + c]? = some v → V φ x v
  val : ∀ b ψ, ψ b = some (w.heap.size, 0, C.size) → V ψ (mk b) cv

/-- The block that a value points to. -/
def blk : AV → Option Nat
  | .ptr b _ => some b
  | .slice b _ _ _ _ _ => some b
  | _ => none

section
variable {P : Program} {cf : Cf} {cl : Caller} {base : Nat} {φ : Lay} {H : AH} {w : World} {o : Oper} {a : Act} {env : Env} {r : AV × AH} {next : Act → World → Prop} {Q : Exit → Act → World → Prop} {k : KV}

/-- What an operation that makes a block is. -/
def Mk (P : Program) (cf : Cf) (cl : Caller) (op : Op) (env : Env) (wh : Bool) (elem es n : Nat) (rows : Tm (List AV)) (mk : Nat → AV) : Prop :=
  (∀ H k, opc P cf cl op env H k = newO wh elem es n rows H k mk) ∧ (∀ b, blk (mk b) = some b) ∧
  ∀ (o : Oper) (φ : Lay) (a : Act) (w : World) (next : Act → World → Prop) (Q : Exit → Act → World → Prop), o.op = op → GlobOK φ cf.ng → EnvOK φ env a.tmps →
    (∀ w' cv C lo hi, NewF φ w w' wh elem es n rows mk cv C lo hi → next (a.put o.dst cv) w') → o.wp P a w next Q

theorem var_new {t : TypeId} {size : Nat} {v : AV} {cv : Value} (hs : v.width = size) (hz : size ≠ 0) (hv : V φ v cv) :
    NewF φ w (w.alloc (.cells cv.cells t)) true t size 1 (.n (some v.cells) .e .e) (fun b => .ptr b 0) (.pointer (some ⟨w.heap.size, 0, none⟩)) cv.cells 0 0 := by
  obtain ⟨c1, c2, c3⟩ := hv.cells (by omega)
  refine ⟨(Below.refl _ _).alloc (Nat.le_refl _) _, by simp, heap_alloc_new _ _, c2, by omega, fun _ => by omega, fun _ _ => by omega, fun q row c x u h2 h3 h4 h5 h6 => ?_, fun b ψ hb => by simp only [V]; exact ⟨_, _, _, hb, rfl⟩⟩
  have hq : q = 0 := by omega
  subst hq
  have h4' : some v.cells = some row := h4
  cases h4'
  rw [Nat.zero_mul, Nat.zero_add] at h6
  exact c3.get h5 (by simpa using h6)

theorem newV_eq {elem size : Nat} {v : AV} (h : newV elem size v H k = some r) : v.width = size ∧ size ≠ 0 ∧ ∀ H k, newV elem size v H k = newO true elem size 1 (.n (some v.cells) .e .e) H k fun b => .ptr b 0 := by
  unfold newV at h
  cases hc : (Nat.beq v.width size && !(Nat.beq size 0)) with
  | false => rw [hc] at h; cases h
  | true =>
    simp only [Bool.and_eq_true, Bool.not_eq_true'] at hc
    refine ⟨Nat.eq_of_beq_eq_true hc.1, fun e => ?_, fun H k => ?_⟩
    · rw [e] at hc; exact absurd hc.2 (by decide)
    · unfold newV
      rw [hc.1, hc.2]
      rfl

theorem zeS_eq {t : TypeId} {k : Nat → AV → RO} (h : zeS P t k = some r) : ∃ i z v, P.info? t = some i ∧ i.zero = some z ∧ (∀ φ, V φ v z) ∧ v.width = i.size ∧ k i.size v = some r ∧ ∀ k' : Nat → AV → RO, zeS P t k' = k' i.size v := by
  unfold zeS at h
  cases hi : P.info? t with
  | none => rw [hi] at h; cases h
  | some i =>
    rw [hi] at h
    simp only at h
    cases hz : i.zero with
    | none => rw [hz] at h; cases h
    | some z =>
      rw [hz] at h
      simp only at h
      cases hv : absV z with
      | none => rw [hv] at h; cases h
      | some v =>
        rw [hv] at h
        simp only at h
        cases hb : Nat.beq v.width i.size with
        | false => rw [hb] at h; cases h
        | true =>
          rw [hb] at h
          refine ⟨i, z, v, rfl, hz, fun φ => absV_ok φ hv, Nat.eq_of_beq_eq_true hb, h, fun k' => ?_⟩
          unfold zeS
          simp only [hi, hz, hv, hb, cond_true]

theorem alloc_new {t : TypeId} (h : opc P cf cl (.alloc t) env H k = some r) : ∃ wh elem es n rows mk, Mk P cf cl (.alloc t) env wh elem es n rows mk := by
  simp only [opc] at h
  obtain ⟨i, z, v, g1, g2, g3, g4, h1, h2⟩ := zeS_eq h
  obtain ⟨h3, h4, h5⟩ := newV_eq h1
  refine ⟨true, t, i.size, 1, .n (some v.cells) .e .e, fun b => .ptr b 0, fun H k => ?_, fun b => rfl, fun o φ a w next Q hop hg he hn => ?_⟩
  · simp only [opc]
    rw [h2]
    exact h5 H k
  · exact wp_val (by simp [execOp, hop, Instr.alloc, newVar, newRow, Sem.run_bind, Result.andThen, run_zero g1 g2]) (hn _ _ _ _ _ (var_new h3 h4 (g3 φ)))

theorem box_new {t : TypeId} {x : Operand} (h : opc P cf cl (.box t x) env H k = some r) : ∃ wh elem es n rows mk, Mk P cf cl (.box t x) env wh elem es n rows mk := by
  simp only [opc] at h
  obtain ⟨v, h1, h2⟩ := ev_dt x _ r h
  obtain ⟨s, h3, h4⟩ := szS_dt t _ r h1
  obtain ⟨h5, h6, h7⟩ := newV_eq h3
  refine ⟨true, t, s, 1, .n (some v.cells) .e .e, fun b => .ptr b 0, fun H k => ?_, fun b => rfl, fun o φ a w next Q hop hg he hn => ?_⟩
  · simp only [opc]
    rw [h2, h4]
    exact h7 H k
  · obtain ⟨v', g1, g2⟩ := ev_ok (r := (v, ⟨.e, 0⟩)) (k := fun v => some (v, ⟨.e, 0⟩)) hg he (x := x) (by rw [h2])
    cases g1
    exact wp_val (by simp [execOp, hop, Instr.box, newVar, newRow, Sem.run_bind, Result.andThen]) (hn _ _ _ _ _ (var_new h5 h6 g2))

theorem unS_eq {t : TypeId} {k : TypeDesc → RO} (h : unS P t k = some r) : ∃ d, P.underlying t = some d ∧ k d = some r ∧ ∀ k' : TypeDesc → RO, unS P t k' = k' d := by
  unfold unS at h
  cases hd : P.underlying t with
  | none => rw [hd] at h; cases h
  | some d =>
    rw [hd] at h
    exact ⟨d, rfl, h, fun k' => by simp only [unS, hd]⟩

theorem evV {x : Operand} {v : AV} (h : ∀ k', ev cf env x k' = k' v) (hg : GlobOK φ cf.ng) (he : EnvOK φ env a.tmps) : V φ v (a.eval x) := by
  obtain ⟨v', g1, g2⟩ := ev_ok (r := (v, ⟨.e, 0⟩)) (k := fun v => some (v, ⟨.e, 0⟩)) hg he (x := x) (by rw [h])
  cases g1
  exact g2

theorem evPV {xs : List (Nat × Operand)} {ps : List (Nat × AV)} (h : ∀ k', evP cf env xs k' = k' ps) (hg : GlobOK φ cf.ng) (he : EnvOK φ env a.tmps) : VN φ ps (xs.map fun (i, x) => (i, a.eval x)) := by
  have hk : (evP cf env xs fun q => @ite RO (q = ps) (Classical.propDecidable _) (some (.any, ⟨.e, 0⟩)) none) = some (.any, ⟨.e, 0⟩) := by rw [h, if_pos rfl]
  obtain ⟨q, h1, h2⟩ := evP_ok hg he hk
  by_cases e : q = ps
  · rw [← e]; exact h2
  · rw [if_neg e] at h1; cases h1

theorem buildSlice_new {t : TypeId} {len : Nat} {parts : Array (Nat × Operand)} (h : opc P cf cl (.buildSlice t len parts) env H k = some r) : ∃ wh elem es n rows mk, Mk P cf cl (.buildSlice t len parts) env wh elem es n rows mk := by
  simp only [opc] at h
  obtain ⟨ps, h1, h1'⟩ := evP_dt _ _ r h
  obtain ⟨td, hd, h3, h3'⟩ := unS_eq h1
  cases td <;> simp only at h3 <;> try cases h3
  rename_i elem
  obtain ⟨i, z, za, h4, h5, h6, h7, h8, h8'⟩ := zeS_eq h3
  unfold bsP at h8
  cases hrs : rowsOf za.cells i.size len 0 ps with
  | none => rw [hrs] at h8; cases h8
  | some rs =>
    rw [hrs] at h8
    simp only at h8
    cases hc : (Nat.beq i.size 0 || !(Nat.ble (Nat.mul len i.size) 16777216)) with
    | true => rw [hc] at h8; cases h8
    | false =>
      have hc0 := hc
      simp only [Bool.or_eq_false_iff, Bool.not_eq_false', Nat.ble_eq] at hc
      have hz : i.size ≠ 0 := fun e => by rw [e] at hc; exact absurd hc.1 (by decide)
      have hlim : len * i.size ≤ 16777216 := hc.2
      refine ⟨false, elem, i.size, len, putRows .e 0 rs, fun b => .slice b 0 len len i.size true, fun H k => ?_, fun b => rfl, fun o φ a w next Q hop hg he hn => ?_⟩
      · simp only [opc]
        rw [h1', h3']
        simp only
        rw [h8']
        unfold bsP
        rw [hrs]
        simp only
        rw [hc0]
        rfl
      have h2 := evPV h1' hg he
      obtain ⟨z1, z2, z3⟩ := (h6 φ).cells (by omega)
      rw [h7] at z1
      have hparts : (parts.map fun (i, x) => (i, a.eval x)).toList = parts.toList.map fun (i, x) => (i, a.eval x) := by simp
      obtain ⟨cells', c1, c2, c3, _, c5, c6⟩ := rowsOf_ok (cells := zeros z.cells (len * i.size)) hz hrs h2 (by rw [zeros_size, Nat.zero_add]) (zeros_mem (by omega) z2) (fun q c x v _ hc hx hv => zeros_row z1 hz z3 hc hx hv)
      rw [zeros_size] at c2
      refine wp_val (w' := w.alloc (.cells cells' elem)) (cv := .slice (some ⟨w.heap.size, 0, none⟩) len len) ?_ ?_
      · by_cases e : len * i.size = 0
        · have c0 : Instr.fill (fun i_1 => some (i_1 * i.size, i.size)) ((Array.range 0).map fun _ => default) (parts.toList.map fun x => (x.fst, a.eval x.snd)) = some cells' := by
            rw [← c1, e]
            have : zeros z.cells 0 = (Array.range 0).map fun _ => (default : Value) := by simp [zeros]
            rw [this]
          simp [execOp, hop, Instr.buildSlice, Sem.run_bind, Result.andThen, run_under hd, run_size h4, e, newRow]
          rw [c0]
          simp
        · unfold zeros at c1
          have c1' : Instr.fill (fun i_1 => some (i_1 * i.size, i.size)) ((Array.range (len * i.size)).map (z.cells[· % z.cells.size]!)) (parts.toList.map fun (i, x) => (i, a.eval x)) = some cells' := c1
          simp only [execOp, hop, Instr.buildSlice, Sem.run_bind, Result.andThen, run_under hd, run_size h4]
          rw [if_neg (show ¬ len * i.size > 2 ^ 24 by omega)]
          simp only [e, if_false, Sem.run_bind, Sem.run_pure, Result.andThen, run_zero h4 h5, hparts, c1', newRow]
          simp [Sem.run_bind, Result.andThen]
      · refine hn _ _ cells' 0 0 ⟨(Below.refl _ _).alloc (Nat.le_refl _) _, by simp, heap_alloc_new _ _, c3, by rw [c2]; exact Nat.le_refl _, (fun e => by cases e), (fun _ _ => by omega),
          (fun q row c x u g1 g2 g3 g4 g5 => ?_), (fun b ψ hb => by simp only [V]; exact ⟨_, _, _, len, hb, rfl, Nat.le_refl _, fun _ => rfl, fun e => by cases e⟩)⟩
        rw [putRows_get, if_pos (by omega), Nat.sub_zero] at g3
        exact c6 q row c x u (Nat.zero_le _) g2 (by simpa using g3) g4 g5

theorem makeSlice_new {t : TypeId} {l c : Operand} (h : opc P cf cl (.makeSlice t l c) env H k = some r) : ∃ wh elem es n rows mk, Mk P cf cl (.makeSlice t l c) env wh elem es n rows mk := by
  simp only [opc] at h
  obtain ⟨vl, h1, h1'⟩ := ev_dt _ _ r h
  obtain ⟨vc, h3, h3'⟩ := ev_dt _ _ r h1
  obtain ⟨td, hd, h5, h5'⟩ := unS_eq h3
  cases td <;> simp only at h5 <;> try cases h5
  rename_i elem
  cases hi : P.info? elem with
  | none => rw [hi] at h5; cases h5
  | some i =>
    rw [hi] at h5
    simp only at h5
    obtain ⟨i', z, za, h6, h7, h8, h9, h10, h10'⟩ := zeS_eq h5
    rw [hi] at h6
    cases h6
    unfold msP at h10
    cases hl : natP vl with
    | none => rw [hl] at h10; cases h10
    | some ln =>
      cases hc : natP vc with
      | none => rw [hl, hc] at h10; cases h10
      | some cn =>
        rw [hl, hc] at h10
        simp only at h10
        cases hb : (Nat.ble ln cn && Nat.ble cn 1048576 && Nat.ble (Nat.mul cn i.bytes) 1048576 && !(Nat.beq i.size 0)) with
        | false => rw [hb] at h10; cases h10
        | true =>
          have hb0 := hb
          simp only [Bool.and_eq_true, Bool.not_eq_true', Nat.ble_eq] at hb
          obtain ⟨⟨⟨b1, b2⟩, b3⟩, b4⟩ := hb
          replace b3 : cn * i.bytes ≤ 1048576 := b3
          have hz : i.size ≠ 0 := fun e => by rw [e] at b4; exact absurd b4 (by decide)
          refine ⟨false, elem, i.size, cn, putRows .e 0 (repl za.cells cn), fun b => .slice b 0 ln cn i.size true, fun H k => ?_, fun b => rfl, fun o φ a w next Q hop hg he hn => ?_⟩
          · simp only [opc]
            rw [h1', h3', h5']
            simp only [hi]
            rw [h10']
            unfold msP
            rw [hl, hc]
            simp only
            rw [hb0]
            rfl
          have h2 := evV h1' hg he
          have h4 := evV h3' hg he
          obtain ⟨z1, z2, z3⟩ := (h8 φ).cells (by omega)
          rw [h9] at z1
          obtain ⟨jl, el⟩ := natP_ok hl h2
          obtain ⟨jc, ec⟩ := natP_ok hc h4
          refine wp_val (w' := w.alloc (.cells (zeros z.cells (cn * i.size)) elem)) (cv := .slice (some ⟨w.heap.size, 0, none⟩) ln cn) ?_ ?_
          · have hcap : ¬ (i.bytes : Int) * (cn : Int) > 2 ^ 48 := by
              have : (i.bytes : Int) * (cn : Int) = ((cn * i.bytes : Nat) : Int) := by rw [Nat.mul_comm]; simp
              rw [this]
              have h5 : (2 : Int) ^ 48 = 281474976710656 := by decide
              omega
            have hcap' : ¬ 281474976710656 < (i.bytes : Int) * (cn : Int) := by
              have h5 : (2 : Int) ^ 48 = 281474976710656 := by decide
              rw [h5] at hcap
              exact hcap
            have hroom : ¬ cn * i.bytes > roomBytes := by
              have h5 : roomBytes = 140737488355328 := by decide
              omega
            have b1' : ¬ (ln : Int) > (cn : Int) := by omega
            have n1 : ¬ (ln : Int) < 0 := by omega
            have n2 : ¬ (cn : Int) < 0 := by omega
            simp only [execOp, hop, Instr.makeSlice, Sem.run_bind, Result.andThen, run_under hd, el, ec, asInt, asIntOf, Sem.run_pure, run_info hi, wrap_small b2, wrap_small (Nat.le_trans b1 b2)]
            by_cases e : cn * i.size = 0
            · simp [hcap', hroom, b1', n1, n2, e, askRoom, Sem.run_bind, Result.andThen, run_size hi, newRow, zeros]
              exact congrArg (fun c => w.alloc (.cells c elem)) (by apply Array.ext <;> simp)
            · simp [hcap', hroom, b1', n1, n2, e, askRoom, Sem.run_bind, Result.andThen, run_size hi, run_zero hi h7, newRow, zeros]
          · refine hn _ _ (zeros z.cells (cn * i.size)) 0 0 ⟨(Below.refl _ _).alloc (Nat.le_refl _) _, by simp, heap_alloc_new _ _, zeros_mem (by omega) z2, by rw [zeros_size]; exact Nat.le_refl _, (fun e => by cases e), (fun _ _ => by omega),
              (fun q row c x u g1 g2 g3 g4 g5 => ?_), (fun b ψ hb => by simp only [V]; exact ⟨_, _, _, cn, hb, rfl, Nat.le_refl _, fun _ => rfl, fun e => by cases e⟩)⟩
            rw [putRows_get, if_pos (by rw [repl_length]; omega), Nat.sub_zero] at g3
            have := repl_get _ _ _ _ g3
            subst this
            exact zeros_row z1 hz z3 g2 g4 g5

theorem convert_new {src dst : TypeId} {x : Operand} (hk : opK P (.convert src dst x) = 3) (h : opc P cf cl (.convert src dst x) env H k = some r) : ∃ wh elem es n rows mk, Mk P cf cl (.convert src dst x) env wh elem es n rows mk := by
  simp only [opc] at h
  obtain ⟨v, h1, h1'⟩ := ev_dt _ _ r h
  obtain ⟨s, hs, h3, h3'⟩ := unS_eq h1
  obtain ⟨d, hd, h5, h5'⟩ := unS_eq h3
  simp only [opK, hd] at hk
  cases d <;> simp only at hk h5 <;> try (first | cases hk | cases h5)
  · cases s <;> simp only [hs] at hk <;> cases hk
  cases s <;> simp only at h5 <;> try cases h5
  rename_i e
  obtain ⟨ed, hed, h7, h7'⟩ := unS_eq h5
  cases ed <;> first | (cases h7; done) | skip
  rename_i kk
  cases kk <;> first | (cases h7; done) | skip
  unfold cvB at h7
  cases v <;> simp only at h7 <;> try cases h7
  rename_i s
  refine ⟨false, e, 1, s.length, putRows .e 0 (s.map fun b => [.int .u8 (Int.ofNat b.toNat)]), fun b => .slice b 0 s.length s.length 1 false, fun H k => ?_, fun b => rfl, fun o φ a w next Q hop hg he hn => ?_⟩
  · simp only [opc]
    rw [h1', h3', h5']
    simp only
    rw [h7']
    rfl
  have hv := evV h1' hg he
  simp only [V] at hv
  obtain ⟨w', C, cap, g1, g2, g3, g4, g5, g6, g7, g8⟩ := run_stringToBytes (P := P) (w := w) e s
  refine wp_val (w' := w') (cv := .slice (some ⟨w.heap.size, 0, none⟩) s.length cap) ?_ (hn _ _ C _ _ ⟨g3, g4, g5, g7, by omega, (fun e => by cases e), (fun i hi => by omega), (fun q row c x u i1 i2 i3 i4 i5 => ?_), (fun b ψ hb => ?_)⟩)
  · have e : (convert src dst (a.eval x)).run P w = .ok (.slice (some ⟨w.heap.size, 0, none⟩) s.length cap) w' := by
      rw [hv]
      simp [convert, Sem.run_bind, Result.andThen, run_under hs, run_under hd, run_under hed, g1]
    simp [execOp, hop, Sem.run_bind, Result.andThen, e]
  · rw [putRows_get] at i3
    simp only [List.length_map, Nat.zero_add, Nat.zero_le, true_and, Nat.sub_zero, i1, if_true] at i3
    have hc : c = 0 := by omega
    subst hc
    rw [List.getElem?_map] at i3
    cases hb : s[q]? with
    | none => rw [hb] at i3; cases i3
    | some b =>
      rw [hb] at i3
      cases i3
      simp at i4
      subst i4
      have := g8 q b hb
      rw [show q * 1 + 0 = q by omega, this] at i5
      cases i5
      simp only [V]
  · simp only [V]
    exact ⟨_, _, _, _, hb, rfl, g2, (fun e => by cases e), fun _ => by omega⟩
end

end Go.Proofs.YtlpfhodieopmhaaGreatDoor.Ae

namespace Go.Proofs.YtlpfhodieopmhaaGreatDoor.Ae
open Go.RowKit

section
variable {P : Program} {cf : Cf} {cl : Caller} {base : Nat} {φ : Lay} {H : AH} {w : World} {o : Oper} {a : Act} {env env' : Env} {r : AV × AH} {next : Act → World → Prop} {Q : Exit → Act → World → Prop} {k : KV}

/-- A load: what it yields hangs on the block alone that it looks into. -/
theorem load_dt {t : TypeId} {x : Operand} (h : opc P cf cl (.load t x) env H k = some r) :
    ∃ v, k v H = some r ∧ ∀ H2, (∀ b o, H.objs.get b = some o → H2.objs.get b = some o) → ∀ k', opc P cf cl (.load t x) env H2 k' = k' v H2 := by
  simp only [opc] at h
  obtain ⟨p, h1, h1'⟩ := ev_dt _ _ r h
  obtain ⟨g, h2, h2'⟩ := agS_dt t _ r h1
  cases g with
  | true =>
    simp only at h2
    obtain ⟨s, h3, h3'⟩ := szS_dt t _ r h2
    unfold ldA at h3
    cases p <;> simp only at h3 <;> try cases h3
    rename_i b off
    cases hb : H.objs.get b with
    | none => rw [hb] at h3; cases h3
    | some ob =>
      rw [hb] at h3
      simp only at h3
      cases hc : rdCells ob off s with
      | none => rw [hc] at h3; cases h3
      | some cs =>
        rw [hc] at h3
        refine ⟨_, h3, fun H2 hk k' => ?_⟩
        simp only [opc]
        rw [h1', h2']
        simp only
        rw [h3']
        simp only [ldA, hk b ob hb, hc]
  | false =>
    simp only at h2
    unfold ld1 at h2
    cases p <;> simp only at h2 <;> try cases h2
    rename_i b off
    cases hb : H.objs.get b with
    | none => rw [hb] at h2; cases h2
    | some ob =>
      rw [hb] at h2
      simp only at h2
      cases hc : rdCells ob off 1 with
      | none => rw [hc] at h2; cases h2
      | some cs =>
        rw [hc] at h2
        cases cs with
        | nil => cases h2
        | cons y cs =>
          refine ⟨_, h2, fun H2 hk k' => ?_⟩
          simp only [opc]
          rw [h1', h2']
          simp only [ld1, hk b ob hb, hc]

theorem same1_ok {x y : AV} {cv : Value} (h : same1 x y = true) (hv : V φ y cv) : V φ x cv := by
  cases x with
  | func f fi ca =>
    cases fi <;> cases ca <;> simp only [same1] at h <;> (try (cases h; done))
    cases y with
    | func g fi' ca' =>
      cases fi' <;> cases ca' <;> simp only at h <;> (try (cases h; done))
      have e := Nat.eq_of_beq_eq_true h
      subst e
      exact hv
    | _ => cases h
  | bool b =>
    cases y <;> simp only [same1] at h <;> (try (cases h; done))
    simp at h; subst h; exact hv
  | int k n =>
    cases y <;> simp only [same1] at h <;> (try (cases h; done))
    simp only [Bool.and_eq_true] at h
    have e1 := eqK_ok h.1
    have e2 := h.2
    rw [eqI_eq] at e2
    have e2 := eq_of_beq e2
    subst e1 e2
    exact hv
  | str s =>
    cases y <;> simp only [same1] at h <;> (try (cases h; done))
    rw [eqB_eq] at h
    have e := eq_of_beq h
    subst e
    exact hv
  | nilp => cases y <;> simp only [same1] at h <;> first | exact hv | cases h
  | ptr b o =>
    cases y <;> simp only [same1] at h <;> (try (cases h; done))
    simp only [Bool.and_eq_true] at h
    have e1 := Nat.eq_of_beq_eq_true h.1
    have e2 := Nat.eq_of_beq_eq_true h.2
    subst e1 e2
    exact hv
  | nils => cases y <;> simp only [same1] at h <;> first | exact hv | cases h
  | slice b o l c z e =>
    cases y <;> simp only [same1] at h <;> (try (cases h; done))
    simp only [Bool.and_eq_true] at h
    obtain ⟨⟨⟨⟨⟨h1, h2⟩, h3⟩, h4⟩, h5⟩, h6⟩ := h
    have e1 := Nat.eq_of_beq_eq_true h1
    have e2 := Nat.eq_of_beq_eq_true h2
    have e3 := Nat.eq_of_beq_eq_true h3
    have e4 := Nat.eq_of_beq_eq_true h4
    have e5 := Nat.eq_of_beq_eq_true h5
    have e6 := eq_of_beq h6
    subst e1 e2 e3 e4 e5 e6
    exact hv
  | nilFunc => cases y <;> simp only [same1] at h <;> first | exact hv | cases h
  | nilIface => cases y <;> simp only [same1] at h <;> first | exact hv | cases h
  | _ => simp only [same1] at h; cases h

theorem sameN_ok : ∀ {n : Nat} {xs ys : List AV} {vs : List Value}, sameN n xs ys = true → VP φ ys vs → vs.length ≤ n → VP φ xs vs
  | 0, xs, ys, vs, _, _, h => by
    have : vs = [] := List.length_eq_zero_iff.1 (by omega)
    subst this
    cases xs <;> simp only [VP]
  | n + 1, xs, ys, vs, h, hv, hl => by
    cases xs with
    | nil => simp only [VP]
    | cons x xs =>
      cases ys with
      | nil => simp only [sameN] at h; cases h
      | cons y ys =>
        simp only [sameN, Bool.and_eq_true] at h
        cases vs with
        | nil => simp only [VP]
        | cons v vs =>
          simp only [VP] at hv ⊢
          exact ⟨same1_ok h.1 hv.1, sameN_ok h.2 hv.2 (by simp at hl; omega)⟩

theorem sameV_ok {x y : AV} {cv : Value} (h : sameV x y = true) (hv : V φ y cv) : V φ x cv := by
  unfold sameV at h
  cases x <;> first | exact same1_ok h hv | skip
  rename_i n xs
  cases y <;> simp only at h <;> try (cases h; done)
  rename_i m ys
  simp only [Bool.and_eq_true] at h
  have e := Nat.eq_of_beq_eq_true h.1
  subst e
  simp only [V] at hv ⊢
  obtain ⟨vs, h1, h2, h3, h4⟩ := hv
  exact ⟨vs, h1, h2, h3, sameN_ok h.2 h4 (by simp [h2])⟩

/-! ### Environments that agree -/
theorem ev_congr {x : Operand} (h : ∀ t, x = .tmp t → lk env t = lk env' t) : ev cf env x = ev cf env' x := by
  funext k
  cases x with
  | tmp t => simp only [ev, h t rfl]
  | _ => rfl

theorem evL_congr : ∀ {xs : List Operand}, (∀ x ∈ xs, ∀ t, x = .tmp t → lk env t = lk env' t) → evL cf env xs = evL cf env' xs
  | [], _ => rfl
  | x :: xs, h => by
    funext k
    simp only [evL, ev_congr (h x List.mem_cons_self), evL_congr (xs := xs) (fun y hy => h y (List.mem_cons_of_mem _ hy))]

theorem evP_congr : ∀ {xs : List (Nat × Operand)}, (∀ x ∈ xs.map (·.2), ∀ t, x = .tmp t → lk env t = lk env' t) → evP cf env xs = evP cf env' xs
  | [], _ => rfl
  | (i, x) :: xs, h => by
    funext k
    simp only [evP, ev_congr (h x (by simp)), evP_congr (xs := xs) (fun y hy => h y (List.mem_cons_of_mem _ hy))]

theorem evO_congr {x : Option Operand} (h : ∀ y, x = some y → ∀ t, y = .tmp t → lk env t = lk env' t) : evO cf env x = evO cf env' x := by
  funext k
  cases x with
  | none => rfl
  | some x => simp only [evO, ev_congr (h x rfl)]

theorem opc_congr {op : Op} (h : ∀ x ∈ op.operands, ∀ t, x = .tmp t → lk env t = lk env' t) : opc P cf cl op env H k = opc P cf cl op env' H k := by
  cases op <;> simp only [Op.operands] at h <;> simp only [opc]
  case move x => rw [ev_congr (h x (by simp))]
  case assign x => rw [ev_congr (h x (by simp))]
  case pick c x y => rw [ev_congr (h c (by simp)), ev_congr (h x (by simp)), ev_congr (h y (by simp))]
  case box t x => rw [ev_congr (h x (by simp))]
  case build t ps => rw [evP_congr (fun x hx => h x (by simpa using hx))]
  case buildSlice t n ps => rw [evP_congr (fun x hx => h x (by simpa using hx))]
  case load t x => rw [ev_congr (h x (by simp))]
  case store t x y => rw [ev_congr (h x (by simp)), ev_congr (h y (by simp))]
  case nilCheck x => rw [ev_congr (h x (by simp))]
  case binOp op t x y u => rw [ev_congr (h x (by simp)), ev_congr (h y (by simp))]
  case unOp op t x => rw [ev_congr (h x (by simp))]
  case convert s d x => rw [ev_congr (h x (by simp))]
  case makeInterface t x => rw [ev_congr (h x (by simp))]
  case makeFunc f x y =>
    cases f <;> simp only [opc]
    rw [evL_congr (xs := x.toList) (fun z hz => h z (by simp at hz ⊢; exact .inl hz)), evL_congr (xs := y.toList) (fun z hz => h z (by simp at hz ⊢; exact .inr hz))]
  case makeSlice t l c => rw [ev_congr (h l (by simp)), ev_congr (h c (by simp))]
  case slice t x lo hi mx =>
    rw [ev_congr (h x (by simp)), evO_congr (x := lo) (fun y hy => h y (by simp [hy])), evO_congr (x := hi) (fun y hy => h y (by simp [hy])), evO_congr (x := mx) (fun y hy => h y (by simp [hy]))]
  case fieldAddr t x i => rw [ev_congr (h x (by simp))]
  case field t x i => rw [ev_congr (h x (by simp))]
  case indexAddr t x y => rw [ev_congr (h x (by simp)), ev_congr (h y (by simp))]
  case index t x y => rw [ev_congr (h x (by simp)), ev_congr (h y (by simp))]
  case extract x i => rw [ev_congr (h x (by simp))]
  case call c =>
    have ha : evL cf env c.args.toList = evL cf env' c.args.toList := evL_congr fun x hx => h x (by simp [Call.operands] at hx ⊢; exact .inr hx)
    cases hc : c.callee with
    | builtin b => simp only [ha]
    | invoke x n => rfl
    | value f =>
      have hf : ev cf env f = ev cf env' f := ev_congr (h f (by simp [Call.operands, hc]))
      cases f <;> simp only [ha, hf]
end

end Go.Proofs.YtlpfhodieopmhaaGreatDoor.Ae

