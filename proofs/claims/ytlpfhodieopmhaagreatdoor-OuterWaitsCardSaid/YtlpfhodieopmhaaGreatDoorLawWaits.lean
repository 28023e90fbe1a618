/-
  OuterWaits: for every whole number the law returns true, and leaves its argument as it was.
-/
import Derived.Test.YtlpfhodieopmhaaGreatDoorHT
import Derived.Test.YtlpfhodieopmhaaGreatDoorRunA
import Derived.Test.YtlpfhodieopmhaaGreatDoorFactsWaits
import Derived.Test.YtlpfhodieopmhaaGreatDoorRedW
import Derived.Test.YtlpfhodieopmhaaGreatDoorRunW1
import Derived.Test.YtlpfhodieopmhaaGreatDoorRunW2
import Derived.Test.YtlpfhodieopmhaaGreatDoorRunW3
import Derived.Test.YtlpfhodieopmhaaGreatDoorRunW4
import Derived.Test.YtlpfhodieopmhaaGreatDoorCards
import Derived.Test.YtlpfhodieopmhaaGreatDoorTie
import Derived.WalkKit
import Derived.ProofKit
import Derived.OpenShut
set_option linter.unusedVariables false
set_option linter.unusedSimpArgs false
set_option linter.unusedSectionVars false
set_option linter.unnecessarySimpa false
namespace Go.Proofs.YtlpfhodieopmhaaGreatDoor.outerWaits
open Go.ChangeShapes Go.WideShapes Go.ChangeAt Go.RowKit

theorem own : ownKnob Tryz.prog.godebug = none := by kernel_rfl

theorem orders : Tryz.prog.follows .mixedOrders = true := by kernel_rfl

theorem prims : Ae.PrOK Tryz.prog Ae.cfg := by
  intro f n h
  have h : List.lookup f [((234 : Nat), (0 : Nat))] = some n := h
  simp only [List.lookup] at h
  split at h
  · rename_i he
    cases h
    obtain rfl : f = 234 := by simpa using he
    exact ⟨Tryz.f234, by kernel_rfl, by kernel_rfl, by kernel_rfl, by kernel_rfl, (show Extern.find Tryz.f234 = some Extern.BytealgIndexByte.indexByte by kernel_rfl)⟩
  · cases h

/-- The calls of the quick evaluator are the program's; one closed call is told. -/
theorem calls (m : Nat) : Ae.ClOK Tryz.prog Ae.cfg (Ae.callQ Tryz.prog 5 (Ae.extA 10 5 Ae.cmps) (Ae.setR Ae.tbl 10 none) 5000 m) :=
  Ae.callQ_ok (cf := Ae.cfg) orders (Ae.tbl_ok.drop 10) prims (Ae.extA_ok (cf := Ae.cfg) (Ae.callQ_ok (cf := Ae.cfg) orders Ae.tbl_ok prims Ae.noExt_ok 500) (by decide) Ae.runA) m

theorem gComp : Tryz.prog.globalNamed "jetsam/ast.compared" = some 5 := by kernel_rfl
theorem gCompType : (Tryz.prog.globals[5]?).map (·.type) = some 379 := by kernel_rfl
theorem u379 : Tryz.prog.underlying 379 = some (.array 6 9) := by kernel_rfl
theorem u9 : Tryz.prog.underlying 9 = some .string := by kernel_rfl
theorem c9 : Tryz.prog.cellsOf 9 = 1 := by kernel_rfl
theorem c379 : Tryz.prog.cellsOf 379 = 6 := by kernel_rfl
theorem gLast : Tryz.prog.globalNamed "math/bits.deBruijn64tab" = some 10 := by kernel_rfl

theorem noHandles : (Rows.outerWaitsRow.laid.all fun x => x.2.handleName?.isNone) = true := by kernel_rfl

/-- WHAT THE ROW's LIST GIVES: the signs of comparisons, as the evaluator's first heap. -/
theorem first {W : World} (h : laidMetH Tryz.prog Rows.outerWaitsRow.laid W) : ∃ e, Ae.Rel W.heap.size (Ae.glob 11 fun _ => 6) (Ae.hOne 5 11 e Ae.cmps) W := by
  rw [MakeChecks.laidMetH_plain _ _ _ noHandles] at h
  obtain ⟨ps, hl, _, _⟩ := h
  have m5 : ("jetsam/ast.compared", (Rows.laid_jetsam_ast_compared : DataW Unit)) ∈ Rows.outerWaitsRow.laid := by simp [Rows.outerWaitsRow]
  have m10 : ("math/bits.deBruijn64tab", (Rows.laid_math_bits_deBruijn64tab : DataW Unit)) ∈ Rows.outerWaitsRow.laid := by simp [Rows.outerWaitsRow]
  obtain ⟨g, t, cs, fuel, p, h1, h2, h3, h4⟩ := Ae.laid_mem hl m5
  obtain ⟨g', t', cs', fuel', p', k1, k2, k3, k4⟩ := Ae.laid_mem hl m10
  obtain rfl := Option.some.inj (gComp.symm.trans h1)
  obtain rfl := Option.some.inj (gCompType.symm.trans h2)
  have hsz : 11 ≤ W.heap.size := by
    simp only [World.var?, gLast, Option.bind_some] at k3
    cases hx : W.heap[10]? with
    | none => rw [hx] at k3; cases k3
    | some o =>
      have := (Array.getElem?_eq_some_iff.1 hx).1
      omega
  have hcs : cs.toList = Ae.cmps.map fun z => Value.string (Ae.bytes z) := Ae.cells_of_strs (zs := Ae.cmps) u379 u9 c9 c379 h4
  simp only [World.var?, gComp, Option.bind_some] at h3
  split at h3
  · rename_i cs0 e fr hx
    cases h3
    refine ⟨e, Ae.hOne_rel (zs := Ae.cmps) (fr := fr) (by decide) hsz ?_⟩
    rw [hx, ← hcs]
  · cases h3

/-- What is left of the argument: a number below sixteen. -/
theorem below (x : Int) : ∃ j : Nat, j < 16 ∧ Ae.wrapF .i64 (Int.tmod (Ae.wrapF .u64 x) 16) = Int.ofNat j := by
  have h0 : Ae.wrapF .u64 x = x % 18446744073709551616 := rfl
  have h1 : 0 ≤ x % 18446744073709551616 := by omega
  have h2 : Int.tmod (x % 18446744073709551616) 16 = (x % 18446744073709551616) % 16 := Int.tmod_eq_emod_of_nonneg h1
  rw [h0, h2]
  have h3 : 0 ≤ x % 18446744073709551616 % 16 ∧ x % 18446744073709551616 % 16 < 16 := by omega
  obtain ⟨j, hj⟩ := Int.eq_ofNat_of_zero_le h3.1
  rw [hj] at h3 ⊢
  refine ⟨j, by omega, ?_⟩
  have hb : Nat.blt j 9223372036854775808 = true := by
    have : j + 1 ≤ 9223372036854775808 := by omega
    exact Nat.ble_eq_true_of_le this
  show (bif Ae.inI64 (Int.ofNat j) then Int.ofNat j else IntKind.wrap .i64 (Int.ofNat j)) = Int.ofNat j
  simp only [Ae.inI64, hb, cond_true]

theorem run (e : Nat) (x : Int) : Ae.isTrue (Ae.callQ Tryz.prog 5 (Ae.extA 10 5 Ae.cmps) (Ae.setR Ae.tbl 10 none) 5000 500 7 [.int .i64 x] (Ae.hOne 5 11 e Ae.cmps)) = true := by
  rw [Ae.redW]
  obtain ⟨j, hj, ht⟩ := below x
  rw [ht]
  match j, hj with
  | 0, _ => exact Ae.runW0 e
  | 1, _ => exact Ae.runW1 e
  | 2, _ => exact Ae.runW2 e
  | 3, _ => exact Ae.runW3 e
  | 4, _ => exact Ae.runW4 e
  | 5, _ => exact Ae.runW5 e
  | 6, _ => exact Ae.runW6 e
  | 7, _ => exact Ae.runW7 e
  | 8, _ => exact Ae.runW8 e
  | 9, _ => exact Ae.runW9 e
  | 10, _ => exact Ae.runW10 e
  | 11, _ => exact Ae.runW11 e
  | 12, _ => exact Ae.runW12 e
  | 13, _ => exact Ae.runW13 e
  | 14, _ => exact Ae.runW14 e
  | 15, _ => exact Ae.runW15 e
  | j + 16, hj => exact absurd hj (by omega)

theorem walk (a0 : Int) {W : World} (h : laidMetH Tryz.prog Rows.outerWaitsRow.laid W) :
    Calls Tryz.prog 7 #[.int .i64 a0] W fun e w' => e = .returned (.bool true) ∧ Below W.heap.size W w' := by
  obtain ⟨e, hr⟩ := first h
  obtain ⟨r, h1, h2⟩ := Ae.isTrue_some (run e a0)
  exact Ae.calls_bool ((calls 500 7 _ _ r h1).2 W.heap.size _ W #[.int .i64 a0] hr (Ae.glob_ok 11 _) (by simp [Ae.VL, Ae.V])) h2

set_option maxRecDepth 100000 in
theorem contract (H : Type) (enc : TypeId × Value → H) (W : World) (base : Nat) (args : Array Value) (ds gs : List (DataW H)) (before : List MemPlace)
    (hval : ∀ (j : Nat) t v, Tryz.f7.params[j]? = some t → args[j]? = some v → Value.okWide Tryz.prog W .any base t v)
    (hW : DataW.Whole enc Tryz.prog Tryz.f7.params.toList Rows.outerWaitsSpec.vars false W args.toList ds gs before) (hL : laidMetH Tryz.prog Rows.outerWaitsRow.laid W) :
    Calls Tryz.prog 7 args W fun e W' => ∃ v, e = .returned v ∧ Rows.outerWaitsSpec.post enc Tryz.prog Tryz.f7 false true false false W args v W' := by
  have hW' := hW
  obtain ⟨p, q, hA0, hV, rfl, hfz, hnd⟩ := hW
  have hA : DataW.TrodAll enc Tryz.prog W 0 (fun _ => true) true Tryz.f7.params.toList args.toList ds p := hA0
  rw [Tryz.params7] at hA hval
  obtain ⟨v0, vs0, d0, ds0, p0, q0, hargs, rfl, rfl, h0, r0⟩ := trodAll_cons hA
  obtain ⟨rfl, rfl, rfl⟩ := trodAll_nil r0
  obtain rfl : args = #[v0] := by cases args; simp_all
  obtain ⟨rfl, rfl⟩ := trodVars_none hV
  obtain ⟨a0, rfl, rfl, rfl, hw0⟩ := open_int Tryz.underlying3 (hval 0 3 v0 rfl rfl) h0
  clear hA0
  simp only [List.append_nil] at hW'
  refine (walk a0 hL).mono fun e W' ⟨he, hb⟩ => ?_
  subst he
  obtain ⟨hk, hz⟩ := Ae.below_kept hb
  exact ⟨_, rfl, Ae.post_of_old (pa := []) (pv := []) hW' (fun _ _ _ => trodAll_cons_mk (shut_bool Tryz.underlying4 _) trodAll_mk0) (fun _ _ => trodAll_cons_mk (shut_int Tryz.underlying3 hw0) trodAll_mk0) (fun _ _ => rfl) rfl
    (World.keptBut_mono (fun _ h => h.elim) hk) hz (ok_one (by kernel_rfl) rfl (okWide_bool_mk Tryz.underlying4 _))⟩

/-- A WORLD FOR THE WITNESS. -/
noncomputable def laidWorld (os : Os) : World :=
  let w0 := World.holding Tryz.prog os ⟨#[], #[], []⟩
  let n := w0.heap.size
  let put (g : Nat) (cs : List Value) (h : Array Obj) : Array Obj := h.modify g fun
      | .cells _ t frozen => .cells cs.toArray t frozen
      | o => o
  { w0 with heap := put 0 (Ae.flatV Rows.laid_jetsam_ast_kinds) (put 4 (Ae.flatV Rows.laid_jetsam_ast_signs) (put 5 (Ae.flatV Rows.laid_jetsam_ast_compared) (put 6 (Ae.flatV Rows.laid_unicode_utf8_first)
      (put 7 (Ae.flatV Rows.laid_unicode_utf8_acceptRanges) (put 8 (Ae.flatV Rows.laid_internal_strconv_uint64pow10) (put 9 (Ae.flatV Rows.laid_math_bits_deBruijn32tab) (put 10 (Ae.flatV Rows.laid_math_bits_deBruijn64tab)
      (put 1 [.iface 393 (.pointer (some ⟨n, 0, none⟩))] (put 2 [.iface 393 (.pointer (some ⟨n + 1, 0, none⟩))]
        (w0.heap ++ #[.cells #[.string ⟨#[105, 110, 118, 97, 108, 105, 100, 32, 115, 121, 110, 116, 97, 120]⟩] 395 (0, 0), .cells #[.string ⟨#[118, 97, 108, 117, 101, 32, 111, 117, 116, 32, 111, 102, 32, 114, 97, 110, 103, 101]⟩] 395 (0, 0)])))))))))) }

theorem laid_met (os : Os) : laidMet Tryz.prog Rows.outerWaitsRow.laid ((laidWorld os).forCall (fun _ _ => 0) ⟨#[], #[.int .i64 0], []⟩).memory :=
  laidMet_of_run' 8 (by kernel_rfl) (by kernel_rfl)

theorem reads (os : Os) {H : Type} (enc : TypeId × Value → H) : ∃ places, DataW.whole enc Tryz.prog ((laidWorld os).forCall (fun _ _ => 0) ⟨#[], #[.int .i64 0], []⟩).memory Tryz.f7.params.toList Rows.outerWaitsSpec.vars false #[Value.int .i64 0].toList 8 = some ([.lit (.int .i64 0)], [], places) :=
  ⟨[], by kernel_rfl⟩

set_option maxRecDepth 100000 in
theorem lifted (os : Os) (started : os.Started) (H : Type) (enc : TypeId × Value → H) (F : Stop.Interp) :
    ReturnsInHanded {} Tryz.checked os 7 .any ((OpenSpec.ofChange Rows.outerWaitsSpec).preRow enc Tryz.prog Tryz.f7 Rows.outerWaitsRow.domain false Rows.outerWaitsRow.laid) (((OpenSpec.ofChange Rows.outerWaitsSpec).at F).post enc Tryz.prog Tryz.f7 false true false false) := by
  obtain ⟨places, hx⟩ := reads os enc
  refine returnsInHanded_of_row (C := Tryz.checked) (s := OpenSpec.ofChange Rows.outerWaitsSpec) own started (by kernel_rfl) Tryz.func7
    (witness_row_at (enc := enc) (C := Tryz.checked) false (laidWorld os) #[.int .i64 0] rfl (by kernel_rfl) (by kernel_rfl) (by kernel_rfl)
      (OpenSpec.preRow_of_cond 8 hx (by kernel_rfl) (fun k hk => by cases hk) (by kernel_rfl) (by
        show laidMetH Tryz.prog Rows.outerWaitsRow.laid _
        rw [MakeChecks.laidMetH_plain _ _ _ noHandles]
        exact laid_met os))) ?_
  intro W base args ds gs before hval hW _ _ _ hL _ _
  exact contract H enc W base args ds gs before hval hW hL

theorem said : Rows.OuterWaitsSaid :=
  OpenClaim.holds_of_cond 7 Tryz.f7 rfl rfl rfl rfl rfl rfl rfl ⟨rfl, rfl, rfl, rfl, rfl⟩ rfl rfl rfl rfl rfl (by kernel_rfl) Tryz.func7 closed
    (of_decide_eq_true (by kernel_rfl)) (by unfold Func.isWrapper; first | (rw [if_pos (by decide +kernel)]; kernel_rfl) | (rw [if_neg (by decide +kernel)]; exact ⟨rfl, rfl⟩))
    (fun os started H enc _ F => by rw [OpenClaim.pre_eq_preRow]; exact lifted os started H enc F)

theorem plain (f : FuncId) (fn : Func) (hf : Tryz.pinned.checked.prog.funcNamed "jetsam/jetsamlaw16.OuterWaits" = some f) (hfn : Tryz.pinned.checked.prog.funcs[f]? = some fn) :
    true = Tryz.pinned.checked.prog.looks [] ∧ ∀ (j : Nat) t, fn.params[j]? = some t → Tryz.pinned.checked.prog.wantsStandIn t = false := by
  obtain rfl : f = 7 := Option.some.inj ((show Tryz.prog.funcNamed "jetsam/jetsamlaw16.OuterWaits" = some 7 by kernel_rfl).symm.trans hf) |>.symm
  obtain rfl : fn = Tryz.f7 := (Option.some.inj (Tryz.func7.symm.trans hfn)).symm
  refine ⟨by kernel_rfl, fun j t ht => ?_⟩
  rw [Tryz.params7] at ht
  obtain rfl : t = 3 := by
    have := Array.mem_of_getElem? ht
    simp at this
    exact this
  exact (show Tryz.prog.wantsStandIn 3 = false by kernel_rfl)

/-- ████ THE CARD ████ -/
theorem card : Rows.OuterWaitsCardSaid :=
  Claim7.holds_tied_plain_at .later [] _ _ _ _ said (fun _ h => by cases h) (by kernel_rfl) (fun _ h => by cases h) outerWaits_row_tie rfl ⟨rfl, rfl⟩ (by kernel_rfl) rfl plain (by kernel_rfl)
#print axioms card
end Go.Proofs.YtlpfhodieopmhaaGreatDoor.outerWaits
