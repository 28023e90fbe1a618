/-
  What is left of OuterWaits' argument.
-/
import Derived.Test.YtlpfhodieopmhaaGreatDoorTails
set_option linter.unusedVariables false
set_option linter.unusedSimpArgs false
set_option linter.unusedSectionVars false
set_option linter.unnecessarySimpa false
namespace Go.Proofs.YtlpfhodieopmhaaGreatDoor.Ae
open Go.Proofs
theorem get7 : (setR tbl 10 none).get 7 = some (1, c7) := by kernel_rfl
theorem c7a : c7 = .sq (hdC c7) (.sq (hdC (tlC c7)) (tlC (tlC c7))) := by kernel_rfl
theorem partA (cl : Caller) (n : Nat) (v : AV) (Kx : List KL) (K : KL) (H : AH) : runCq (hdC c7) Tryz.prog 5 cl n [v] Kx K H = K [v] H := by kernel_rfl
theorem hdB : hdC (tlC c7) = .rg [oi (.mv x0), oi (.ci .u64 x0), oi (.bi .rem x0 (.c (.int .u64 (.ofNat 16)))), oi (.ci .i64 x0), oi (.bi .add (.c (.int .i64 (.ofNat 1))) x0), oi (.mv x0)] [0] := by kernel_rfl
theorem partB (cl : Caller) (n : Nat) (x : Int) (Kx : List KL) (K : KL) (H : AH) : runCq (hdC (tlC c7)) Tryz.prog 5 cl n [.int .i64 x] Kx K H = binR .add (.int .i64 (.ofNat 1)) (.int .i64 (wrapF .i64 (Int.tmod (wrapF .u64 x) 16))) fun v => K [v] H := by
  rw [hdB]
  simp only [rg_run, rq_cons, rq_nil, oi_run, mv_run, ci_run, bi_run, ev0, evc, ci_int]
  rw [rem_int .u64 _ 16 rfl rfl]
  rfl
theorem redC (cl : Caller) (H : AH) (x : Int) : runCq c7 Tryz.prog 5 cl 5000 [.int .i64 x] [] (fun _ _ => none) H = binR .add (.int .i64 (.ofNat 1)) (.int .i64 (wrapF .i64 (Int.tmod (wrapF .u64 x) 16))) fun v => runCq (tlC (tlC c7)) Tryz.prog 5 cl 5000 [v] [] (fun _ _ => none) H :=
  (congrArg (fun c => runCq c Tryz.prog 5 cl 5000 [.int .i64 x] [] (fun _ _ => none) H) c7a).trans
    ((sq_run (hdC c7) (.sq (hdC (tlC c7)) (tlC (tlC c7))) Tryz.prog 5 cl 5000 [.int .i64 x] [] (fun _ _ => none) H).trans
      ((partA cl 5000 (.int .i64 x) [] (fun l H => runCq (.sq (hdC (tlC c7)) (tlC (tlC c7))) Tryz.prog 5 cl 5000 l [] (fun _ _ => none) H) H).trans
        ((sq_run (hdC (tlC c7)) (tlC (tlC c7)) Tryz.prog 5 cl 5000 [.int .i64 x] [] (fun _ _ => none) H).trans
          (partB cl 5000 x [] (fun l H => runCq (tlC (tlC c7)) Tryz.prog 5 cl 5000 l [] (fun _ _ => none) H) H))))
theorem redW (e : Nat) (x : Int) : callQ Tryz.prog 5 (extA 10 5 cmps) (setR tbl 10 none) 5000 500 7 [.int .i64 x] (hOne 5 11 e cmps) = binR .add (.int .i64 (.ofNat 1)) (.int .i64 (wrapF .i64 (Int.tmod (wrapF .u64 x) 16))) fun v => runCq (tlC (tlC c7)) Tryz.prog 5 (callQ Tryz.prog 5 (extA 10 5 cmps) (setR tbl 10 none) 5000 499) 5000 [v] [] (fun _ _ => none) (hOne 5 11 e cmps) :=
  (callQ_some (m := 499) get7 rfl).trans (redC _ _ x)
end Go.Proofs.YtlpfhodieopmhaaGreatDoor.Ae
