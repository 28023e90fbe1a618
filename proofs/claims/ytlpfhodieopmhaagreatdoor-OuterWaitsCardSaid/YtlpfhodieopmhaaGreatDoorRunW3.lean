/-
  Runs of OuterWaits, by the kernel.
-/
import Derived.Test.YtlpfhodieopmhaaGreatDoorTails
set_option linter.unusedVariables false
set_option linter.unusedSimpArgs false
set_option linter.unusedSectionVars false
set_option linter.unnecessarySimpa false
namespace Go.Proofs.YtlpfhodieopmhaaGreatDoor.Ae
open Go.Proofs
theorem runW8 (e : Nat) : isTrue (binR .add (.int .i64 (.ofNat 1)) (.int .i64 (.ofNat 8)) (fun v => runCq (tlC (tlC c7)) Tryz.prog 5 (callQ Tryz.prog 5 (extA 10 5 cmps) (setR tbl 10 none) 5000 499) 5000 [v] [] (fun _ _ => none) (hOne 5 11 e cmps))) = true := by kernel_rfl
theorem runW9 (e : Nat) : isTrue (binR .add (.int .i64 (.ofNat 1)) (.int .i64 (.ofNat 9)) (fun v => runCq (tlC (tlC c7)) Tryz.prog 5 (callQ Tryz.prog 5 (extA 10 5 cmps) (setR tbl 10 none) 5000 499) 5000 [v] [] (fun _ _ => none) (hOne 5 11 e cmps))) = true := by kernel_rfl
theorem runW10 (e : Nat) : isTrue (binR .add (.int .i64 (.ofNat 1)) (.int .i64 (.ofNat 10)) (fun v => runCq (tlC (tlC c7)) Tryz.prog 5 (callQ Tryz.prog 5 (extA 10 5 cmps) (setR tbl 10 none) 5000 499) 5000 [v] [] (fun _ _ => none) (hOne 5 11 e cmps))) = true := by kernel_rfl
theorem runW11 (e : Nat) : isTrue (binR .add (.int .i64 (.ofNat 1)) (.int .i64 (.ofNat 11)) (fun v => runCq (tlC (tlC c7)) Tryz.prog 5 (callQ Tryz.prog 5 (extA 10 5 cmps) (setR tbl 10 none) 5000 499) 5000 [v] [] (fun _ _ => none) (hOne 5 11 e cmps))) = true := by kernel_rfl
end Go.Proofs.YtlpfhodieopmhaaGreatDoor.Ae
