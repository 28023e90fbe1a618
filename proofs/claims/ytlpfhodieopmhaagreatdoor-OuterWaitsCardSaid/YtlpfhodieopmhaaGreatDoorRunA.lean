/-
  A closed call, by the kernel.
-/
import Derived.Test.YtlpfhodieopmhaaGreatDoorHT
set_option linter.unusedVariables false
set_option linter.unusedSimpArgs false
set_option linter.unusedSectionVars false
set_option linter.unnecessarySimpa false
namespace Go.Proofs.YtlpfhodieopmhaaGreatDoor.Ae
open Go.Proofs
theorem runA (e : Nat) : isTrue (callQ Tryz.prog 5 (fun _ _ _ => none) tbl 5000 500 10 [] (hOne 5 11 e cmps)) = true := by kernel_rfl
end Go.Proofs.YtlpfhodieopmhaaGreatDoor.Ae
