/-
  A run of OuterTags, by the kernel.
-/
import Derived.Test.YtlpfhodieopmhaaGreatDoorHT
set_option linter.unusedVariables false
set_option linter.unusedSimpArgs false
set_option linter.unusedSectionVars false
set_option linter.unnecessarySimpa false
namespace Go.Proofs.YtlpfhodieopmhaaGreatDoor.Ae
open Go.Proofs
theorem run3 (e : Nat) : isTrue (callQ Tryz.prog 5 (extA 10 5 cmps) (setR tbl 10 none) 5000 500 4 [.bool true, .bool false] (hOne 5 11 e cmps)) = true := by kernel_rfl
end Go.Proofs.YtlpfhodieopmhaaGreatDoor.Ae
