/-
  The words at the program's head, read by the kernel once for all statements.
-/
import Derived.Test.YtgihkocnmgkihaaRows
namespace Go.Proofs.Ytgihkocnmgkihaa
open Go
theorem head_all : (Try.prog.mayEnter && (Rows.registryReadsRow.lifted == Try.prog.liftsFinal) && (Try.prog.make == some Rows.registryReadsRow.make)) = true := by kernel_rfl
theorem head_enter : Try.prog.mayEnter = true := (Bool.and_eq_true_iff.mp (Bool.and_eq_true_iff.mp head_all).1).1
theorem head_lift : Try.prog.liftsFinal = Rows.registryReadsRow.lifted := (beq_iff_eq.mp (Bool.and_eq_true_iff.mp (Bool.and_eq_true_iff.mp head_all).1).2).symm
theorem head_make : Try.prog.make = some Rows.registryReadsRow.make := beq_iff_eq.mp (Bool.and_eq_true_iff.mp head_all).2
end Go.Proofs.Ytgihkocnmgkihaa
