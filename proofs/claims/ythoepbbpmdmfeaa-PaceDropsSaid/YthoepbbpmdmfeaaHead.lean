/-
  The words at the program's head, read by the kernel once for all statements.
-/
import Derived.Test.YthoepbbpmdmfeaaRows
namespace Go.Proofs.Ythoepbbpmdmfeaa
open Go
theorem head_all : (Try.prog.mayEnter && (Rows.rescueChoosesRow.lifted == Try.prog.liftsFinal) && (Try.prog.make == some Rows.rescueChoosesRow.make)) = true := by kernel_rfl
theorem head_enter : Try.prog.mayEnter = true := (Bool.and_eq_true_iff.mp (Bool.and_eq_true_iff.mp head_all).1).1
theorem head_lift : Try.prog.liftsFinal = Rows.rescueChoosesRow.lifted := (beq_iff_eq.mp (Bool.and_eq_true_iff.mp (Bool.and_eq_true_iff.mp head_all).1).2).symm
theorem head_make : Try.prog.make = some Rows.rescueChoosesRow.make := beq_iff_eq.mp (Bool.and_eq_true_iff.mp head_all).2
end Go.Proofs.Ythoepbbpmdmfeaa
