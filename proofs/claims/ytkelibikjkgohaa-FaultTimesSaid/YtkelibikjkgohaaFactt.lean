/- closed facts of the program that every row asks: apart, for the kernel's memory. -/
import Derived.Test.YtkelibikjkgohaaRows
import Derived.JoinedOf
namespace Go.Proofs.Ytkelibikjkgohaa.P
theorem lifts : ((Rows.faultBothRow).lifted == Try.prog.liftsFinal) = true := by kernel_rfl
theorem plains : ((Rows.faultBothRow).plainKeys == Try.prog.plainKeys) = true := by kernel_rfl
theorem lifts_of {b} (h : b = (Rows.faultBothRow).lifted) : (b == Try.prog.liftsFinal) = true := by rw [h]; exact lifts
theorem plains_of {b} (h : b = (Rows.faultBothRow).plainKeys) : (b == Try.prog.plainKeys) = true := by rw [h]; exact plains
end Go.Proofs.Ytkelibikjkgohaa.P
