/- closed facts of the program that every row asks: apart, for the kernel's memory. -/
import Derived.Test.YtkelibikjkgohaaRows
import Derived.JoinedOf
namespace Go.Proofs.Ytkelibikjkgohaa.P
theorem makes : (Try.prog.make == some (Rows.faultBothRow).make) = true := by kernel_rfl
theorem makes_of {b} (h : b = (Rows.faultBothRow).make) : (Try.prog.make == some b) = true := by rw [h]; exact makes
end Go.Proofs.Ytkelibikjkgohaa.P
