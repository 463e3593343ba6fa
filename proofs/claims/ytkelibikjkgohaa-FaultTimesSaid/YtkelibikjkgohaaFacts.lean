/- closed facts of the program that every row asks: apart, for the kernel's memory. -/
import Derived.Test.YtkelibikjkgohaaRows
import Derived.JoinedOf
namespace Go.Proofs.Ytkelibikjkgohaa.P
theorem enters : Try.prog.mayEnter = true := by kernel_rfl
theorem hears : Try.prog.stopsHeard = true := by kernel_rfl
theorem and_mk {a b : Bool} (h : a = true) (k : b = true) : (a && b) = true := by rw [h, k]; rfl
end Go.Proofs.Ytkelibikjkgohaa.P
