/- Closed facts of the rows of this seat that name no function: one theorem each. -/
import Derived.Test.YtilbolgncpfmmaaRows
import Derived.JoinedOf
import Derived.KernelRfl
namespace Go.Proofs.Ytilbolgncpfmmaa
theorem and_mk {a b : Bool} (h : a = true) (h' : b = true) : (a && b) = true := by rw [h, h']; rfl
theorem sharedfact1 : laidOutB Try.prog = true := by kernel_rfl
theorem sharedfact2 : mapsRowed Try.prog = true := by kernel_rfl
theorem sharedfact6 : (Try.prog.stops == []) = true := by kernel_rfl
theorem sharedfact8 : (Try.prog.stopKnobs == []) = true := by kernel_rfl
theorem sharedplainKeys : Try.prog.plainKeys = true := by kernel_rfl
theorem sharedfact24 : Try.prog.stopsHeard = true := by kernel_rfl
theorem sharedfact25 : Try.prog.mayEnter = true := by kernel_rfl
theorem sharedliftsFinal : Try.prog.liftsFinal = false := by kernel_rfl
end Go.Proofs.Ytilbolgncpfmmaa
