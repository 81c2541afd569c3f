import Derived.Test.YtgnnmifpfgpllaaRows
/- The program's header says 'cut'; shown once for all laws of the seat (a law's closed facts then stay under 5 GB). -/
set_option linter.all false
set_option linter.unusedVariables false
set_option linter.unusedSimpArgs false
namespace Go.Proofs.Ytgnnmifpfgpllaa
theorem cut_make : Try.pinned.checked.prog.make = some .cut := by kernel_rfl
theorem cut_may : Try.pinned.checked.prog.mayEnter = true := by kernel_rfl
theorem cut_lifts : Try.pinned.checked.prog.liftsFinal = false := by kernel_rfl
end Go.Proofs.Ytgnnmifpfgpllaa
