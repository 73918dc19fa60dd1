import Derived.Test.YtpfhmodjjljpjaaRows
import Derived.JoinedOf
import Derived.KernelRfl
set_option linter.unusedVariables false
set_option linter.unusedSimpArgs false
namespace Go.Proofs.Ytpfhmodjjljpjaa.Lg
theorem kp1 : (laidOutB Try.pinned.checked.prog) = true := by kernel_rfl
theorem kp2 : (mapsRowed Try.pinned.checked.prog) = true := by kernel_rfl
theorem kp6 : ((Try.pinned.checked.prog.stops == [])) = true := by kernel_rfl
theorem kp8 : ((Try.pinned.checked.prog.stopKnobs == [])) = true := by kernel_rfl
theorem kp24 : (Try.pinned.checked.prog.stopsHeard) = true := by kernel_rfl
theorem kp25 : (Try.pinned.checked.prog.mayEnter) = true := by kernel_rfl
theorem kp26 : ((Rows.tidyCheckRow.lifted == Try.pinned.checked.prog.liftsFinal)) = true := by kernel_rfl
theorem kp27 : ((Try.pinned.checked.prog.make == some Rows.tidyCheckRow.make)) = true := by kernel_rfl
theorem and_t {a b : Bool} (h : a = true) (k : b = true) : (a && b) = true := by rw [h, k]; rfl
end Go.Proofs.Ytpfhmodjjljpjaa.Lg
