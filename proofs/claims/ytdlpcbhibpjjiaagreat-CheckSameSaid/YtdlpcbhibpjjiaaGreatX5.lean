/- Lemmas. -/
import Derived.Test.YtdlpcbhibpjjiaaGreatS1
namespace Go.Ab
set_option maxRecDepth 8000
set_option linter.unusedSimpArgs false
set_option linter.unusedVariables false
open Go.Proofs
theorem sE5_ok : EntOk sE5 := ent_ok (fs := []) (tab := []) (by simp) (fuel := 100000) (n := 300) (me := 11) (by kernel_rfl)
end Go.Ab
