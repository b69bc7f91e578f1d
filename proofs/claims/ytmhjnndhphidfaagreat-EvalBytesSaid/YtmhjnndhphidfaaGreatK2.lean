/- Lemmas. -/
import Derived.Test.YtmhjnndhphidfaaGreatK1
namespace Go.Ab
set_option maxRecDepth 30000
set_option linter.unusedSimpArgs false
set_option linter.unusedVariables false
open Go.Proofs
theorem bK0_ok : MOk bK0 := m_ok (fs := []) (tab := []) (by simp) (fuel := 100000) (n := 300) (me := 16) (by kernel_rfl)
end Go.Ab
