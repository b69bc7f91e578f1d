/- Lemmas. -/
import Derived.Test.YtmhjnndhphidfaaGreatM1
namespace Go.Ab
set_option maxRecDepth 30000
set_option linter.unusedSimpArgs false
set_option linter.unusedVariables false
open Go.Proofs
theorem bM0_ok : MOk bM0 := m_ok (fs := []) (tab := []) (by simp) (fuel := 100000) (n := 300) (me := 11) (by kernel_rfl)
end Go.Ab
