/- Lemmas. -/
import Derived.Test.YtmhjnndhphidfaaGreatPM1
namespace Go.Ab
set_option maxRecDepth 30000
set_option linter.unusedSimpArgs false
set_option linter.unusedVariables false
open Go.Proofs
theorem pM0_ok : MOk pM0 := m_ok (fs := []) (tab := []) (by simp) (fuel := 100000) (n := 300) (me := 11) (by kernel_rfl)
end Go.Ab
