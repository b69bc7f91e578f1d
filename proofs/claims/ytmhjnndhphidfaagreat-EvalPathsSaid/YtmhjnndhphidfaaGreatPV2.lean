/- Lemmas. -/
import Derived.Test.YtmhjnndhphidfaaGreatPV1
namespace Go.Ab
set_option maxRecDepth 30000
set_option linter.unusedSimpArgs false
set_option linter.unusedVariables false
open Go.Proofs
theorem pV4_ok : MOk pV4 := m_ok (fs := []) (tab := []) (by simp) (fuel := 100000) (n := 300) (me := 9) (by kernel_rfl)
end Go.Ab
