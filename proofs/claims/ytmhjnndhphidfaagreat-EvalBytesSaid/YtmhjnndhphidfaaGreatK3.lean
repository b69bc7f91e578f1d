/- Lemmas. -/
import Derived.Test.YtmhjnndhphidfaaGreatK1
namespace Go.Ab
set_option maxRecDepth 30000
set_option linter.unusedSimpArgs false
set_option linter.unusedVariables false
open Go.Proofs
theorem bK1_ok : MOk bK1 := m_ok (fs := []) (tab := []) (by simp) (fuel := 100000) (n := 300) (me := 41) (by kernel_rfl)
theorem bK2_ok : MOk bK2 := m_ok (fs := []) (tab := []) (by simp) (fuel := 100000) (n := 300) (me := 41) (by kernel_rfl)
end Go.Ab
