/- Lemmas. -/
import Derived.Test.YtmhjnndhphidfaaGreatC1
namespace Go.Ab
set_option maxRecDepth 30000
set_option linter.unusedSimpArgs false
set_option linter.unusedVariables false
open Go.Proofs
theorem bC8_ok : MOk bC8 := m_ok (fs := []) (tab := []) (by simp) (fuel := 100000) (n := 300) (me := 44) (by kernel_rfl)
theorem bC9_ok : MOk bC9 := m_ok (fs := []) (tab := []) (by simp) (fuel := 100000) (n := 300) (me := 44) (by kernel_rfl)
theorem bC10_ok : MOk bC10 := m_ok (fs := []) (tab := []) (by simp) (fuel := 100000) (n := 300) (me := 44) (by kernel_rfl)
end Go.Ab
