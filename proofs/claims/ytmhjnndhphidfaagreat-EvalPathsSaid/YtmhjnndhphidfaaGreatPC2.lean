/- Lemmas. -/
import Derived.Test.YtmhjnndhphidfaaGreatPC1
namespace Go.Ab
set_option maxRecDepth 30000
set_option linter.unusedSimpArgs false
set_option linter.unusedVariables false
open Go.Proofs
theorem pC0_ok : MOk pC0 := m_ok (fs := []) (tab := []) (by simp) (fuel := 100000) (n := 300) (me := 44) (by kernel_rfl)
theorem pC1_ok : MOk pC1 := m_ok (fs := []) (tab := []) (by simp) (fuel := 100000) (n := 300) (me := 44) (by kernel_rfl)
theorem pC2_ok : MOk pC2 := m_ok (fs := []) (tab := []) (by simp) (fuel := 100000) (n := 300) (me := 44) (by kernel_rfl)
theorem pC3_ok : MOk pC3 := m_ok (fs := []) (tab := []) (by simp) (fuel := 100000) (n := 300) (me := 44) (by kernel_rfl)
theorem pC4_ok : MOk pC4 := m_ok (fs := []) (tab := []) (by simp) (fuel := 100000) (n := 300) (me := 44) (by kernel_rfl)
end Go.Ab
