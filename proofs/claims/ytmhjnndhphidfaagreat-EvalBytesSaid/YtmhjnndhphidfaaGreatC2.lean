/- Lemmas. -/
import Derived.Test.YtmhjnndhphidfaaGreatC1
namespace Go.Ab
set_option maxRecDepth 30000
set_option linter.unusedSimpArgs false
set_option linter.unusedVariables false
open Go.Proofs
theorem bC0_ok : MOk bC0 := m_ok (fs := []) (tab := []) (by simp) (fuel := 100000) (n := 300) (me := 44) (by kernel_rfl)
theorem bC1_ok : MOk bC1 := m_ok (fs := []) (tab := []) (by simp) (fuel := 100000) (n := 300) (me := 44) (by kernel_rfl)
theorem bC2_ok : MOk bC2 := m_ok (fs := []) (tab := []) (by simp) (fuel := 100000) (n := 300) (me := 44) (by kernel_rfl)
theorem bC3_ok : MOk bC3 := m_ok (fs := []) (tab := []) (by simp) (fuel := 100000) (n := 300) (me := 44) (by kernel_rfl)
theorem bC4_ok : MOk bC4 := m_ok (fs := []) (tab := []) (by simp) (fuel := 100000) (n := 300) (me := 44) (by kernel_rfl)
theorem bC5_ok : MOk bC5 := m_ok (fs := []) (tab := []) (by simp) (fuel := 100000) (n := 300) (me := 44) (by kernel_rfl)
theorem bC6_ok : MOk bC6 := m_ok (fs := []) (tab := []) (by simp) (fuel := 100000) (n := 300) (me := 44) (by kernel_rfl)
theorem bC7_ok : MOk bC7 := m_ok (fs := []) (tab := []) (by simp) (fuel := 100000) (n := 300) (me := 44) (by kernel_rfl)
end Go.Ab
