/- Lemmas. -/
import Derived.Test.YtmhjnndhphidfaaGreatPM1
namespace Go.Ab
set_option maxRecDepth 30000
set_option linter.unusedSimpArgs false
set_option linter.unusedVariables false
open Go.Proofs
theorem pM1_ok : MOk pM1 := m_ok (fs := []) (tab := []) (by simp) (fuel := 100000) (n := 300) (me := 11) (by kernel_rfl)
theorem pM2_ok : MOk pM2 := m_ok (fs := []) (tab := []) (by simp) (fuel := 100000) (n := 300) (me := 11) (by kernel_rfl)
theorem pM3_ok : MOk pM3 := m_ok (fs := []) (tab := []) (by simp) (fuel := 100000) (n := 300) (me := 11) (by kernel_rfl)
theorem pM4_ok : MOk pM4 := m_ok (fs := []) (tab := []) (by simp) (fuel := 100000) (n := 300) (me := 73) (by kernel_rfl)
theorem pM5_ok : MOk pM5 := m_ok (fs := []) (tab := []) (by simp) (fuel := 100000) (n := 300) (me := 73) (by kernel_rfl)
theorem pM6_ok : MOk pM6 := m_ok (fs := []) (tab := []) (by simp) (fuel := 100000) (n := 300) (me := 73) (by kernel_rfl)
theorem pM7_ok : MOk pM7 := m_ok (fs := []) (tab := []) (by simp) (fuel := 100000) (n := 300) (me := 73) (by kernel_rfl)
theorem pM8_ok : MOk pM8 := m_ok (fs := []) (tab := []) (by simp) (fuel := 100000) (n := 300) (me := 73) (by kernel_rfl)
end Go.Ab
