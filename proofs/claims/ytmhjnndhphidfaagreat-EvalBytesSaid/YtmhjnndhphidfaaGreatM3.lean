/- Lemmas. -/
import Derived.Test.YtmhjnndhphidfaaGreatM1
namespace Go.Ab
set_option maxRecDepth 30000
set_option linter.unusedSimpArgs false
set_option linter.unusedVariables false
open Go.Proofs
theorem bM1_ok : MOk bM1 := m_ok (fs := []) (tab := []) (by simp) (fuel := 100000) (n := 300) (me := 11) (by kernel_rfl)
theorem bM2_ok : MOk bM2 := m_ok (fs := []) (tab := []) (by simp) (fuel := 100000) (n := 300) (me := 11) (by kernel_rfl)
theorem bM3_ok : MOk bM3 := m_ok (fs := []) (tab := []) (by simp) (fuel := 100000) (n := 300) (me := 11) (by kernel_rfl)
end Go.Ab
namespace Go.Ab
set_option maxRecDepth 30000
set_option linter.unusedSimpArgs false
set_option linter.unusedVariables false
open Go.Proofs
theorem bM4_ok : MOk bM4 := m_ok (fs := []) (tab := []) (by simp) (fuel := 100000) (n := 300) (me := 73) (by kernel_rfl)
theorem bM5_ok : MOk bM5 := m_ok (fs := []) (tab := []) (by simp) (fuel := 100000) (n := 300) (me := 73) (by kernel_rfl)
theorem bM6_ok : MOk bM6 := m_ok (fs := []) (tab := []) (by simp) (fuel := 100000) (n := 300) (me := 73) (by kernel_rfl)
theorem bM7_ok : MOk bM7 := m_ok (fs := []) (tab := []) (by simp) (fuel := 100000) (n := 300) (me := 73) (by kernel_rfl)
theorem bM8_ok : MOk bM8 := m_ok (fs := []) (tab := []) (by simp) (fuel := 100000) (n := 300) (me := 73) (by kernel_rfl)
theorem bM9_ok : MOk bM9 := m_ok (fs := []) (tab := []) (by simp) (fuel := 100000) (n := 300) (me := 73) (by kernel_rfl)
theorem bM10_ok : MOk bM10 := m_ok (fs := []) (tab := []) (by simp) (fuel := 100000) (n := 300) (me := 73) (by kernel_rfl)
theorem bM11_ok : MOk bM11 := m_ok (fs := []) (tab := []) (by simp) (fuel := 100000) (n := 300) (me := 73) (by kernel_rfl)
theorem bM12_ok : MOk bM12 := m_ok (fs := []) (tab := []) (by simp) (fuel := 100000) (n := 300) (me := 73) (by kernel_rfl)
end Go.Ab
