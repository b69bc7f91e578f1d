/- Lemmas. -/
import Derived.Test.YtmhjnndhphidfaaGreatM1
namespace Go.Ab
set_option maxRecDepth 30000
set_option linter.unusedSimpArgs false
set_option linter.unusedVariables false
open Go.Proofs
theorem bM13_ok : MOk bM13 := m_ok (fs := []) (tab := []) (by simp) (fuel := 100000) (n := 300) (me := 73) (by kernel_rfl)
theorem bM14_ok : MOk bM14 := m_ok (fs := []) (tab := []) (by simp) (fuel := 100000) (n := 300) (me := 73) (by kernel_rfl)
theorem bM15_ok : MOk bM15 := m_ok (fs := []) (tab := []) (by simp) (fuel := 100000) (n := 300) (me := 73) (by kernel_rfl)
theorem bM16_ok : MOk bM16 := m_ok (fs := []) (tab := []) (by simp) (fuel := 100000) (n := 300) (me := 73) (by kernel_rfl)
theorem bM17_ok : MOk bM17 := m_ok (fs := []) (tab := []) (by simp) (fuel := 100000) (n := 300) (me := 73) (by kernel_rfl)
theorem bM18_ok : MOk bM18 := m_ok (fs := []) (tab := []) (by simp) (fuel := 100000) (n := 300) (me := 73) (by kernel_rfl)
theorem bM19_ok : MOk bM19 := m_ok (fs := []) (tab := []) (by simp) (fuel := 100000) (n := 300) (me := 73) (by kernel_rfl)
theorem bM20_ok : MOk bM20 := m_ok (fs := []) (tab := []) (by simp) (fuel := 100000) (n := 300) (me := 73) (by kernel_rfl)
theorem bM21_ok : MOk bM21 := m_ok (fs := []) (tab := []) (by simp) (fuel := 100000) (n := 300) (me := 73) (by kernel_rfl)
theorem bM23_ok : MOk bM23 := m_ok (fs := []) (tab := []) (by simp) (fuel := 100000) (n := 300) (me := 73) (by kernel_rfl)
end Go.Ab
