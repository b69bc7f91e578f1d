/- Lemmas. -/
import Derived.Test.YtmhjnndhphidfaaGreatPM1
import Derived.Test.YtmhjnndhphidfaaGreatPM2
import Derived.Test.YtmhjnndhphidfaaGreatPM3
namespace Go.Ab
set_option maxRecDepth 30000
set_option linter.unusedSimpArgs false
set_option linter.unusedVariables false
open Go.Proofs
theorem pM9_ok : MOk pM9 := m_ok (fs := []) (tab := []) (by simp) (fuel := 100000) (n := 300) (me := 73) (by kernel_rfl)
theorem pM10_ok : MOk pM10 := m_ok (fs := []) (tab := []) (by simp) (fuel := 100000) (n := 300) (me := 73) (by kernel_rfl)
theorem pM11_ok : MOk pM11 := m_ok (fs := []) (tab := []) (by simp) (fuel := 100000) (n := 300) (me := 73) (by kernel_rfl)
theorem pM12_ok : MOk pM12 := m_ok (fs := []) (tab := []) (by simp) (fuel := 100000) (n := 300) (me := 73) (by kernel_rfl)
theorem pM13_ok : MOk pM13 := m_ok (fs := []) (tab := []) (by simp) (fuel := 100000) (n := 300) (me := 73) (by kernel_rfl)
theorem pM14_ok : MOk pM14 := m_ok (fs := []) (tab := []) (by simp) (fuel := 100000) (n := 300) (me := 73) (by kernel_rfl)
theorem pM15_ok : MOk pM15 := m_ok (fs := []) (tab := []) (by simp) (fuel := 100000) (n := 300) (me := 73) (by kernel_rfl)
theorem pM16_ok : MOk pM16 := m_ok (fs := []) (tab := []) (by simp) (fuel := 100000) (n := 300) (me := 73) (by kernel_rfl)
end Go.Ab
namespace Go.Ab
set_option maxRecDepth 30000
set_option linter.unusedSimpArgs false
set_option linter.unusedVariables false
open Go.Proofs
theorem pM17_ok : MOk pM17 := m_ok (fs := [125]) (tab := [pM4, pM5, pM6, pM7, pM8, pM9, pM10, pM11, pM12, pM13, pM14, pM15, pM16]) (by
    intro e he
    simp only [List.mem_cons, List.not_mem_nil, or_false] at he
    rcases he with rfl | rfl | rfl | rfl | rfl | rfl | rfl | rfl | rfl | rfl | rfl | rfl | rfl
    · exact pM4_ok
    · exact pM5_ok
    · exact pM6_ok
    · exact pM7_ok
    · exact pM8_ok
    · exact pM9_ok
    · exact pM10_ok
    · exact pM11_ok
    · exact pM12_ok
    · exact pM13_ok
    · exact pM14_ok
    · exact pM15_ok
    · exact pM16_ok
    ) (fuel := 100000) (n := 300) (me := 11) (by kernel_rfl)
theorem pM18_ok : MOk pM18 := m_ok (fs := [14, 15]) (tab := [pM0, pM1, pM2, pM3, pM17]) (by
    intro e he
    simp only [List.mem_cons, List.not_mem_nil, or_false] at he
    rcases he with rfl | rfl | rfl | rfl | rfl
    · exact pM0_ok
    · exact pM1_ok
    · exact pM2_ok
    · exact pM3_ok
    · exact pM17_ok
    ) (fuel := 100000) (n := 300) (me := 7) (by kernel_rfl)
end Go.Ab
