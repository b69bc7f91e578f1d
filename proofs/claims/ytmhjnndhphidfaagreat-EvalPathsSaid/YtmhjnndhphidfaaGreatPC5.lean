/- Lemmas. -/
import Derived.Test.YtmhjnndhphidfaaGreatPC1
import Derived.Test.YtmhjnndhphidfaaGreatPC2
import Derived.Test.YtmhjnndhphidfaaGreatPC3
import Derived.Test.YtmhjnndhphidfaaGreatPC4
namespace Go.Ab
set_option maxRecDepth 30000
set_option linter.unusedSimpArgs false
set_option linter.unusedVariables false
open Go.Proofs
theorem pC10_ok : MOk pC10 := m_ok (fs := []) (tab := []) (by simp) (fuel := 100000) (n := 300) (me := 44) (by kernel_rfl)
theorem pC11_ok : MOk pC11 := m_ok (fs := []) (tab := []) (by simp) (fuel := 100000) (n := 300) (me := 44) (by kernel_rfl)
theorem pC12_ok : MOk pC12 := m_ok (fs := []) (tab := []) (by simp) (fuel := 100000) (n := 300) (me := 44) (by kernel_rfl)
end Go.Ab
namespace Go.Ab
set_option maxRecDepth 30000
set_option linter.unusedSimpArgs false
set_option linter.unusedVariables false
open Go.Proofs
theorem pC13_ok : MOk pC13 := m_ok (fs := [106]) (tab := [pC0, pC1, pC2, pC3, pC4, pC5, pC6, pC7, pC8, pC9, pC10, pC11, pC12]) (by
    intro e he
    simp only [List.mem_cons, List.not_mem_nil, or_false] at he
    rcases he with rfl | rfl | rfl | rfl | rfl | rfl | rfl | rfl | rfl | rfl | rfl | rfl | rfl
    · exact pC0_ok
    · exact pC1_ok
    · exact pC2_ok
    · exact pC3_ok
    · exact pC4_ok
    · exact pC5_ok
    · exact pC6_ok
    · exact pC7_ok
    · exact pC8_ok
    · exact pC9_ok
    · exact pC10_ok
    · exact pC11_ok
    · exact pC12_ok
    ) (fuel := 100000) (n := 300) (me := 17) (by kernel_rfl)
end Go.Ab
