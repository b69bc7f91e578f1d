/- Lemmas. -/
import Derived.Test.YtmhjnndhphidfaaGreatC1
import Derived.Test.YtmhjnndhphidfaaGreatC2
import Derived.Test.YtmhjnndhphidfaaGreatC3
import Derived.Test.YtmhjnndhphidfaaGreatC4
namespace Go.Ab
set_option maxRecDepth 30000
set_option linter.unusedSimpArgs false
set_option linter.unusedVariables false
open Go.Proofs
theorem bC15_ok : MOk bC15 := m_ok (fs := []) (tab := []) (by simp) (fuel := 100000) (n := 300) (me := 44) (by kernel_rfl)
theorem bC16_ok : MOk bC16 := m_ok (fs := []) (tab := []) (by simp) (fuel := 100000) (n := 300) (me := 44) (by kernel_rfl)
theorem bC18_ok : MOk bC18 := m_ok (fs := []) (tab := []) (by simp) (fuel := 100000) (n := 300) (me := 44) (by kernel_rfl)
end Go.Ab
namespace Go.Ab
set_option maxRecDepth 30000
set_option linter.unusedSimpArgs false
set_option linter.unusedVariables false
open Go.Proofs
theorem bC17_ok : MOk bC17 := m_ok (fs := [106]) (tab := [bC0, bC1, bC2, bC3, bC4, bC5, bC6, bC7, bC8, bC9, bC10, bC11, bC12, bC13, bC14, bC15, bC16]) (by
    intro e he
    simp only [List.mem_cons, List.not_mem_nil, or_false] at he
    rcases he with rfl | rfl | rfl | rfl | rfl | rfl | rfl | rfl | rfl | rfl | rfl | rfl | rfl | rfl | rfl | rfl | rfl
    · exact bC0_ok
    · exact bC1_ok
    · exact bC2_ok
    · exact bC3_ok
    · exact bC4_ok
    · exact bC5_ok
    · exact bC6_ok
    · exact bC7_ok
    · exact bC8_ok
    · exact bC9_ok
    · exact bC10_ok
    · exact bC11_ok
    · exact bC12_ok
    · exact bC13_ok
    · exact bC14_ok
    · exact bC15_ok
    · exact bC16_ok
    ) (fuel := 100000) (n := 300) (me := 17) (by kernel_rfl)
theorem bC19_ok : MOk bC19 := m_ok (fs := [106]) (tab := [bC18]) (by
    intro e he
    simp only [List.mem_cons, List.not_mem_nil, or_false] at he
    rcases he with rfl
    · exact bC18_ok
    ) (fuel := 100000) (n := 300) (me := 17) (by kernel_rfl)
end Go.Ab
