/- Lemmas. -/
import Derived.Test.YtmhjnndhphidfaaGreatM3
import Derived.Test.YtmhjnndhphidfaaGreatM4
import Derived.Test.YtmhjnndhphidfaaGreatM2
namespace Go.Ab
set_option maxRecDepth 30000
set_option linter.unusedSimpArgs false
set_option linter.unusedVariables false
open Go.Proofs
theorem bM22_ok : MOk bM22 := m_ok (fs := [125]) (tab := [bM4, bM5, bM6, bM7, bM8, bM9, bM10, bM11, bM12, bM13, bM14, bM15, bM16, bM17, bM18, bM19, bM20, bM21]) (by
    intro e he
    simp only [List.mem_cons, List.not_mem_nil, or_false] at he
    rcases he with rfl | rfl | rfl | rfl | rfl | rfl | rfl | rfl | rfl | rfl | rfl | rfl | rfl | rfl | rfl | rfl | rfl | rfl
    · exact bM4_ok
    · exact bM5_ok
    · exact bM6_ok
    · exact bM7_ok
    · exact bM8_ok
    · exact bM9_ok
    · exact bM10_ok
    · exact bM11_ok
    · exact bM12_ok
    · exact bM13_ok
    · exact bM14_ok
    · exact bM15_ok
    · exact bM16_ok
    · exact bM17_ok
    · exact bM18_ok
    · exact bM19_ok
    · exact bM20_ok
    · exact bM21_ok
    ) (fuel := 100000) (n := 300) (me := 11) (by kernel_rfl)
theorem bM24_ok : MOk bM24 := m_ok (fs := [125]) (tab := [bM23]) (by
    intro e he
    simp only [List.mem_cons, List.not_mem_nil, or_false] at he
    rcases he with rfl
    · exact bM23_ok
    ) (fuel := 100000) (n := 300) (me := 11) (by kernel_rfl)
end Go.Ab
namespace Go.Ab
set_option maxRecDepth 30000
set_option linter.unusedSimpArgs false
set_option linter.unusedVariables false
open Go.Proofs
theorem bM25_ok : MOk bM25 := m_ok (fs := [14, 15]) (tab := [bM0, bM1, bM2, bM3, bM22, bM24]) (by
    intro e he
    simp only [List.mem_cons, List.not_mem_nil, or_false] at he
    rcases he with rfl | rfl | rfl | rfl | rfl | rfl
    · exact bM0_ok
    · exact bM1_ok
    · exact bM2_ok
    · exact bM3_ok
    · exact bM22_ok
    · exact bM24_ok
    ) (fuel := 100000) (n := 300) (me := 7) (by kernel_rfl)
end Go.Ab
