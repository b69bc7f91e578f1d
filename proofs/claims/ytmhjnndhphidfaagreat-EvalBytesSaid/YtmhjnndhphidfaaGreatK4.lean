/- Lemmas. -/
import Derived.Test.YtmhjnndhphidfaaGreatK2
import Derived.Test.YtmhjnndhphidfaaGreatK3
namespace Go.Ab
set_option maxRecDepth 30000
set_option linter.unusedSimpArgs false
set_option linter.unusedVariables false
open Go.Proofs
theorem bV5_ok : MOk bV5 := m_ok (fs := [34, 42]) (tab := [bK0, bK1, bK2]) (by
    intro e he
    simp only [List.mem_cons, List.not_mem_nil, or_false] at he
    rcases he with rfl | rfl | rfl
    · exact bK0_ok
    · exact bK1_ok
    · exact bK2_ok
    ) (fuel := 100000) (n := 300) (me := 12) (by kernel_rfl)
end Go.Ab
