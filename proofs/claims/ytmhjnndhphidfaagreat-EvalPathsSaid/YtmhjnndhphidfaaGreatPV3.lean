/- Lemmas. -/
import Derived.Test.YtmhjnndhphidfaaGreatPV1
namespace Go.Ab
set_option maxRecDepth 30000
set_option linter.unusedSimpArgs false
set_option linter.unusedVariables false
open Go.Proofs
theorem pV1_ok : MOk pV1 := m_ok (fs := []) (tab := []) (by simp) (fuel := 100000) (n := 300) (me := 16) (by kernel_rfl)
end Go.Ab
namespace Go.Ab
set_option maxRecDepth 30000
set_option linter.unusedSimpArgs false
set_option linter.unusedVariables false
open Go.Proofs
theorem pV2_ok : MOk pV2 := m_ok (fs := []) (tab := []) (by simp) (fuel := 100000) (n := 300) (me := 41) (by kernel_rfl)
end Go.Ab
namespace Go.Ab
set_option maxRecDepth 30000
set_option linter.unusedSimpArgs false
set_option linter.unusedVariables false
open Go.Proofs
theorem pV3_ok : MOk pV3 := m_ok (fs := [34, 42]) (tab := [pV1, pV2]) (by
    intro e he
    simp only [List.mem_cons, List.not_mem_nil, or_false] at he
    rcases he with rfl | rfl
    · exact pV1_ok
    · exact pV2_ok
    ) (fuel := 100000) (n := 300) (me := 12) (by kernel_rfl)
end Go.Ab
