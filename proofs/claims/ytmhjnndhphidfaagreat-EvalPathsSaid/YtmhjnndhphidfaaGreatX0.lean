/- Lemmas. -/
import Derived.Test.YtmhjnndhphidfaaGreatS1
namespace Go.Ab
set_option maxRecDepth 30000
set_option linter.unusedSimpArgs false
set_option linter.unusedVariables false
open Go.Proofs
theorem gE0_ok : EntOk gE0 := ent_ok (fs := []) (tab := []) (by simp) (fuel := 100000) (n := 300) (me := 6) (by kernel_rfl)
end Go.Ab
namespace Go.Ab
set_option maxRecDepth 30000
set_option linter.unusedSimpArgs false
set_option linter.unusedVariables false
open Go.Proofs
theorem gE1_ok : EntOk gE1 := ent_ok (fs := []) (tab := []) (by simp) (fuel := 100000) (n := 300) (me := 6) (by kernel_rfl)
end Go.Ab
namespace Go.Ab
set_option maxRecDepth 30000
set_option linter.unusedSimpArgs false
set_option linter.unusedVariables false
open Go.Proofs
theorem gE2_ok : EntOk gE2 := ent_ok (fs := [16]) (tab := [gE1]) (by simp; exact gE1_ok) (fuel := 100000) (n := 300) (me := 6) (by kernel_rfl)
end Go.Ab
