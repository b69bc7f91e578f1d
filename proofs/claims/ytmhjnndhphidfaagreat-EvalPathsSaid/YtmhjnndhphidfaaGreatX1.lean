/- Lemmas. -/
import Derived.Test.YtmhjnndhphidfaaGreatS1
namespace Go.Ab
set_option maxRecDepth 30000
set_option linter.unusedSimpArgs false
set_option linter.unusedVariables false
open Go.Proofs
theorem gE3_ok : EntOk gE3 := ent_ok (fs := []) (tab := []) (by simp) (fuel := 100000) (n := 300) (me := 6) (by kernel_rfl)
end Go.Ab
namespace Go.Ab
set_option maxRecDepth 30000
set_option linter.unusedSimpArgs false
set_option linter.unusedVariables false
open Go.Proofs
theorem gE4_ok : EntOk gE4 := ent_ok (fs := []) (tab := []) (by simp) (fuel := 100000) (n := 300) (me := 12) (by kernel_rfl)
end Go.Ab
namespace Go.Ab
set_option maxRecDepth 30000
set_option linter.unusedSimpArgs false
set_option linter.unusedVariables false
open Go.Proofs
theorem gE5_ok : EntOk gE5 := ent_ok (fs := [16]) (tab := [gE4]) (by simp; exact gE4_ok) (fuel := 100000) (n := 300) (me := 6) (by kernel_rfl)
end Go.Ab
