/- Lemmas. -/
import Derived.Test.YtmhjnndhphidfaaGreatS1
namespace Go.Ab
set_option maxRecDepth 30000
set_option linter.unusedSimpArgs false
set_option linter.unusedVariables false
open Go.Proofs
theorem gE9_ok : EntOk gE9 := ent_ok (fs := []) (tab := []) (by simp) (fuel := 100000) (n := 300) (me := 6) (by kernel_rfl)
end Go.Ab
namespace Go.Ab
set_option maxRecDepth 30000
set_option linter.unusedSimpArgs false
set_option linter.unusedVariables false
open Go.Proofs
theorem gE10_ok : EntOk gE10 := ent_ok (fs := []) (tab := []) (by simp) (fuel := 100000) (n := 300) (me := 12) (by kernel_rfl)
end Go.Ab
namespace Go.Ab
set_option maxRecDepth 30000
set_option linter.unusedSimpArgs false
set_option linter.unusedVariables false
open Go.Proofs
theorem gE11_ok : EntOk gE11 := ent_ok (fs := [16]) (tab := [gE10]) (by simp; exact gE10_ok) (fuel := 100000) (n := 300) (me := 6) (by kernel_rfl)
end Go.Ab
