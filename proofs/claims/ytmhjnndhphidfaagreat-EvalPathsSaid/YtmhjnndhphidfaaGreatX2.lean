/- Lemmas. -/
import Derived.Test.YtmhjnndhphidfaaGreatS1
namespace Go.Ab
set_option maxRecDepth 30000
set_option linter.unusedSimpArgs false
set_option linter.unusedVariables false
open Go.Proofs
theorem gE6_ok : EntOk gE6 := ent_ok (fs := []) (tab := []) (by simp) (fuel := 100000) (n := 300) (me := 6) (by kernel_rfl)
end Go.Ab
namespace Go.Ab
set_option maxRecDepth 30000
set_option linter.unusedSimpArgs false
set_option linter.unusedVariables false
open Go.Proofs
theorem gE7_ok : EntOk gE7 := ent_ok (fs := []) (tab := []) (by simp) (fuel := 100000) (n := 300) (me := 12) (by kernel_rfl)
end Go.Ab
namespace Go.Ab
set_option maxRecDepth 30000
set_option linter.unusedSimpArgs false
set_option linter.unusedVariables false
open Go.Proofs
theorem gE8_ok : EntOk gE8 := ent_ok (fs := [16]) (tab := [gE7]) (by simp; exact gE7_ok) (fuel := 100000) (n := 300) (me := 6) (by kernel_rfl)
end Go.Ab
