/- Lemmas. -/
import Derived.Test.YtmhjnndhphidfaaGreatH1
namespace Go.Ab
set_option maxRecDepth 30000
set_option linter.unusedSimpArgs false
set_option linter.unusedVariables false
open Go.Proofs
theorem bH2_ok : HOk bH2 := h_ok (fs := []) (tab := []) (hs := []) (tah := []) (by simp) (by simp) (fuel := 100000) (n := 300) (me := 109) (fun g => by kernel_rfl)
end Go.Ab
namespace Go.Ab
set_option maxRecDepth 30000
set_option linter.unusedSimpArgs false
set_option linter.unusedVariables false
open Go.Proofs
theorem bH4_ok : HOk bH4 := h_ok (fs := []) (tab := []) (hs := []) (tah := []) (by simp) (by simp) (fuel := 100000) (n := 300) (me := 109) (fun g => by kernel_rfl)
end Go.Ab
namespace Go.Ab
set_option maxRecDepth 30000
set_option linter.unusedSimpArgs false
set_option linter.unusedVariables false
open Go.Proofs
theorem bH6_ok : HOk bH6 := h_ok (fs := []) (tab := []) (hs := []) (tah := []) (by simp) (by simp) (fuel := 100000) (n := 300) (me := 109) (fun g => by kernel_rfl)
end Go.Ab
