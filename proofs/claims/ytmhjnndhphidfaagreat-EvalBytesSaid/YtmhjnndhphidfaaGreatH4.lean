/- Lemmas. -/
import Derived.Test.YtmhjnndhphidfaaGreatH1
namespace Go.Ab
set_option maxRecDepth 30000
set_option linter.unusedSimpArgs false
set_option linter.unusedVariables false
open Go.Proofs
theorem bH10_ok : HOk bH10 := h_ok (fs := []) (tab := []) (hs := []) (tah := []) (by simp) (by simp) (fuel := 100000) (n := 300) (me := 109) (fun g => by kernel_rfl)
end Go.Ab
namespace Go.Ab
set_option maxRecDepth 30000
set_option linter.unusedSimpArgs false
set_option linter.unusedVariables false
open Go.Proofs
theorem bH11_ok : HOk bH11 := h_ok (fs := []) (tab := []) (hs := []) (tah := []) (by simp) (by simp) (fuel := 100000) (n := 300) (me := 109) (fun g => by kernel_rfl)
end Go.Ab
namespace Go.Ab
set_option maxRecDepth 30000
set_option linter.unusedSimpArgs false
set_option linter.unusedVariables false
open Go.Proofs
theorem bH12_ok : HOk bH12 := h_ok (fs := []) (tab := []) (hs := []) (tah := []) (by simp) (by simp) (fuel := 100000) (n := 300) (me := 109) (fun g => by kernel_rfl)
end Go.Ab
