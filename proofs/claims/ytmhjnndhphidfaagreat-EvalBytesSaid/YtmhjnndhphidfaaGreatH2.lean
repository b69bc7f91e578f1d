/- Lemmas. -/
import Derived.Test.YtmhjnndhphidfaaGreatH1
namespace Go.Ab
set_option maxRecDepth 30000
set_option linter.unusedSimpArgs false
set_option linter.unusedVariables false
open Go.Proofs
theorem bH0_ok : HOk bH0 := h_ok (fs := []) (tab := []) (hs := []) (tah := []) (by simp) (by simp) (fuel := 100000) (n := 300) (me := 109) (fun g => by kernel_rfl)
end Go.Ab
namespace Go.Ab
set_option maxRecDepth 30000
set_option linter.unusedSimpArgs false
set_option linter.unusedVariables false
open Go.Proofs
theorem bH1_ok : HOk bH1 := h_ok (fs := []) (tab := []) (hs := []) (tah := []) (by simp) (by simp) (fuel := 100000) (n := 300) (me := 109) (fun g => by kernel_rfl)
end Go.Ab
namespace Go.Ab
set_option maxRecDepth 30000
set_option linter.unusedSimpArgs false
set_option linter.unusedVariables false
open Go.Proofs
theorem bH3_ok : HOk bH3 := h_ok (fs := []) (tab := []) (hs := []) (tah := []) (by simp) (by simp) (fuel := 100000) (n := 300) (me := 109) (fun g => by kernel_rfl)
end Go.Ab
namespace Go.Ab
set_option maxRecDepth 30000
set_option linter.unusedSimpArgs false
set_option linter.unusedVariables false
open Go.Proofs
theorem bH5_ok : HOk bH5 := h_ok (fs := []) (tab := []) (hs := []) (tah := []) (by simp) (by simp) (fuel := 100000) (n := 300) (me := 109) (fun g => by kernel_rfl)
end Go.Ab
namespace Go.Ab
set_option maxRecDepth 30000
set_option linter.unusedSimpArgs false
set_option linter.unusedVariables false
open Go.Proofs
theorem bH7_ok : HOk bH7 := h_ok (fs := []) (tab := []) (hs := []) (tah := []) (by simp) (by simp) (fuel := 100000) (n := 300) (me := 109) (fun g => by kernel_rfl)
end Go.Ab
namespace Go.Ab
set_option maxRecDepth 30000
set_option linter.unusedSimpArgs false
set_option linter.unusedVariables false
open Go.Proofs
theorem bH8_ok : HOk bH8 := h_ok (fs := []) (tab := []) (hs := []) (tah := []) (by simp) (by simp) (fuel := 100000) (n := 300) (me := 109) (fun g => by kernel_rfl)
end Go.Ab
namespace Go.Ab
set_option maxRecDepth 30000
set_option linter.unusedSimpArgs false
set_option linter.unusedVariables false
open Go.Proofs
theorem bH9_ok : HOk bH9 := h_ok (fs := []) (tab := []) (hs := []) (tah := []) (by simp) (by simp) (fuel := 100000) (n := 300) (me := 109) (fun g => by kernel_rfl)
end Go.Ab
namespace Go.Ab
set_option maxRecDepth 30000
set_option linter.unusedSimpArgs false
set_option linter.unusedVariables false
open Go.Proofs
theorem bH16_ok : HOk bH16 := h_ok (fs := []) (tab := []) (hs := []) (tah := []) (by simp) (by simp) (fuel := 100000) (n := 300) (me := 109) (fun g => by kernel_rfl)
end Go.Ab
