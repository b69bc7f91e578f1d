/- Lemmas. -/
import Derived.Test.YtmhjnndhphidfaaGreatH2
import Derived.Test.YtmhjnndhphidfaaGreatH3
import Derived.Test.YtmhjnndhphidfaaGreatH4
import Derived.Test.YtmhjnndhphidfaaGreatH5
import Derived.Test.YtmhjnndhphidfaaGreatH6
namespace Go.Ab
set_option maxRecDepth 30000
set_option linter.unusedSimpArgs false
set_option linter.unusedVariables false
open Go.Proofs
theorem bH18_ok : HOk bH18 := h_ok (fs := []) (tab := []) (hs := [107]) (tah := [bH0, bH1, bH2, bH3, bH4, bH5, bH6, bH7, bH8, bH9, bH10, bH11, bH12, bH13, bH14, bH15, bH16, bH17]) (by simp) (by
    intro e he
    simp only [List.mem_cons, List.not_mem_nil, or_false] at he
    rcases he with rfl | rfl | rfl | rfl | rfl | rfl | rfl | rfl | rfl | rfl | rfl | rfl | rfl | rfl | rfl | rfl | rfl | rfl
    · exact bH0_ok
    · exact bH1_ok
    · exact bH2_ok
    · exact bH3_ok
    · exact bH4_ok
    · exact bH5_ok
    · exact bH6_ok
    · exact bH7_ok
    · exact bH8_ok
    · exact bH9_ok
    · exact bH10_ok
    · exact bH11_ok
    · exact bH12_ok
    · exact bH13_ok
    · exact bH14_ok
    · exact bH15_ok
    · exact bH16_ok
    · exact bH17_ok
    ) (fuel := 100000) (n := 300) (me := 47) (fun g => by kernel_rfl)
end Go.Ab
namespace Go.Ab
set_option maxRecDepth 30000
set_option linter.unusedSimpArgs false
set_option linter.unusedVariables false
open Go.Proofs
theorem bH19_ok : HOk bH19 := h_ok (fs := []) (tab := []) (hs := [109]) (tah := [bH18]) (by simp) (by
    intro e he
    simp only [List.mem_cons, List.not_mem_nil, or_false] at he
    rcases he with rfl
    · exact bH18_ok
    ) (fuel := 100000) (n := 300) (me := 17) (fun g => by kernel_rfl)
end Go.Ab
