/- Lemmas. -/
import Derived.Test.YtmhjnndhphidfaaGreatS1
import Derived.Test.YtmhjnndhphidfaaGreatX0
import Derived.Test.YtmhjnndhphidfaaGreatX1
import Derived.Test.YtmhjnndhphidfaaGreatX2
import Derived.Test.YtmhjnndhphidfaaGreatX3
namespace Go.Ab
set_option maxRecDepth 30000
set_option linter.unusedSimpArgs false
set_option linter.unusedVariables false
open Go.Proofs
noncomputable def gTab : List Ent := [gE0, gE2, gE3, gE5, gE6, gE8, gE9, gE11]
theorem gTab_ok : ∀ e ∈ gTab, EntOk e := by
  intro e he
  simp only [gTab, List.mem_cons, List.not_mem_nil, or_false] at he
  rcases he with rfl | rfl | rfl | rfl | rfl | rfl | rfl | rfl
  · exact gE0_ok
  · exact gE2_ok
  · exact gE3_ok
  · exact gE5_ok
  · exact gE6_ok
  · exact gE8_ok
  · exact gE9_ok
  · exact gE11_ok
theorem sanity15_run : okR (.p (.bool true)) 0 (runE (EKr [7, 8] gTab) 100000 (callE (EKr [7, 8] gTab) 100000 300) 0 6 [] ⟨0, []⟩) = true := by kernel_rfl
theorem sanity15_ok : RunOk Tryz.prog 6 [] ⟨0, []⟩ (.ret (.p (.bool true))) ⟨0, []⟩ := ent_ok (e := ⟨6, [], .p (.bool true), 0⟩) gTab_ok sanity15_run
end Go.Ab
