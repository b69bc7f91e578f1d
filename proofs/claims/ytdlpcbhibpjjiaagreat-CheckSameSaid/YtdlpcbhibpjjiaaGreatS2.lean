/- Lemmas. -/
import Derived.Test.YtdlpcbhibpjjiaaGreatS1
import Derived.Test.YtdlpcbhibpjjiaaGreatX0
import Derived.Test.YtdlpcbhibpjjiaaGreatX1
import Derived.Test.YtdlpcbhibpjjiaaGreatX2
import Derived.Test.YtdlpcbhibpjjiaaGreatX3
import Derived.Test.YtdlpcbhibpjjiaaGreatX4
import Derived.Test.YtdlpcbhibpjjiaaGreatX5
import Derived.Test.YtdlpcbhibpjjiaaGreatX6
import Derived.Test.YtdlpcbhibpjjiaaGreatX7
import Derived.Test.YtdlpcbhibpjjiaaGreatX8
import Derived.Test.YtdlpcbhibpjjiaaGreatX9
import Derived.Test.YtdlpcbhibpjjiaaGreatX10
import Derived.Test.YtdlpcbhibpjjiaaGreatX11
import Derived.Test.YtdlpcbhibpjjiaaGreatX12
namespace Go.Ab
set_option maxRecDepth 8000
set_option linter.unusedSimpArgs false
set_option linter.unusedVariables false
open Go.Proofs
noncomputable def sTab : List Ent := [sE0, sE1, sE2, sE3, sE4, sE5, sE6, sE7, sE8, sE9, sE10, sE11, sE12]
theorem sTab_ok : ∀ e ∈ sTab, EntOk e := by
  intro e he
  simp only [sTab, List.mem_cons, List.not_mem_nil, or_false] at he
  rcases he with rfl | rfl | rfl | rfl | rfl | rfl | rfl | rfl | rfl | rfl | rfl | rfl | rfl
  · exact sE0_ok
  · exact sE1_ok
  · exact sE2_ok
  · exact sE3_ok
  · exact sE4_ok
  · exact sE5_ok
  · exact sE6_ok
  · exact sE7_ok
  · exact sE8_ok
  · exact sE9_ok
  · exact sE10_ok
  · exact sE11_ok
  · exact sE12_ok
theorem sanity_run : okR (.p (.bool true)) 0 (runE (EKr [13, 17, 18, 19, 26] sTab) 100000 (callE (EKr [13, 17, 18, 19, 26] sTab) 100000 300) 0 11 [] ⟨0, []⟩) = true := by kernel_rfl
theorem sanity_ok : RunOk Tryz.prog 11 [] ⟨0, []⟩ (.ret (.p (.bool true))) ⟨0, []⟩ := ent_ok (e := ⟨11, [], .p (.bool true), 0⟩) sTab_ok sanity_run
end Go.Ab
