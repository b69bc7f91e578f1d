/- The walk of WordHalves. -/
import Derived.Test.YtgmiepahhmfaiaaRows
import Derived.Test.YtgmiepahhmfaiaaS
namespace Go.Proofs.Ytgmiepahhmfaiaa
set_option linter.unusedVariables false
open Go.RowKit

theorem addF_bd (a b : Int) (c : Bool) : 0 ≤ addF a b c ∧ addF a b c < 16 := by
  have := halfI_bd (addR a b c)
  unfold addF; split <;> split <;> omega
theorem addF_and (a b : Int) (c : Bool) : bits .and .u16 (addF a b c) 3 = halfI (addR a b c) := by
  have h := halfI_bd (addR a b c)
  have k := addF_bd a b c
  rw [and_3 _ k.1 (by omega)]
  unfold addF; split <;> split <;> omega
theorem addF_with (a b : Int) (c : Bool) : withI (addF a b c) (addR a b c) = addF a b c := by
  have h := halfI_bd (addR a b c)
  unfold withI addF; split <;> split <;> omega
set_option maxHeartbeats 400000 in
theorem wordHalves_walk (f r b : Int) (w : World) (f0 : 0 ≤ f) (f1 : f < 65536) (r0 : 0 ≤ r) (r1 : r < 65536) (b0 : 0 ≤ b) (b1 : b < 65536) :
    Calls Try.prog 8 #[.int .u16 f, .int .u16 r, .int .u16 b] w fun e w' => e = .returned (.bool true) ∧ Below w.heap.size w w' := by
  have s1 := addR_bd r b false
  have s2 := addF_bd r b false
  have s3 : 0 ≤ subR r b true ∧ subR r b true < 65536 := addR_bd _ _ _
  have s4 : 0 ≤ subF r b true ∧ subF r b true < 16 := addF_bd _ _ _
  have e1 := addF_and r b false
  have e2 : bits .and .u16 (subF r b true) 3 = halfI (subR r b true) := addF_and _ _ _
  have e3 := addF_with r b false
  go_enter Try.func8, Try.ntmps8
  go_wp2_with fail
  refine (sanity_any _).mono ?_; rintro e w1 ⟨rfl, h1⟩
  go_wp2_with (first
    | (go_at_call 16; refine (add_any _ _ _ _ (by omega) (by omega) (by omega) (by omega)).mono ?_; rintro e w' ⟨rfl, rfl⟩)
    | (go_at_call 18; refine (sub_any _ _ _ _ (by omega) (by omega) (by omega) (by omega)).mono ?_; rintro e w' ⟨rfl, rfl⟩)
    | (go_at_call 24; refine (half_any _ _ (by omega) (by omega)).mono ?_; rintro e w' ⟨rfl, rfl⟩)
    | (go_at_call 25; refine (rhalf_any _ _ (by omega) (by omega)).mono ?_; rintro e w' ⟨rfl, rfl⟩)
    | (go_at_call 26; refine (with_any _ _ _ (by omega) (by omega) (by omega) (by omega)).mono ?_; rintro e w' ⟨rfl, rfl⟩)
    | (go_at_call 27; refine (rwith_any _ _ _ (by omega) (by omega) (by omega) (by omega)).mono ?_; rintro e w' ⟨rfl, rfl⟩))
  go_ret
  exact ⟨rfl, h1⟩
end Go.Proofs.Ytgmiepahhmfaiaa
