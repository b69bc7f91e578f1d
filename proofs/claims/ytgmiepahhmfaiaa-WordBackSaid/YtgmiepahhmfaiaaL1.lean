/- The walks of the laws. -/
import Derived.Test.YtgmiepahhmfaiaaRows
import Derived.Test.YtgmiepahhmfaiaaS
namespace Go.Proofs.Ytgmiepahhmfaiaa
set_option linter.unusedVariables false
open Go.RowKit
theorem back_1 (a b : Int) (c : Bool) (a0 : 0 ≤ a) (a1 : a < 65536) (b0 : 0 ≤ b) (b1 : b < 65536) : subR (addR a b c) b (!c) = a := by
  cases c <;> simp [subR, addR, cI] <;> omega
theorem back_2 (a b : Int) (c : Bool) (a0 : 0 ≤ a) (a1 : a < 65536) (b0 : 0 ≤ b) (b1 : b < 65536) : addR (subR a b c) b (!c) = a := by
  cases c <;> simp [subR, addR, cI] <;> omega
theorem wordBack_walk (a b : Int) (c : Bool) (w : World) (a0 : 0 ≤ a) (a1 : a < 65536) (b0 : 0 ≤ b) (b1 : b < 65536) :
    Calls Try.prog 5 #[.int .u16 a, .int .u16 b, .bool c] w fun e w' => e = .returned (.bool true) ∧ Below w.heap.size w w' := by
  have r1 := addR_bd a b c
  have r2 : 0 ≤ subR a b c ∧ subR a b c < 65536 := addR_bd _ _ _
  have e1 := back_1 a b c a0 a1 b0 b1
  have e2 := back_2 a b c a0 a1 b0 b1
  go_enter Try.func5, Try.ntmps5
  go_wp2_with fail
  refine (sanity_any _).mono ?_; rintro e w1 ⟨rfl, h1⟩
  go_wp2_with fail
  refine (add_any _ _ _ _ (by omega) (by omega) (by omega) (by omega)).mono ?_; rintro e w' ⟨rfl, rfl⟩
  go_wp2_with fail
  refine (sub_any _ _ _ _ (by omega) (by omega) (by omega) (by omega)).mono ?_; rintro e w' ⟨rfl, rfl⟩
  go_wp2_with fail
  refine (sub_any _ _ _ _ (by omega) (by omega) (by omega) (by omega)).mono ?_; rintro e w' ⟨rfl, rfl⟩
  go_wp2_with fail
  refine (add_any _ _ _ _ (by omega) (by omega) (by omega) (by omega)).mono ?_; rintro e w' ⟨rfl, rfl⟩
  go_wp2
  go_ret
  exact ⟨rfl, h1⟩
end Go.Proofs.Ytgmiepahhmfaiaa
