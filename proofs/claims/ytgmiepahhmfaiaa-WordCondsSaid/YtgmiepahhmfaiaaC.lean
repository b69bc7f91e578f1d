/- The contract of the reference's Cond. -/
import Derived.Test.YtgmiepahhmfaiaaA
import Derived.Lib.Hide
namespace Go.Proofs.Ytgmiepahhmfaiaa
set_option linter.unusedVariables false
open Go.RowKit
set_option maxHeartbeats 1000000 in
theorem rcond_any (cc f : Int) (w : World) (f0 : 0 ≤ f) (f1 : f < 65536) (c0 : -9223372036854775808 ≤ cc) (c1 : cc ≤ 9223372036854775807) :
    Calls Try.prog 29 #[.int .i64 cc, .int .u16 f] w fun e w' => e = .returned (.bool (condI cc f)) ∧ w = w' := by
  have hC : condI cc f = condB cc (fz f) (fn f) (fc f) (fv f) := rfl
  rw [hC]; clear hC
  have m1 : f.tmod 2 = f % 2 := Int.tmod_eq_emod_of_nonneg f0
  have d2 := div_in f 2 f0 f1 (by omega)
  have d4 := div_in f 4 f0 f1 (by omega)
  have d8 := div_in f 8 f0 f1 (by omega)
  have m2 : (f / 2).tmod 2 = f / 2 % 2 := Int.tmod_eq_emod_of_nonneg (by omega)
  have m4 : (f / 4).tmod 2 = f / 4 % 2 := Int.tmod_eq_emod_of_nonneg (by omega)
  have m8 : (f / 8).tmod 2 = f / 8 % 2 := Int.tmod_eq_emod_of_nonneg (by omega)
  have hz : (f % 2 == 1) = fz f := rfl
  have hn : (f / 2 % 2 == 1) = fn f := rfl
  have hc : (f / 4 % 2 == 1) = fc f := rfl
  have hv : (f / 8 % 2 == 1) = fv f := rfl
  generalize fz f = z at *
  generalize fc f = c at *
  generalize fn f = n at *
  generalize fv f = v at *
  rcases cc_cases cc with h | rfl | rfl | rfl | rfl | rfl | rfl | rfl | rfl | rfl | rfl | rfl | rfl | rfl | rfl
  · have hb : condB cc z n c v = false := by
      have := h
      unfold condB; repeat (rw [if_neg (by omega)])
    rw [hb]; clear hb
    go_enter Try.func29, Try.ntmps29
    go_wp2
    all_goals
      go_ret
      exact ⟨rfl, rfl⟩
  all_goals
    go_enter Try.func29, Try.ntmps29
    go_wp2
    all_goals
      go_ret
      refine ⟨ret_bool ?_, rfl⟩
      clear hz hn hc hv
      simp_all [condB, bne]
end Go.Proofs.Ytgmiepahhmfaiaa
