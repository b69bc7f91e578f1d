/- The walk of WordConds. -/
import Derived.Test.YtgmiepahhmfaiaaRows
import Derived.Test.YtgmiepahhmfaiaaS
import Derived.Test.YtgmiepahhmfaiaaB
import Derived.Test.YtgmiepahhmfaiaaC
namespace Go.Proofs.Ytgmiepahhmfaiaa
set_option linter.unusedVariables false
open Go.RowKit

theorem cond_pair (k f : Int) (h0 : 0 ≤ k) (h1 : k < 7) : condI (2 * k + 1) f = !condI (2 * k) f := by
  unfold condI
  generalize fz f = z
  generalize fc f = c
  generalize fn f = n
  generalize fv f = v
  rcases (show k = 0 ∨ k = 1 ∨ k = 2 ∨ k = 3 ∨ k = 4 ∨ k = 5 ∨ k = 6 by omega) with rfl | rfl | rfl | rfl | rfl | rfl | rfl
  all_goals (cases z <;> cases n <;> cases c <;> cases v <;> rfl)
set_option maxHeartbeats 400000 in
theorem wordConds_walk (cc f : Int) (w : World) (c0 : -9223372036854775808 ≤ cc) (c1 : cc ≤ 9223372036854775807) (f0 : 0 ≤ f) (f1 : f < 65536) :
    Calls Try.prog 9 #[.int .i64 cc, .int .u16 f] w fun e w' => e = .returned (.bool true) ∧ Below w.heap.size w w' := by
  obtain ⟨x, hx, x0, x1⟩ : ∃ x, cc.tmod 7 = x ∧ -7 < x ∧ x < 7 := ⟨_, rfl, Int.lt_tmod_of_pos cc (by decide), Int.tmod_lt_of_pos cc (by decide)⟩
  obtain ⟨k, hk, k0, k1⟩ : ∃ k, (x + 7) % 7 = k ∧ 0 ≤ k ∧ k < 7 := ⟨_, rfl, by omega, by omega⟩
  have hp := cond_pair k f k0 k1
  go_enter Try.func9, Try.ntmps9
  go_wp2_with fail
  refine (sanity_any _).mono ?_; rintro e w1 ⟨rfl, h1⟩
  go_wp2_with fail
  refine (cond_any _ _ _ (by omega) (by omega) (by omega) (by omega)).mono ?_; rintro e w2 ⟨rfl, h2⟩
  go_wp2_with fail
  refine (rcond_any _ _ _ (by omega) (by omega) (by omega) (by omega)).mono ?_; rintro e w' ⟨rfl, rfl⟩
  go_wp2_with fail
  refine (cond_any _ _ _ (by omega) (by omega) (by omega) (by omega)).mono ?_; rintro e w3 ⟨rfl, h3⟩
  go_wp2_with fail
  refine (rcond_any _ _ _ (by omega) (by omega) (by omega) (by omega)).mono ?_; rintro e w' ⟨rfl, rfl⟩
  go_wp2_with fail
  refine (cond_any _ _ _ (by omega) (by omega) (by omega) (by omega)).mono ?_; rintro e w4 ⟨rfl, h4⟩
  go_wp2_with fail
  refine (cond_any _ _ _ (by omega) (by omega) (by omega) (by omega)).mono ?_; rintro e w5 ⟨rfl, h5⟩
  go_wp2
  go_ret
  have b2 := h1.trans (h2.mono h1.size)
  have b3 := b2.trans (h3.mono b2.size)
  have b4 := b3.trans (h4.mono b3.size)
  exact ⟨by simp, b4.trans (h5.mono b4.size)⟩
end Go.Proofs.Ytgmiepahhmfaiaa
