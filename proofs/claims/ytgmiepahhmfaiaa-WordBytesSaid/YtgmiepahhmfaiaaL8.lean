/- The walk of WordBytes. -/
import Derived.Test.YtgmiepahhmfaiaaRows
import Derived.Test.YtgmiepahhmfaiaaS
namespace Go.Proofs.Ytgmiepahhmfaiaa
set_option linter.unusedVariables false
open Go.RowKit

theorem putS_size (n : Int) : (putS n).size = 2 := rfl
theorem signI_bd (b : Int) (h0 : 0 ≤ b) (h1 : b < 256) : 0 ≤ signI b ∧ signI b < 65536 := by unfold signI; split <;> omega
theorem fits_sign (b : Int) (h0 : 0 ≤ b) (h1 : b < 256) : (signI (signI b % 256) == signI b) = true := by
  have : signI b % 256 = b := by unfold signI; split <;> omega
  rw [this]; simp
theorem get_put (n : Int) (h0 : 0 ≤ n) (h1 : n < 65536) : getI (putS n) = n := by
  unfold getI byteI putS
  simp
  omega
theorem small_max (n : Nat) (h : n ≤ 5) : n ≤ maxLen := by unfold maxLen; omega
set_option maxHeartbeats 400000 in
theorem wordBytes_walk (n b : Int) (s : ByteArray) (w : World) (n0 : 0 ≤ n) (n1 : n < 65536) (b0 : 0 ≤ b) (b1 : b < 256) (hs : s.size ≤ maxLen) :
    Calls Try.prog 10 #[.int .u16 n, .int .u8 b, .string s] w fun e w' => e = .returned (.bool true) ∧ Below w.heap.size w w' := by
  have sb := signI_bd b b0 b1
  have fs := fits_sign b b0 b1
  have gp := get_put n n0 n1
  have zS := putS_size n
  have zs2 := zS
  have zS := Lib.hid zs2
  have hs' := Lib.hid hs
  unfold maxLen at hs
  by_cases h : 5 < s.size
  · have hx : (s.extract 0 5).size ≤ maxLen := small_max _ (by rw [ByteArray.size_extract]; omega)
    have HX := Lib.hid hx
    clear hx
    go_enter Try.func10, Try.ntmps10
    go_wp2_with fail
    refine (sanity_any _).mono ?_; rintro e w1 ⟨rfl, h1⟩
    go_wp2_with (first
      | (go_at_call 30; refine (sign_any _ _ (by omega) (by omega)).mono ?_; rintro e w' ⟨rfl, rfl⟩)
      | (go_at_call 31; refine (rsign_any _ _ (by omega) (by omega)).mono ?_; rintro e w' ⟨rfl, rfl⟩)
      | (go_at_call 32; refine (fits_any _ _ (by omega) (by omega)).mono ?_; rintro e w' ⟨rfl, rfl⟩)
      | (go_at_call 33; refine (rfits_any _ _ (by omega) (by omega)).mono ?_; rintro e w' ⟨rfl, rfl⟩))
    refine (put_any _ _ (by omega) (by omega)).mono ?_; rintro e w2 ⟨rfl, h2⟩
    go_wp2_with fail
    refine (rput_any _ _ (by omega) (by omega)).mono ?_; rintro e w3 ⟨rfl, h3⟩
    go_wp2_with fail
    refine (get_any _ _ HX.out).mono ?_; rintro e w4 ⟨rfl, h4⟩
    go_wp2_with fail
    refine (rget_any _ _ HX.out).mono ?_; rintro e w' ⟨rfl, rfl⟩
    go_wp2_with fail
    refine (put_any _ _ (by omega) (by omega)).mono ?_; rintro e w5 ⟨rfl, h5⟩
    go_wp2_with fail
    refine (get_any _ _ (by rw [zS.out]; decide)).mono ?_; rintro e w6 ⟨rfl, h6⟩
    go_wp2_with fail
    refine (put_any _ _ (by omega) (by omega)).mono ?_; rintro e w7 ⟨rfl, h7⟩
    go_wp2
    go_ret
    have b2 := h1.trans (h2.mono h1.size)
    have b3 := b2.trans (h3.mono b2.size)
    have b4 := b3.trans (h4.mono b3.size)
    have b5 := b4.trans (h5.mono b4.size)
    have b6 := b5.trans (h6.mono b5.size)
    exact ⟨rfl, b6.trans (h7.mono b6.size)⟩
  · go_enter Try.func10, Try.ntmps10
    go_wp2_with fail
    refine (sanity_any _).mono ?_; rintro e w1 ⟨rfl, h1⟩
    go_wp2_with (first
      | (go_at_call 30; refine (sign_any _ _ (by omega) (by omega)).mono ?_; rintro e w' ⟨rfl, rfl⟩)
      | (go_at_call 31; refine (rsign_any _ _ (by omega) (by omega)).mono ?_; rintro e w' ⟨rfl, rfl⟩)
      | (go_at_call 32; refine (fits_any _ _ (by omega) (by omega)).mono ?_; rintro e w' ⟨rfl, rfl⟩)
      | (go_at_call 33; refine (rfits_any _ _ (by omega) (by omega)).mono ?_; rintro e w' ⟨rfl, rfl⟩))
    refine (put_any _ _ (by omega) (by omega)).mono ?_; rintro e w2 ⟨rfl, h2⟩
    go_wp2_with fail
    refine (rput_any _ _ (by omega) (by omega)).mono ?_; rintro e w3 ⟨rfl, h3⟩
    go_wp2_with fail
    refine (get_any _ _ hs'.out).mono ?_; rintro e w4 ⟨rfl, h4⟩
    go_wp2_with fail
    refine (rget_any _ _ hs'.out).mono ?_; rintro e w' ⟨rfl, rfl⟩
    go_wp2_with fail
    refine (put_any _ _ (by omega) (by omega)).mono ?_; rintro e w5 ⟨rfl, h5⟩
    go_wp2_with fail
    refine (get_any _ _ (by rw [zS.out]; decide)).mono ?_; rintro e w6 ⟨rfl, h6⟩
    go_wp2_with fail
    refine (put_any _ _ (by omega) (by omega)).mono ?_; rintro e w7 ⟨rfl, h7⟩
    go_wp2
    go_ret
    have b2 := h1.trans (h2.mono h1.size)
    have b3 := b2.trans (h3.mono b2.size)
    have b4 := b3.trans (h4.mono b3.size)
    have b5 := b4.trans (h5.mono b4.size)
    have b6 := b5.trans (h6.mono b5.size)
    exact ⟨rfl, b6.trans (h7.mono b6.size)⟩
end Go.Proofs.Ytgmiepahhmfaiaa
