/- The contract of sanity. -/
import Derived.Test.YtgmiepahhmfaiaaD
import Derived.Test.YtgmiepahhmfaiaaF
namespace Go.Proofs.Ytgmiepahhmfaiaa
set_option linter.unusedVariables false
open Go.RowKit
theorem lit1 (w : World) : Calls Try.prog 16 #[.int .u16 32767, .int .u16 1, .bool false] w fun e w' => e = .returned (.tuple #[.int .u16 32768, .int .u16 10]) ∧ w = w' :=
  (add_any 32767 1 false w (by omega) (by omega) (by omega) (by omega)).mono fun e w' ⟨h, k⟩ => ⟨h.trans (ret_pair (by decide) (by decide)), k⟩
theorem lit2 (w : World) : Calls Try.prog 16 #[.int .u16 65535, .int .u16 0, .bool true] w fun e w' => e = .returned (.tuple #[.int .u16 0, .int .u16 5]) ∧ w = w' :=
  (add_any 65535 0 true w (by omega) (by omega) (by omega) (by omega)).mono fun e w' ⟨h, k⟩ => ⟨h.trans (ret_pair (by decide) (by decide)), k⟩
theorem lit3 (w : World) : Calls Try.prog 18 #[.int .u16 1, .int .u16 2, .bool true] w fun e w' => e = .returned (.tuple #[.int .u16 65535, .int .u16 2]) ∧ w = w' :=
  (sub_any 1 2 true w (by omega) (by omega) (by omega) (by omega)).mono fun e w' ⟨h, k⟩ => ⟨h.trans (ret_pair (by decide) (by decide)), k⟩
theorem lit4 (w : World) : Calls Try.prog 20 #[.int .i64 2, .int .u16 32768, .int .u16 17] w fun e w' => e = .returned (.int .u16 49152) ∧ Below w.heap.size w w' :=
  (shift_any 2 32768 17 w (by omega) (by omega) (by omega) (by omega) (by omega) (by omega)).mono fun e w' ⟨h, k⟩ => ⟨h.trans (ret_int (by decide)), k⟩
theorem lit5 (w : World) : Calls Try.prog 30 #[.int .u8 128] w fun e w' => e = .returned (.int .u16 65408) ∧ w = w' :=
  (sign_any 128 w (by omega) (by omega)).mono fun e w' ⟨h, k⟩ => ⟨h.trans (ret_int (by decide)), k⟩
theorem lit6 (w : World) : Calls Try.prog 34 #[.int .u16 4660] w fun e w' => e = .returned (.string { data := #[52, 18] }) ∧ Below w.heap.size w w' :=
  (put_any 4660 w (by omega) (by omega)).mono fun e w' ⟨h, k⟩ => ⟨h.trans rfl, k⟩
theorem lit7 (w : World) : Calls Try.prog 22 #[.string { data := #[49, 50, 51, 52, 53, 54, 55, 56, 57] }] w fun e w' => e = .returned (.int .u16 10673) ∧ Below w.heap.size w w' :=
  (sum_any _ w (by decide +kernel)).mono fun e w' ⟨h, k⟩ => ⟨h.trans (ret_int (by decide +kernel)), k⟩
set_option maxHeartbeats 400000 in
theorem sanity_any (w : World) :
    Calls Try.prog 14 #[] w fun e w' => e = .returned (.bool true) ∧ Below w.heap.size w w' := by
  go_enter Try.func14, Try.ntmps14
  go_wp2_with fail
  refine (lit1 _).mono ?_; rintro e w' ⟨rfl, rfl⟩
  go_wp2_with fail
  refine (lit2 _).mono ?_; rintro e w' ⟨rfl, rfl⟩
  go_wp2_with fail
  refine (lit3 _).mono ?_; rintro e w' ⟨rfl, rfl⟩
  go_wp2_with fail
  refine (lit4 _).mono ?_; rintro e w1 ⟨rfl, b1⟩
  go_wp2_with fail
  refine (lit5 _).mono ?_; rintro e w' ⟨rfl, rfl⟩
  go_wp2_with fail
  refine (lit6 _).mono ?_; rintro e w2 ⟨rfl, b2⟩
  go_wp2_with fail
  refine (lit7 _).mono ?_; rintro e w3 ⟨rfl, b3⟩
  go_wp2
  go_ret
  exact ⟨rfl, (b1.trans (b2.mono b1.size)).trans (b3.mono (Nat.le_trans b1.size b2.size))⟩
end Go.Proofs.Ytgmiepahhmfaiaa
