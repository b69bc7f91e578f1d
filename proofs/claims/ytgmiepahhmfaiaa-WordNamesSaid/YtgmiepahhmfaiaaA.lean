/- Contracts of the functions of package word and of its reference. -/
import Derived.Test.YtgmiepahhmfaiaaProg
import Derived.Test.YtgmiepahhmfaiaaPlain
namespace Go.Proofs.Ytgmiepahhmfaiaa
set_option linter.unusedVariables false
open Go.RowKit
theorem half_any (r : Int) (w : World) (h0 : 0 ≤ r) (h1 : r < 65536) :
    Calls Try.prog 24 #[.int .u16 r] w fun e w' => e = .returned (.int .u16 (halfI r)) ∧ w = w' := by
  have hb := high_bit r h0 h1
  by_cases c1 : r = 0
  · subst c1
    go_enter Try.func24, Try.ntmps24
    go_wp2
    go_ret
    exact ⟨rfl, rfl⟩
  · have e1 : (r == 0) = false := by simpa using c1
    by_cases c2 : 32768 ≤ r
    · rw [if_pos c2] at hb
      have hf : halfI r = 2 := by simp [halfI, c1, c2]
      go_enter Try.func24, Try.ntmps24
      go_wp2
      go_ret
      exact ⟨by rw [hf]; rfl, rfl⟩
    · rw [if_neg c2] at hb
      have hf : halfI r = 0 := by simp [halfI, c1, c2]
      rw [hf]
      go_enter Try.func24, Try.ntmps24
      go_wp2
      go_ret
      exact ⟨rfl, rfl⟩

set_option maxHeartbeats 400000 in
theorem add_any (a b : Int) (c : Bool) (w : World) (a0 : 0 ≤ a) (a1 : a < 65536) (b0 : 0 ≤ b) (b1 : b < 65536) :
    Calls Try.prog 16 #[.int .u16 a, .int .u16 b, .bool c] w fun e w' => e = .returned (.tuple #[.int .u16 (addR a b c), .int .u16 (addF a b c)]) ∧ w = w' := by
  have hr := addR_bd a b c
  have hh := halfI_bd (addR a b c)
  have ho := over_iff a b c a0 a1 b0 b1
  have h4 := or_4 (halfI (addR a b c)) hh.1 (by omega)
  have h8 := or_8 (halfI (addR a b c)) hh.1 (by omega)
  have h48 := or_8 (halfI (addR a b c) + 4) (by omega) (by omega)
  cases c
  · have hw : IntKind.u16.wrap (a + b) = addR a b false := by rw [IntKind.wrap_u16]; simp [addR, cI]
    by_cases k1 : 65536 ≤ a + b <;> by_cases k2 : ovI a b false
    all_goals
      have hF : Hid (addF a b false = halfI (addR a b false) + (if 65536 ≤ a + b + 0 then 4 else 0) + (if ovI a b false then 8 else 0)) := rfl
      go_enter Try.func16, Try.ntmps16
      go_wp2_with (go_at_call 24; refine (half_any _ _ (by omega) (by omega)).mono ?_; rintro e w' ⟨rfl, rfl⟩)
      go_ret2
      refine ⟨ret_pair rfl ?_, rfl⟩
      rw [hF.out]
      simp [k2]; omega
  · have hw : IntKind.u16.wrap (a + b + 1) = addR a b true := by rw [IntKind.wrap_u16]; simp [addR, cI]
    by_cases k1 : 65536 ≤ a + b + 1 <;> by_cases k2 : ovI a b true
    all_goals
      have hF : Hid (addF a b true = halfI (addR a b true) + (if 65536 ≤ a + b + 1 then 4 else 0) + (if ovI a b true then 8 else 0)) := rfl
      go_enter Try.func16, Try.ntmps16
      go_wp2_with (go_at_call 24; refine (half_any _ _ (by omega) (by omega)).mono ?_; rintro e w' ⟨rfl, rfl⟩)
      go_ret2
      refine ⟨ret_pair rfl ?_, rfl⟩
      rw [hF.out]
      simp [k2]; omega

theorem sub_any (a b : Int) (c : Bool) (w : World) (a0 : 0 ≤ a) (a1 : a < 65536) (b0 : 0 ≤ b) (b1 : b < 65536) :
    Calls Try.prog 18 #[.int .u16 a, .int .u16 b, .bool c] w fun e w' => e = .returned (.tuple #[.int .u16 (subR a b c), .int .u16 (subF a b c)]) ∧ w = w' := by
  have hs : IntKind.u16.signed = false := rfl
  have hx := xor_all b b0 b1
  go_enter Try.func18, Try.ntmps18
  go_wp2_with (go_at_call 16; refine (add_any _ _ _ _ (by omega) (by omega) (by omega) (by omega)).mono ?_; rintro e w' ⟨rfl, rfl⟩)
  go_ret2
  exact ⟨rfl, rfl⟩

theorem rhalf_any (r : Int) (w : World) (h0 : 0 ≤ r) (h1 : r < 65536) :
    Calls Try.prog 25 #[.int .u16 r] w fun e w' => e = .returned (.int .u16 (halfI r)) ∧ w = w' := by
  by_cases c1 : r = 0
  · subst c1
    go_enter Try.func25, Try.ntmps25
    go_wp2
    go_ret
    exact ⟨rfl, rfl⟩
  · have e1 : (r == 0) = false := by simpa using c1
    by_cases c2 : 32768 ≤ r
    · have hf : halfI r = 2 := by simp [halfI, c1, c2]
      rw [hf]; clear hf
      go_enter Try.func25, Try.ntmps25
      go_wp2
      go_ret
      exact ⟨rfl, rfl⟩
    · have hf : halfI r = 0 := by simp [halfI, c1, c2]
      rw [hf]; clear hf
      go_enter Try.func25, Try.ntmps25
      go_wp2
      go_ret
      exact ⟨rfl, rfl⟩

theorem signed_any (n : Int) (w : World) (h0 : 0 ≤ n) (h1 : n < 65536) :
    Calls Try.prog 43 #[.int .u16 n] w fun e w' => e = .returned (.int .i64 (sgI n)) ∧ w = w' := by
  by_cases c2 : 32768 ≤ n
  · have hf : sgI n = n - 65536 := by simp [sgI, c2]
    rw [hf]; clear hf
    go_enter Try.func43, Try.ntmps43
    go_wp2
    go_ret
    exact ⟨rfl, rfl⟩
  · have hf : sgI n = n := by simp [sgI, c2]
    rw [hf]; clear hf
    go_enter Try.func43, Try.ntmps43
    go_wp2
    go_ret
    exact ⟨rfl, rfl⟩

/-- What 'result' of the reference returns. -/
def resF (nat : Bool) (v x : Int) : Int := halfI (v % 65536) + (if nat then 4 else 0) + (if x < -32768 ∨ 32767 < x then 8 else 0)
theorem result_any (nat : Bool) (v x : Int) (w : World) (v0 : 0 ≤ v) (v1 : v < 1000000) (x0 : -1000000 < x) (x1 : x < 1000000) :
    Calls Try.prog 42 #[.bool nat, .int .i64 v, .int .i64 x] w fun e w' => e = .returned (.tuple #[.int .u16 (v % 65536), .int .u16 (resF nat v x)]) ∧ w = w' := by
  have hw : IntKind.u16.wrap v = v % 65536 := by rw [IntKind.wrap_u16]
  have hh := halfI_bd (v % 65536)
  have h4 : IntKind.u16.wrap (halfI (v % 65536) + 4) = halfI (v % 65536) + 4 := by rw [IntKind.wrap_u16]; omega
  have h8 : IntKind.u16.wrap (halfI (v % 65536) + 8) = halfI (v % 65536) + 8 := by rw [IntKind.wrap_u16]; omega
  have h48 : IntKind.u16.wrap (halfI (v % 65536) + 4 + 8) = halfI (v % 65536) + 4 + 8 := by rw [IntKind.wrap_u16]; omega
  have hF : Hid (resF nat v x = halfI (v % 65536) + (if nat then 4 else 0) + (if x < -32768 ∨ 32767 < x then 8 else 0)) := rfl
  cases nat <;> by_cases k1 : x < -32768 <;> by_cases k2 : 32767 < x
  all_goals first | omega | skip
  all_goals
    go_enter Try.func42, Try.ntmps42
    go_wp2_with (go_at_call 25; refine (rhalf_any _ _ (by omega) (by omega)).mono ?_; rintro e w' ⟨rfl, rfl⟩)
    go_ret2
    refine ⟨ret_pair rfl ?_, rfl⟩
    rw [hF.out]
    simp; omega

theorem sgI_bd (n : Int) (h0 : 0 ≤ n) (h1 : n < 65536) : -32768 ≤ sgI n ∧ sgI n < 32768 := by unfold sgI; split <;> omega
theorem radd_any (a b : Int) (c : Bool) (w : World) (a0 : 0 ≤ a) (a1 : a < 65536) (b0 : 0 ≤ b) (b1 : b < 65536) :
    Calls Try.prog 17 #[.int .u16 a, .int .u16 b, .bool c] w fun e w' => e = .returned (.tuple #[.int .u16 (addR a b c), .int .u16 (addF a b c)]) ∧ w = w' := by
  have sa := sgI_bd a a0 a1
  have sb := sgI_bd b b0 b1
  cases c
  all_goals
    go_enter Try.func17, Try.ntmps17
    go_wp2_with (first
      | (go_at_call 43; refine (signed_any _ _ (by omega) (by omega)).mono ?_; rintro e w' ⟨rfl, rfl⟩)
      | (go_at_call 42; refine (result_any _ _ _ _ (by omega) (by omega) (by omega) (by omega)).mono ?_; rintro e w' ⟨rfl, rfl⟩))
    go_ret2
    refine ⟨ret_pair ?_ ?_, rfl⟩
  · simp [addR, cI]
  · simp [resF, addF, addR, cI, ovI]
  · simp [addR, cI]
  · simp [resF, addF, addR, cI, ovI]

theorem sub_over (a b : Int) (c : Bool) (h0 : 0 ≤ b) (h1 : b < 65536) (k : Int) (hk : k = 1 - cI c) :
    ovI a (65535 - b) c ↔ (sgI a - sgI b - k < -32768 ∨ 32767 < sgI a - sgI b - k) := by
  have : sgI (65535 - b) = -1 - sgI b := by unfold sgI; split <;> split <;> omega
  unfold ovI; rw [this, hk]; omega
theorem rsub_any (a b : Int) (c : Bool) (w : World) (a0 : 0 ≤ a) (a1 : a < 65536) (b0 : 0 ≤ b) (b1 : b < 65536) :
    Calls Try.prog 19 #[.int .u16 a, .int .u16 b, .bool c] w fun e w' => e = .returned (.tuple #[.int .u16 (subR a b c), .int .u16 (subF a b c)]) ∧ w = w' := by
  have sa := sgI_bd a a0 a1
  have sb := sgI_bd b b0 b1
  cases c
  all_goals
    go_enter Try.func19, Try.ntmps19
    go_wp2_with (first
      | (go_at_call 43; refine (signed_any _ _ (by omega) (by omega)).mono ?_; rintro e w' ⟨rfl, rfl⟩)
      | (go_at_call 42; refine (result_any _ _ _ _ (by omega) (by omega) (by omega) (by omega)).mono ?_; rintro e w' ⟨rfl, rfl⟩))
    go_ret2
    refine ⟨ret_pair ?_ ?_, rfl⟩
  · unfold subR addR cI; simp; omega
  · have e1 : (a - b - 1 + 131072) % 65536 = addR a (65535 - b) false := by unfold addR cI; simp; omega
    have o := sub_over a b false b0 b1 1 (by simp [cI])
    unfold resF subF addF
    rw [e1]
    simp only [o]
    by_cases k : 1 ≤ a - b <;> simp [k, cI] <;> omega
  · unfold subR addR cI; simp; omega
  · have e1 : (a - b + 131072) % 65536 = addR a (65535 - b) true := by unfold addR cI; simp; omega
    have o := sub_over a b true b0 b1 0 (by simp [cI])
    unfold resF subF addF
    rw [e1]
    simp only [o, Int.sub_zero]
    by_cases k : b ≤ a <;> simp [k, cI] <;> omega

theorem with_any (f r : Int) (w : World) (f0 : 0 ≤ f) (f1 : f < 65536) (h0 : 0 ≤ r) (h1 : r < 65536) :
    Calls Try.prog 26 #[.int .u16 f, .int .u16 r] w fun e w' => e = .returned (.int .u16 (withI f r)) ∧ w = w' := by
  have h12 := and_12 f f0 f1
  have hh := halfI_bd r
  have ho := or_12 (f / 4 % 4) (halfI r) hh.1 hh.2 (by omega) (by omega)
  go_enter Try.func26, Try.ntmps26
  go_wp2_with (go_at_call 24; refine (half_any _ _ (by omega) (by omega)).mono ?_; rintro e w' ⟨rfl, rfl⟩)
  go_ret
  exact ⟨rfl, rfl⟩
theorem rwith_any (f r : Int) (w : World) (f0 : 0 ≤ f) (f1 : f < 65536) (h0 : 0 ≤ r) (h1 : r < 65536) :
    Calls Try.prog 27 #[.int .u16 f, .int .u16 r] w fun e w' => e = .returned (.int .u16 (withI f r)) ∧ w = w' := by
  have hh := halfI_bd r
  have hw : IntKind.u16.wrap (f / 4 % 4 * 4 + halfI r) = f / 4 % 4 * 4 + halfI r := by rw [IntKind.wrap_u16]; omega
  have hw2 : IntKind.u16.wrap (f / 4 % 4 * 4) = f / 4 % 4 * 4 := by rw [IntKind.wrap_u16]; omega
  have hd := div_in f 4 f0 f1 (by omega)
  have hm : (f / 4).tmod 4 = f / 4 % 4 := Int.tmod_eq_emod_of_nonneg (by omega)
  go_enter Try.func27, Try.ntmps27
  go_wp2_with (go_at_call 25; refine (rhalf_any _ _ (by omega) (by omega)).mono ?_; rintro e w' ⟨rfl, rfl⟩)
  go_ret
  exact ⟨rfl, rfl⟩

theorem sign_any (b : Int) (w : World) (b0 : 0 ≤ b) (b1 : b < 256) :
    Calls Try.prog 30 #[.int .u8 b] w fun e w' => e = .returned (.int .u16 (signI b)) ∧ w = w' := by
  have hw : IntKind.u16.wrap (IntKind.i8.wrap b) = signI b := by
    rw [IntKind.wrap_u16]; simp only [IntKind.wrap, IntKind.bits, IntKind.signed, signI]; simp; split <;> omega
  go_enter Try.func30, Try.ntmps30
  go_wp2
  go_ret
  exact ⟨rfl, rfl⟩
theorem rsign_any (b : Int) (w : World) (b0 : 0 ≤ b) (b1 : b < 256) :
    Calls Try.prog 31 #[.int .u8 b] w fun e w' => e = .returned (.int .u16 (signI b)) ∧ w = w' := by
  have hw : IntKind.u16.wrap (65280 + b) = 65280 + b := by rw [IntKind.wrap_u16]; omega
  by_cases c : 128 ≤ b
  · have e : signI b = 65280 + b := by simp [signI, c]
    rw [e]; clear e
    go_enter Try.func31, Try.ntmps31
    go_wp2
    go_ret
    exact ⟨rfl, rfl⟩
  · have e : signI b = b := by simp [signI, c]
    rw [e]; clear e
    go_enter Try.func31, Try.ntmps31
    go_wp2
    go_ret
    exact ⟨rfl, rfl⟩
theorem fits_any (n : Int) (w : World) (n0 : 0 ≤ n) (n1 : n < 65536) :
    Calls Try.prog 32 #[.int .u16 n] w fun e w' => e = .returned (.bool (signI (n % 256) == n)) ∧ w = w' := by
  go_enter Try.func32, Try.ntmps32
  go_wp2_with (go_at_call 30; refine (sign_any _ _ (by omega) (by omega)).mono ?_; rintro e w' ⟨rfl, rfl⟩)
  go_ret
  exact ⟨rfl, rfl⟩
theorem rfits_any (n : Int) (w : World) (n0 : 0 ≤ n) (n1 : n < 65536) :
    Calls Try.prog 33 #[.int .u16 n] w fun e w' => e = .returned (.bool (signI (n % 256) == n)) ∧ w = w' := by
  go_enter Try.func33, Try.ntmps33
  go_wp2_with (go_at_call 31; refine (rsign_any _ _ (by omega) (by omega)).mono ?_; rintro e w' ⟨rfl, rfl⟩)
  go_ret
  exact ⟨rfl, rfl⟩
end Go.Proofs.Ytgmiepahhmfaiaa
