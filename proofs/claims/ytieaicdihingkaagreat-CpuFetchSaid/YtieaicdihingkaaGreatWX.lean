/- The reference's words, as far as the arithmetic law wants them. -/
import Derived.Test.YtieaicdihingkaaGreatWA
import Derived.Test.YtieaicdihingkaaGreatWD
namespace Go.Proofs.YtieaicdihingkaaGreat
set_option linter.unusedVariables false
set_option linter.unusedSimpArgs false
open Go.RowKit
theorem rhalf_any (r : Int) (w : World) (h0 : 0 ≤ r) (h1 : r < 65536) :
  Calls Tryz.prog 83 #[.int .u16 r] w fun e w' => e = .returned (.int .u16 (halfI r)) ∧ w = w' := by
 by_cases c1 : r = 0
 ·subst c1
  go_enter Tryz.func83, Tryz.ntmps83
  go_wp2
  go_ret
  exact ⟨rfl, rfl⟩
 ·have e1 : (r == 0) = false := by simpa using c1
  by_cases c2 : 32768 ≤ r
  ·have hf : halfI r = 2 := by simp [halfI, c1, c2]
   rw [hf]; clear hf
   go_enter Tryz.func83, Tryz.ntmps83
   go_wp2
   go_ret
   exact ⟨rfl, rfl⟩
  ·have hf : halfI r = 0 := by simp [halfI, c1, c2]
   rw [hf]; clear hf
   go_enter Tryz.func83, Tryz.ntmps83
   go_wp2
   go_ret
   exact ⟨rfl, rfl⟩

theorem signed_any (n : Int) (w : World) (h0 : 0 ≤ n) (h1 : n < 65536) :
  Calls Tryz.prog 82 #[.int .u16 n] w fun e w' => e = .returned (.int .i64 (sgI n)) ∧ w = w' := by
 by_cases c2 : 32768 ≤ n
 ·have hf : sgI n = n - 65536 := by simp [sgI, c2]
  rw [hf]; clear hf
  go_enter Tryz.func82, Tryz.ntmps82
  go_wp2
  go_ret
  exact ⟨rfl, rfl⟩
 ·have hf : sgI n = n := by simp [sgI, c2]
  rw [hf]; clear hf
  go_enter Tryz.func82, Tryz.ntmps82
  go_wp2
  go_ret
  exact ⟨rfl, rfl⟩

/-- What 'result' of the reference returns. -/
def resF (nat : Bool) (v x : Int) : Int := halfI (v % 65536) + (if nat then 4 else 0) + (if x < -32768 ∨ 32767 < x then 8 else 0)
theorem result_any (nat : Bool) (v x : Int) (w : World) (v0 : 0 ≤ v) (v1 : v < 1000000) (x0 : -1000000 < x) (x1 : x < 1000000) :
  Calls Tryz.prog 81 #[.bool nat, .int .i64 v, .int .i64 x] w fun e w' => e = .returned (.tuple #[.int .u16 (v % 65536), .int .u16 (resF nat v x)]) ∧ w = w' := by
 have hw : IntKind.u16.wrap v = v % 65536 := by rw [IntKind.wrap_u16]
 have hh := halfI_bd (v % 65536)
 have h4 : IntKind.u16.wrap (halfI (v % 65536) + 4) = halfI (v % 65536) + 4 := by rw [IntKind.wrap_u16]; omega
 have h8 : IntKind.u16.wrap (halfI (v % 65536) + 8) = halfI (v % 65536) + 8 := by rw [IntKind.wrap_u16]; omega
 have h48 : IntKind.u16.wrap (halfI (v % 65536) + 4 + 8) = halfI (v % 65536) + 4 + 8 := by rw [IntKind.wrap_u16]; omega
 have hF : Hid (resF nat v x = halfI (v % 65536) + (if nat then 4 else 0) + (if x < -32768 ∨ 32767 < x then 8 else 0)) := rfl
 cases nat <;> by_cases k1 : x < -32768 <;> by_cases k2 : 32767 < x
 all_goals first | omega | skip
 all_goals
  go_enter Tryz.func81, Tryz.ntmps81
  go_wp2_with (go_at_call 83; refine (rhalf_any _ _ (by omega) (by omega)).mono ?_; rintro e w' ⟨rfl, rfl⟩)
  go_ret2
  refine ⟨ret_pair rfl ?_, rfl⟩
  rw [hF.out]
  simp; omega

theorem radd_any (a b : Int) (c : Bool) (w : World) (a0 : 0 ≤ a) (a1 : a < 65536) (b0 : 0 ≤ b) (b1 : b < 65536) :
  Calls Tryz.prog 54 #[.int .u16 a, .int .u16 b, .bool c] w fun e w' => e = .returned (.tuple #[.int .u16 (addR a b c), .int .u16 (addF a b c)]) ∧ w = w' := by
 have sa := sgI_bd a a0 a1
 have sb := sgI_bd b b0 b1
 cases c
 all_goals
  go_enter Tryz.func54, Tryz.ntmps54
  go_wp2_with (first
   | (go_at_call 82; refine (signed_any _ _ (by omega) (by omega)).mono ?_; rintro e w' ⟨rfl, rfl⟩)
   | (go_at_call 81; refine (result_any _ _ _ _ (by omega) (by omega) (by omega) (by omega)).mono ?_; rintro e w' ⟨rfl, rfl⟩))
  go_ret2
  refine ⟨ret_pair ?_ ?_, rfl⟩
 ·simp [addR, cI]
 ·simp [resF, addF, addR, cI, ovI]
 ·simp [addR, cI]
 ·simp [resF, addF, addR, cI, ovI]

theorem sub_over (a b : Int) (c : Bool) (h0 : 0 ≤ b) (h1 : b < 65536) (k : Int) (hk : k = 1 - cI c) :
  ovI a (65535 - b) c ↔ (sgI a - sgI b - k < -32768 ∨ 32767 < sgI a - sgI b - k) := by
 have : sgI (65535 - b) = -1 - sgI b := by unfold sgI; split <;> split <;> omega
 unfold ovI; rw [this, hk]; omega
theorem rsub_any (a b : Int) (c : Bool) (w : World) (a0 : 0 ≤ a) (a1 : a < 65536) (b0 : 0 ≤ b) (b1 : b < 65536) :
  Calls Tryz.prog 52 #[.int .u16 a, .int .u16 b, .bool c] w fun e w' => e = .returned (.tuple #[.int .u16 (subR a b c), .int .u16 (subF a b c)]) ∧ w = w' := by
 have sa := sgI_bd a a0 a1
 have sb := sgI_bd b b0 b1
 cases c
 all_goals
  go_enter Tryz.func52, Tryz.ntmps52
  go_wp2_with (first
   | (go_at_call 82; refine (signed_any _ _ (by omega) (by omega)).mono ?_; rintro e w' ⟨rfl, rfl⟩)
   | (go_at_call 81; refine (result_any _ _ _ _ (by omega) (by omega) (by omega) (by omega)).mono ?_; rintro e w' ⟨rfl, rfl⟩))
  go_ret2
  refine ⟨ret_pair ?_ ?_, rfl⟩
 ·unfold subR addR cI; simp; omega
 ·have e1 : (a - b - 1 + 131072) % 65536 = addR a (65535 - b) false := by unfold addR cI; simp; omega
  have o := sub_over a b false b0 b1 1 (by simp [cI])
  unfold resF subF addF
  rw [e1]
  simp only [o]
  by_cases k : 1 ≤ a - b <;> simp [k, cI] <;> omega
 ·unfold subR addR cI; simp; omega
 ·have e1 : (a - b + 131072) % 65536 = addR a (65535 - b) true := by unfold addR cI; simp; omega
  have o := sub_over a b true b0 b1 0 (by simp [cI])
  unfold resF subF addF
  rw [e1]
  simp only [o, Int.sub_zero]
  by_cases k : b ≤ a <;> simp [k, cI] <;> omega

theorem rwith_any (f r : Int) (w : World) (f0 : 0 ≤ f) (f1 : f < 65536) (h0 : 0 ≤ r) (h1 : r < 65536) :
  Calls Tryz.prog 53 #[.int .u16 f, .int .u16 r] w fun e w' => e = .returned (.int .u16 (withI f r)) ∧ w = w' := by
 have hh := halfI_bd r
 have hw : IntKind.u16.wrap (f / 4 % 4 * 4 + halfI r) = f / 4 % 4 * 4 + halfI r := by rw [IntKind.wrap_u16]; omega
 have hw2 : IntKind.u16.wrap (f / 4 % 4 * 4) = f / 4 % 4 * 4 := by rw [IntKind.wrap_u16]; omega
 have hd := div_in f 4 f0 f1 (by omega)
 have hm : (f / 4).tmod 4 = f / 4 % 4 := Int.tmod_eq_emod_of_nonneg (by omega)
 go_enter Tryz.func53, Tryz.ntmps53
 go_wp2_with (go_at_call 83; refine (rhalf_any _ _ (by omega) (by omega)).mono ?_; rintro e w' ⟨rfl, rfl⟩)
 go_ret
 exact ⟨rfl, rfl⟩

theorem two_pos (j : Nat) : (0 : Int) < 2 ^ j := Int.pow_pos (by omega)
theorem shN_bd (k a : Int) (j : Nat) (a0 : 0 ≤ a) (a1 : a < 65536) : 0 ≤ shN k a j ∧ shN k a j < 65536 := by
 have := two_pos j
 unfold shN
 split
 ·omega
 ·split
  ·exact ⟨Int.ediv_nonneg a0 (by omega), Int.lt_of_le_of_lt (Int.ediv_le_self _ a0) a1⟩
  ·split <;> omega
theorem div_succ (x : Int) (j : Nat) : x / 2 ^ (j + 1) = x / 2 ^ j / 2 := by
 rw [Int.pow_succ, Int.ediv_ediv_of_nonneg (Int.le_of_lt (two_pos j))]
theorem sg_div (a : Int) (j : Nat) (a0 : 0 ≤ a) (a1 : a < 65536) : (32768 ≤ a → -32768 ≤ sgI a / 2 ^ j ∧ sgI a / 2 ^ j < 0) ∧ (a < 32768 → 0 ≤ sgI a / 2 ^ j ∧ sgI a / 2 ^ j < 32768) := by
 have hp := two_pos j
 constructor
 ·intro h
  have e : sgI a = a - 65536 := by simp [sgI, h]
  rw [e]
  refine ⟨?_, Int.ediv_neg_of_neg_of_pos (by omega) hp⟩
  rw [Int.le_ediv_iff_mul_le hp]
  have : (1 : Int) ≤ 2 ^ j := hp
  have := Int.mul_le_mul_of_nonneg_left (c := 32768) this (by omega)
  omega
 ·intro h
  have e : sgI a = a := by simp [sgI]; omega
  rw [e]
  exact ⟨Int.ediv_nonneg a0 (by omega), Int.lt_of_le_of_lt (Int.ediv_le_self _ a0) h⟩
theorem sh_0 (a : Int) (j : Nat) : shN 0 a j * 2 % 65536 = shN 0 a (j + 1) := by
 have e : a * 2 ^ (j + 1) = a * 2 ^ j * 2 := by rw [Int.pow_succ, Int.mul_assoc]
 simp only [shN, if_true]
 rw [e]; omega
theorem sh_1 (a : Int) (j : Nat) : shN 1 a j / 2 = shN 1 a (j + 1) := by
 simp [shN]; rw [div_succ]
theorem sh_2 (a : Int) (j : Nat) (a0 : 0 ≤ a) (a1 : a < 65536) : shN 2 a j / 2 + (if 32768 ≤ a then 32768 else 0) = shN 2 a (j + 1) := by
 have h := sg_div a j a0 a1
 simp [shN]; rw [div_succ]
 generalize sgI a / 2 ^ j = x at *
 split <;> omega
theorem sh_zero (k a : Int) (h0 : 0 ≤ k) (h2 : k ≤ 2) (a0 : 0 ≤ a) (a1 : a < 65536) : shN k a 0 = a := by
 obtain rfl | rfl | rfl : k = 0 ∨ k = 1 ∨ k = 2 := by omega
 ·simp [shN]; omega
 ·simp [shN]
 ·simp [shN, sgI]; split <;> omega
set_option maxHeartbeats 1000000 in
theorem rshift_any (k a n : Int) (w : World) (k0 : -9223372036854775808 ≤ k) (k1 : k ≤ 9223372036854775807) (a0 : 0 ≤ a) (a1 : a < 65536) (n0 : 0 ≤ n) (n1 : n < 65536) :
  Calls Tryz.prog 55 #[.int .i64 k, .int .u16 a, .int .u16 n] w fun e w' => e = .returned (.int .u16 (shN k a (n % 16).toNat)) ∧ w = w' := by
 have m1 : n.tmod 16 = n % 16 := Int.tmod_eq_emod_of_nonneg n0
 rcases (show k = 0 ∨ k = 1 ∨ k = 2 ∨ (k < 0 ∨ 2 < k) by omega) with rfl | rfl | rfl | h
 ·go_enter Tryz.func55, Tryz.ntmps55
  go_wp2
  go_loop [1, 8] (fun x i => ∃ j : Nat, j ≤ (n % 16).toNat ∧ i = .int .u16 j ∧ x = .int .u16 (shN 0 a j)) (fun _ i => (n % 16).toNat - (intOf i).toNat)
  case atStart => exact ⟨0, Nat.zero_le _, rfl, by rw [sh_zero 0 a (by omega) (by omega) a0 a1]⟩
  case round =>
   obtain ⟨j, hj, rfl, rfl⟩ := hrel
   have hb := shN_bd 0 a j a0 a1
   have hs := sh_0 a j
   by_cases hlt : j < (n % 16).toNat
   ·have hw : IntKind.u16.wrap (shN 0 a j * 2) = shN 0 a (j + 1) := by rw [IntKind.wrap_u16]; exact hs
    have hi : IntKind.u16.wrap ((j : Int) + 1) = (j : Int) + 1 := wwrap_in _ (by omega) (by omega)
    clear hs
    go_wp2
    go_round
    case rel => exact ⟨j + 1, by omega, by go_num, rfl⟩
    case measure => simp [intOf]; omega
   ·obtain rfl : j = (n % 16).toNat := by omega
    go_wp2
    go_ret
    exact ⟨rfl, rfl⟩
 ·go_enter Tryz.func55, Tryz.ntmps55
  go_wp2
  go_loop [1, 8] (fun x i => ∃ j : Nat, j ≤ (n % 16).toNat ∧ i = .int .u16 j ∧ x = .int .u16 (shN 1 a j)) (fun _ i => (n % 16).toNat - (intOf i).toNat)
  case atStart => exact ⟨0, Nat.zero_le _, rfl, by rw [sh_zero 1 a (by omega) (by omega) a0 a1]⟩
  case round =>
   obtain ⟨j, hj, rfl, rfl⟩ := hrel
   have hb := shN_bd 1 a j a0 a1
   have hb2 := shN_bd 1 a (j + 1) a0 a1
   have hd := div_in (shN 1 a j) 2 hb.1 hb.2 (by omega)
   have hs := sh_1 a j
   by_cases hlt : j < (n % 16).toNat
   ·have hw : IntKind.u16.wrap (shN 1 a (j + 1)) = shN 1 a (j + 1) := wwrap_in _ hb2.1 hb2.2
    have hi : IntKind.u16.wrap ((j : Int) + 1) = (j : Int) + 1 := wwrap_in _ (by omega) (by omega)
    go_wp2
    go_round
    case rel => exact ⟨j + 1, by omega, by go_num, rfl⟩
    case measure => simp [intOf]; omega
   ·obtain rfl : j = (n % 16).toNat := by omega
    go_wp2
    go_ret
    exact ⟨rfl, rfl⟩
 ·by_cases ht : 32768 ≤ a
  ·go_enter Tryz.func55, Tryz.ntmps55
   go_wp2
   go_loop [1, 8] (fun x i => ∃ j : Nat, j ≤ (n % 16).toNat ∧ i = .int .u16 j ∧ x = .int .u16 (shN 2 a j)) (fun _ i => (n % 16).toNat - (intOf i).toNat)
   case atStart => exact ⟨0, Nat.zero_le _, rfl, by rw [sh_zero 2 a (by omega) (by omega) a0 a1]⟩
   case round =>
    obtain ⟨j, hj, rfl, rfl⟩ := hrel
    have hb := shN_bd 2 a j a0 a1
    have hb2 := shN_bd 2 a (j + 1) a0 a1
    have hd := div_in (shN 2 a j) 2 hb.1 hb.2 (by omega)
    have hs := sh_2 a j a0 a1
    rw [if_pos ht] at hs
    by_cases hlt : j < (n % 16).toNat
    ·have hw : IntKind.u16.wrap (shN 2 a (j + 1)) = shN 2 a (j + 1) := wwrap_in _ hb2.1 hb2.2
     have hi : IntKind.u16.wrap ((j : Int) + 1) = (j : Int) + 1 := wwrap_in _ (by omega) (by omega)
     go_wp2
     go_round
     case rel => exact ⟨j + 1, by omega, by go_num, rfl⟩
     case measure => simp [intOf]; omega
    ·obtain rfl : j = (n % 16).toNat := by omega
     go_wp2
     go_ret
     exact ⟨rfl, rfl⟩
  ·go_enter Tryz.func55, Tryz.ntmps55
   go_wp2
   go_loop [1, 8] (fun x i => ∃ j : Nat, j ≤ (n % 16).toNat ∧ i = .int .u16 j ∧ x = .int .u16 (shN 2 a j)) (fun _ i => (n % 16).toNat - (intOf i).toNat)
   case atStart => exact ⟨0, Nat.zero_le _, rfl, by rw [sh_zero 2 a (by omega) (by omega) a0 a1]⟩
   case round =>
    obtain ⟨j, hj, rfl, rfl⟩ := hrel
    have hb := shN_bd 2 a j a0 a1
    have hb2 := shN_bd 2 a (j + 1) a0 a1
    have hd := div_in (shN 2 a j) 2 hb.1 hb.2 (by omega)
    have hs := sh_2 a j a0 a1
    rw [if_neg (by omega), Int.add_zero] at hs
    by_cases hlt : j < (n % 16).toNat
    ·have hw : IntKind.u16.wrap (shN 2 a (j + 1)) = shN 2 a (j + 1) := wwrap_in _ hb2.1 hb2.2
     have hi : IntKind.u16.wrap ((j : Int) + 1) = (j : Int) + 1 := wwrap_in _ (by omega) (by omega)
     go_wp2
     go_round
     case rel => exact ⟨j + 1, by omega, by go_num, rfl⟩
     case measure => simp [intOf]; omega
    ·obtain rfl : j = (n % 16).toNat := by omega
     go_wp2
     go_ret
     exact ⟨rfl, rfl⟩
 ·have e : shN k a (n % 16).toNat = 0 := by unfold shN; rw [if_neg (by omega), if_neg (by omega), if_neg (by omega)]
  rw [e]; clear e
  rcases h with h | h
  all_goals
   go_enter Tryz.func55, Tryz.ntmps55
   go_wp2
   all_goals
    go_ret
    exact ⟨rfl, rfl⟩
end Go.Proofs.YtieaicdihingkaaGreat
