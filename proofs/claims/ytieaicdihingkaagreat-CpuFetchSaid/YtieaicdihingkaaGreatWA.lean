/- Plain mathematics of 16-bit words: no program in sight. -/
import Derived.WalkKit
import Derived.Test.YtieaicdihingkaaGreatProg
import Derived.Lib.Hide
namespace Go.Proofs.YtieaicdihingkaaGreat
set_option linter.unusedVariables false
open Go.RowKit

def halfI (r : Int) : Int := if r = 0 then 1 else if 32768 ≤ r then 2 else 0
def cI (c : Bool) : Int := if c then 1 else 0
def sgI (n : Int) : Int := if 32768 ≤ n then n - 65536 else n
def addR (a b : Int) (c : Bool) : Int := (a + b + cI c) % 65536
def ovI (a b : Int) (c : Bool) : Prop := sgI a + sgI b + cI c < -32768 ∨ 32767 < sgI a + sgI b + cI c
instance (a b : Int) (c : Bool) : Decidable (ovI a b c) := by unfold ovI; infer_instance
def addF (a b : Int) (c : Bool) : Int :=
 halfI (addR a b c) + (if 65536 ≤ a + b + cI c then 4 else 0) + (if ovI a b c then 8 else 0)

theorem halfI_bd (r : Int) : 0 ≤ halfI r ∧ halfI r ≤ 2 := by unfold halfI; split <;> (try split) <;> omega
theorem cI_bd (c : Bool) : 0 ≤ cI c ∧ cI c ≤ 1 := by cases c <;> simp [cI]
theorem addR_bd (a b : Int) (c : Bool) : 0 ≤ addR a b c ∧ addR a b c < 65536 := by unfold addR; omega

theorem high_bit (x : Int) (h0 : 0 ≤ x) (h1 : x < 65536) : bits .and .u16 x 32768 = if 32768 ≤ x then 32768 else 0 := by
 rw [u16_and x 32768 h0 h1 (by omega) (by omega)]
 have := nat_bit 15 x.toNat
 simp only [Nat.reducePow] at this
 rw [show (32768 : Int).toNat = 32768 from rfl, this]
 split <;> omega

theorem testBit15 (x : Nat) (h : x < 65536) : x.testBit 15 = decide (32768 ≤ x) := by
 rw [Nat.testBit_eq_decide_div_mod_eq]
 simp only [Nat.reducePow, decide_eq_decide]
 omega

theorem over_bit (a b r : Int) (a0 : 0 ≤ a) (a1 : a < 65536) (b0 : 0 ≤ b) (b1 : b < 65536) (r0 : 0 ≤ r) (r1 : r < 65536) :
  (bits .and .u16 (bits .and .u16 (bits .xor .u16 a r) (bits .xor .u16 b r)) 32768 != 0) =
   ((decide (32768 ≤ a) != decide (32768 ≤ r)) && (decide (32768 ≤ b) != decide (32768 ≤ r))) := by
 obtain ⟨a, rfl⟩ := Int.eq_ofNat_of_zero_le a0
 obtain ⟨b, rfl⟩ := Int.eq_ofNat_of_zero_le b0
 obtain ⟨r, rfl⟩ := Int.eq_ofNat_of_zero_le r0
 have ha : a < 65536 := by omega
 have hb : b < 65536 := by omega
 have hr : r < 65536 := by omega
 have x1 : a ^^^ r < 65536 := Nat.xor_lt_two_pow (n := 16) ha hr
 have x2 : b ^^^ r < 65536 := Nat.xor_lt_two_pow (n := 16) hb hr
 have x3 : (a ^^^ r) &&& (b ^^^ r) < 65536 := Nat.lt_of_le_of_lt Nat.and_le_left x1
 rw [u16_xor_nat a r ha hr, u16_xor_nat b r hb hr, u16_and_nat _ _ x1 x2, high_bit _ (by omega) (by omega)]
 have key : ((a ^^^ r) &&& (b ^^^ r)).testBit 15 = ((decide (32768 ≤ (a:Int)) != decide (32768 ≤ (r:Int))) && (decide (32768 ≤ (b:Int)) != decide (32768 ≤ (r:Int)))) := by
  rw [Nat.testBit_and, Nat.testBit_xor, Nat.testBit_xor, testBit15 a ha, testBit15 b hb, testBit15 r hr]
  have e : ∀ n : Nat, decide (32768 ≤ (n : Int)) = decide (32768 ≤ n) := fun n => by simp only [decide_eq_decide]; omega
  rw [e, e, e]
 rw [← key, testBit15 _ x3]
 by_cases h : 32768 ≤ (a ^^^ r) &&& (b ^^^ r)
 ·rw [if_pos (by omega), decide_eq_true h]; rfl
 ·rw [if_neg (by omega), decide_eq_false h]; rfl

theorem over_iff (a b : Int) (c : Bool) (a0 : 0 ≤ a) (a1 : a < 65536) (b0 : 0 ≤ b) (b1 : b < 65536) :
  (bits .and .u16 (bits .and .u16 (bits .xor .u16 a (addR a b c)) (bits .xor .u16 b (addR a b c))) 32768 != 0) = decide (ovI a b c) := by
 have hr := addR_bd a b c
 have hc := cI_bd c
 rw [over_bit a b _ a0 a1 b0 b1 hr.1 hr.2]
 unfold ovI addR sgI at *
 by_cases h1 : 32768 ≤ a <;> by_cases h2 : 32768 ≤ b <;> by_cases h3 : 32768 ≤ (a + b + cI c) % 65536 <;> simp [h1, h2, h3] <;> omega

theorem or_4 (x : Int) (h0 : 0 ≤ x) (h1 : x < 4) : bits .or .u16 x 4 = x + 4 := by
 obtain rfl | rfl | rfl | rfl : x = 0 ∨ x = 1 ∨ x = 2 ∨ x = 3 := by omega
 all_goals decide
theorem or_8 (x : Int) (h0 : 0 ≤ x) (h1 : x < 8) : bits .or .u16 x 8 = x + 8 := by
 obtain rfl | rfl | rfl | rfl | rfl | rfl | rfl | rfl : x = 0 ∨ x = 1 ∨ x = 2 ∨ x = 3 ∨ x = 4 ∨ x = 5 ∨ x = 6 ∨ x = 7 := by omega
 all_goals decide

theorem wret_int {k : IntKind} {a b : Int} (h : a = b) : Ending.returned (.int k a) = .returned (.int k b) := by rw [h]
theorem wret_bool {a b : Bool} (h : a = b) : Ending.returned (.bool a) = .returned (.bool b) := by rw [h]
theorem ret_pair {k l : IntKind} {a b c d : Int} (h : a = b) (h' : c = d) :
  Ending.returned (.tuple #[.int k a, .int l c]) = .returned (.tuple #[.int k b, .int l d]) := by rw [h, h']

/-- Subtraction, in Go's way: the complement is added. -/
def subR (a b : Int) (c : Bool) : Int := addR a (65535 - b) c
def subF (a b : Int) (c : Bool) : Int := addF a (65535 - b) c

theorem and_1 (x : Int) (h0 : 0 ≤ x) (h1 : x < 65536) : bits .and .u16 x 1 = x % 2 := by
 rw [u16_and x 1 h0 h1 (by omega) (by omega), show (1 : Int).toNat = 1 from rfl, nat_mask1]; omega
theorem and_2 (x : Int) (h0 : 0 ≤ x) (h1 : x < 65536) : bits .and .u16 x 2 = x / 2 % 2 * 2 := by
 have := nat_bit 1 x.toNat
 simp only [Nat.reducePow] at this
 rw [u16_and x 2 h0 h1 (by omega) (by omega), show (2 : Int).toNat = 2 from rfl, this]; omega
theorem and_4 (x : Int) (h0 : 0 ≤ x) (h1 : x < 65536) : bits .and .u16 x 4 = x / 4 % 2 * 4 := by
 have := nat_bit 2 x.toNat
 simp only [Nat.reducePow] at this
 rw [u16_and x 4 h0 h1 (by omega) (by omega), show (4 : Int).toNat = 4 from rfl, this]; omega
theorem and_8 (x : Int) (h0 : 0 ≤ x) (h1 : x < 65536) : bits .and .u16 x 8 = x / 8 % 2 * 8 := by
 have := nat_bit 3 x.toNat
 simp only [Nat.reducePow] at this
 rw [u16_and x 8 h0 h1 (by omega) (by omega), show (8 : Int).toNat = 8 from rfl, this]; omega
theorem and_12 (x : Int) (h0 : 0 ≤ x) (h1 : x < 65536) : bits .and .u16 x 12 = x / 4 % 4 * 4 := by
 rw [u16_and x 12 h0 h1 (by omega) (by omega), show (12 : Int).toNat = 4 ||| 8 from rfl, Nat.and_or_distrib_left]
 have e4 := nat_bit 2 x.toNat
 have e8 := nat_bit 3 x.toNat
 simp only [Nat.reducePow] at e4 e8
 rw [e4, e8, Nat.or_comm, nat_join 3 _ _ (by simp only [Nat.reducePow]; omega) (by simp only [Nat.reducePow]; omega)]
 omega
theorem or_12 (x y : Int) (h0 : 0 ≤ y) (h1 : y ≤ 2) (hx : 0 ≤ x) (h2 : x < 4) : bits .or .u16 (x * 4) y = x * 4 + y := by
 obtain rfl | rfl | rfl | rfl : x = 0 ∨ x = 1 ∨ x = 2 ∨ x = 3 := by omega
 all_goals (obtain rfl | rfl | rfl : y = 0 ∨ y = 1 ∨ y = 2 := by omega)
 all_goals decide
theorem xor_all (b : Int) (h0 : 0 ≤ b) (h1 : b < 65536) : bits .xor .u16 IntKind.u16.max b = 65535 - b := by
 obtain ⟨b, rfl⟩ := Int.eq_ofNat_of_zero_le h0
 have hb : b < 65536 := by omega
 rw [show IntKind.u16.max = ((65535 : Nat) : Int) from rfl, u16_xor_nat 65535 b (by omega) hb]
 have e : 65535 ^^^ b = 65535 - b := by
  refine Nat.eq_of_testBit_eq fun i => ?_
  have t := Nat.testBit_two_pow_sub_succ (n := 16) (x := b) hb i
  rw [Nat.testBit_xor, show (65535 : Nat) - b = 2 ^ 16 - (b + 1) from by simp only [Nat.reducePow]; omega, t]
  rw [show (65535 : Nat) = 2 ^ 16 - 1 from rfl, Nat.testBit_two_pow_sub_one]
  by_cases hi : i < 16
  ·simp [hi]
  ·have : b.testBit i = false := Nat.testBit_lt_two_pow (Nat.lt_of_lt_of_le hb (by rw [show 65536 = 2 ^ 16 from rfl]; exact Nat.pow_le_pow_right (by omega) (by omega)))
   simp [hi, this]
 rw [e]; omega
theorem wwrap_in (n : Int) (h0 : 0 ≤ n) (h1 : n < 65536) : IntKind.u16.wrap n = n := by rw [IntKind.wrap_u16]; omega
theorem div_in (n d : Int) (h0 : 0 ≤ n) (h1 : n < 65536) (hd : 1 ≤ d) : IntKind.u16.wrap (n.tdiv d) = n / d := by
 rw [Int.tdiv_eq_ediv_of_nonneg h0]
 have := Int.ediv_le_self d h0
 exact wwrap_in _ (Int.ediv_nonneg h0 (by omega)) (by omega)
def withI (f r : Int) : Int := f / 4 % 4 * 4 + halfI r
def fz (f : Int) : Bool := f % 2 == 1
def fn (f : Int) : Bool := f / 2 % 2 == 1
def fc (f : Int) : Bool := f / 4 % 2 == 1
def fv (f : Int) : Bool := f / 8 % 2 == 1
/-- The conditions, of the four flags. -/
def condB (cc : Int) (z n c v : Bool) : Bool :=
 if cc = 0 then z else if cc = 1 then !z else if cc = 2 then c else if cc = 3 then !c else if cc = 4 then n else if cc = 5 then !n
 else if cc = 6 then v else if cc = 7 then !v else if cc = 8 then c && !z else if cc = 9 then !c || z else if cc = 10 then n == v
 else if cc = 11 then n != v else if cc = 12 then !z && n == v else if cc = 13 then z || n != v else false
def condI (cc f : Int) : Bool := condB cc (fz f) (fn f) (fc f) (fv f)
theorem bit_z (f : Int) (h0 : 0 ≤ f) (h1 : f < 65536) : (bits .and .u16 f 1 != 0) = fz f := by
 rw [and_1 f h0 h1]; unfold fz; rw [Bool.eq_iff_iff]; simp; omega
theorem bit_n (f : Int) (h0 : 0 ≤ f) (h1 : f < 65536) : (bits .and .u16 f 2 != 0) = fn f := by
 rw [and_2 f h0 h1]; unfold fn; rw [Bool.eq_iff_iff]; simp; omega
theorem bit_c (f : Int) (h0 : 0 ≤ f) (h1 : f < 65536) : (bits .and .u16 f 4 != 0) = fc f := by
 rw [and_4 f h0 h1]; unfold fc; rw [Bool.eq_iff_iff]; simp; omega
theorem bit_v (f : Int) (h0 : 0 ≤ f) (h1 : f < 65536) : (bits .and .u16 f 8 != 0) = fv f := by
 rw [and_8 f h0 h1]; unfold fv; rw [Bool.eq_iff_iff]; simp; omega
theorem cc_cases (cc : Int) : (cc < 0 ∨ 14 ≤ cc) ∨ cc = 0 ∨ cc = 1 ∨ cc = 2 ∨ cc = 3 ∨ cc = 4 ∨ cc = 5 ∨ cc = 6 ∨ cc = 7 ∨ cc = 8 ∨ cc = 9 ∨ cc = 10 ∨ cc = 11 ∨ cc = 12 ∨ cc = 13 := by omega
end Go.Proofs.YtieaicdihingkaaGreat
namespace Go.Proofs.YtieaicdihingkaaGreat
set_option linter.unusedVariables false
open Go.RowKit
theorem half_any (r : Int) (w : World) (h0 : 0 ≤ r) (h1 : r < 65536) :
  Calls Tryz.prog 68 #[.int .u16 r] w fun e w' => e = .returned (.int .u16 (halfI r)) ∧ w = w' := by
 have hb := high_bit r h0 h1
 by_cases c1 : r = 0
 ·subst c1
  go_enter Tryz.func68, Tryz.ntmps68
  go_wp2
  go_ret
  exact ⟨rfl, rfl⟩
 ·have e1 : (r == 0) = false := by simpa using c1
  by_cases c2 : 32768 ≤ r
  ·rw [if_pos c2] at hb
   have hf : halfI r = 2 := by simp [halfI, c1, c2]
   go_enter Tryz.func68, Tryz.ntmps68
   go_wp2
   go_ret
   exact ⟨by rw [hf]; rfl, rfl⟩
  ·rw [if_neg c2] at hb
   have hf : halfI r = 0 := by simp [halfI, c1, c2]
   rw [hf]
   go_enter Tryz.func68, Tryz.ntmps68
   go_wp2
   go_ret
   exact ⟨rfl, rfl⟩

set_option maxHeartbeats 400000 in
theorem add_any (a b : Int) (c : Bool) (w : World) (a0 : 0 ≤ a) (a1 : a < 65536) (b0 : 0 ≤ b) (b1 : b < 65536) :
  Calls Tryz.prog 67 #[.int .u16 a, .int .u16 b, .bool c] w fun e w' => e = .returned (.tuple #[.int .u16 (addR a b c), .int .u16 (addF a b c)]) ∧ w = w' := by
 have hr := addR_bd a b c
 have hh := halfI_bd (addR a b c)
 have ho := over_iff a b c a0 a1 b0 b1
 have h4 := or_4 (halfI (addR a b c)) hh.1 (by omega)
 have h8 := or_8 (halfI (addR a b c)) hh.1 (by omega)
 have h48 := or_8 (halfI (addR a b c) + 4) (by omega) (by omega)
 cases c
 ·have hw : IntKind.u16.wrap (a + b) = addR a b false := by rw [IntKind.wrap_u16]; simp [addR, cI]
  by_cases k1 : 65536 ≤ a + b <;> by_cases k2 : ovI a b false
  all_goals
   have hF : Hid (addF a b false = halfI (addR a b false) + (if 65536 ≤ a + b + 0 then 4 else 0) + (if ovI a b false then 8 else 0)) := rfl
   go_enter Tryz.func67, Tryz.ntmps67
   go_wp2_with (go_at_call 68; refine (half_any _ _ (by omega) (by omega)).mono ?_; rintro e w' ⟨rfl, rfl⟩)
   go_ret2
   refine ⟨ret_pair rfl ?_, rfl⟩
   rw [hF.out]
   simp [k2]; omega
 ·have hw : IntKind.u16.wrap (a + b + 1) = addR a b true := by rw [IntKind.wrap_u16]; simp [addR, cI]
  by_cases k1 : 65536 ≤ a + b + 1 <;> by_cases k2 : ovI a b true
  all_goals
   have hF : Hid (addF a b true = halfI (addR a b true) + (if 65536 ≤ a + b + 1 then 4 else 0) + (if ovI a b true then 8 else 0)) := rfl
   go_enter Tryz.func67, Tryz.ntmps67
   go_wp2_with (go_at_call 68; refine (half_any _ _ (by omega) (by omega)).mono ?_; rintro e w' ⟨rfl, rfl⟩)
   go_ret2
   refine ⟨ret_pair rfl ?_, rfl⟩
   rw [hF.out]
   simp [k2]; omega

theorem sub_any (a b : Int) (c : Bool) (w : World) (a0 : 0 ≤ a) (a1 : a < 65536) (b0 : 0 ≤ b) (b1 : b < 65536) :
  Calls Tryz.prog 40 #[.int .u16 a, .int .u16 b, .bool c] w fun e w' => e = .returned (.tuple #[.int .u16 (subR a b c), .int .u16 (subF a b c)]) ∧ w = w' := by
 have hs : IntKind.u16.signed = false := rfl
 have hx := xor_all b b0 b1
 go_enter Tryz.func40, Tryz.ntmps40
 go_wp2_with (go_at_call 67; refine (add_any _ _ _ _ (by omega) (by omega) (by omega) (by omega)).mono ?_; rintro e w' ⟨rfl, rfl⟩)
 go_ret2
 exact ⟨rfl, rfl⟩

theorem sgI_bd (n : Int) (h0 : 0 ≤ n) (h1 : n < 65536) : -32768 ≤ sgI n ∧ sgI n < 32768 := by unfold sgI; split <;> omega
theorem with_any (f r : Int) (w : World) (f0 : 0 ≤ f) (f1 : f < 65536) (h0 : 0 ≤ r) (h1 : r < 65536) :
  Calls Tryz.prog 41 #[.int .u16 f, .int .u16 r] w fun e w' => e = .returned (.int .u16 (withI f r)) ∧ w = w' := by
 have h12 := and_12 f f0 f1
 have hh := halfI_bd r
 have ho := or_12 (f / 4 % 4) (halfI r) hh.1 hh.2 (by omega) (by omega)
 go_enter Tryz.func41, Tryz.ntmps41
 go_wp2_with (go_at_call 68; refine (half_any _ _ (by omega) (by omega)).mono ?_; rintro e w' ⟨rfl, rfl⟩)
 go_ret
 exact ⟨rfl, rfl⟩
end Go.Proofs.YtieaicdihingkaaGreat
namespace Go.Proofs.YtieaicdihingkaaGreat
set_option linter.unusedVariables false
open Go.RowKit
def sel7 (k : Nat) (a b c d e f g : Bool) : Bool := ([a, b, c, d, e, f, g][k]?).getD false
theorem load7 (k : Nat) (hk : k < 7) (a b c d e f g : Bool) :
  (#[Value.bool a, .bool b, .bool c, .bool d, .bool e, .bool f, .bool g] : Array Value)[k]? = some (.bool (sel7 k a b c d e f g)) := by
 obtain rfl | rfl | rfl | rfl | rfl | rfl | rfl : k = 0 ∨ k = 1 ∨ k = 2 ∨ k = 3 ∨ k = 4 ∨ k = 5 ∨ k = 6 := by omega
 all_goals rfl
theorem condB_sel (cc : Int) (h0 : 0 ≤ cc) (h1 : cc < 14) (z n c v : Bool) :
  (sel7 (cc / 2).toNat z c n v (c && !z) (n == v) (!z && n == v) != (cc % 2 == 1)) = condB cc z n c v := by
 rcases cc_cases cc with h | rfl | rfl | rfl | rfl | rfl | rfl | rfl | rfl | rfl | rfl | rfl | rfl | rfl | rfl
 ·omega
 all_goals (cases z <;> cases n <;> cases c <;> cases v <;> rfl)
set_option maxHeartbeats 1000000 in
theorem cond_any (cc f : Int) (w : World) (f0 : 0 ≤ f) (f1 : f < 65536) (c0 : -9223372036854775808 ≤ cc) (c1 : cc ≤ 9223372036854775807) :
  Calls Tryz.prog 77 #[.int .i64 cc, .int .u16 f] w fun e w' => e = .returned (.bool (condI cc f)) ∧ Below w.heap.size w w' := by
 have hz := bit_z f f0 f1
 have hn := bit_n f f0 f1
 have hc := bit_c f f0 f1
 have hv := bit_v f f0 f1
 have hC : condI cc f = condB cc (fz f) (fn f) (fc f) (fv f) := rfl
 rw [hC]; clear hC
 generalize fz f = z at *
 generalize fc f = c at *
 generalize fn f = n at *
 generalize fv f = v at *
 by_cases h : 0 ≤ cc ∧ cc < 14
 ·obtain ⟨h0, h1⟩ := h
  have hl := load7 (cc / 2).toNat (by omega)
  have hS := Lib.hid (condB_sel cc h0 h1 z n c v)
  go_enter Tryz.func77, Tryz.ntmps77
  go_wp2
  all_goals
   go_ret
   refine ⟨wret_bool ?_, (Below.refl _ _).alloc (Nat.le_refl _) _⟩
   rw [← hS.out]
   clear hS hz hn hc hv
   simp_all [bne]
 ·have hb : condB cc z n c v = false := by
   have := h
   unfold condB; repeat (rw [if_neg (by omega)])
  rw [hb]
  clear hb
  by_cases h0 : cc < 0
  ·go_enter Tryz.func77, Tryz.ntmps77
   go_wp2
   all_goals
    go_ret
    exact ⟨rfl, (Below.refl _ _).alloc (Nat.le_refl _) _⟩
  ·have h1 : 14 ≤ cc := by omega
   go_enter Tryz.func77, Tryz.ntmps77
   go_wp2
   all_goals
    go_ret
    exact ⟨rfl, (Below.refl _ _).alloc (Nat.le_refl _) _⟩

end Go.Proofs.YtieaicdihingkaaGreat
