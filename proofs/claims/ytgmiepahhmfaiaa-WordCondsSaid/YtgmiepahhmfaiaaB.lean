/- Contracts of the functions of package word that make memory, and of their reference. -/
import Derived.Test.YtgmiepahhmfaiaaA
import Derived.Lib.Hide
namespace Go.Proofs.Ytgmiepahhmfaiaa
set_option linter.unusedVariables false
open Go.RowKit
def sel7 (k : Nat) (a b c d e f g : Bool) : Bool := ([a, b, c, d, e, f, g][k]?).getD false
theorem load7 (k : Nat) (hk : k < 7) (a b c d e f g : Bool) :
    (#[Value.bool a, .bool b, .bool c, .bool d, .bool e, .bool f, .bool g] : Array Value)[k]? = some (.bool (sel7 k a b c d e f g)) := by
  obtain rfl | rfl | rfl | rfl | rfl | rfl | rfl : k = 0 ∨ k = 1 ∨ k = 2 ∨ k = 3 ∨ k = 4 ∨ k = 5 ∨ k = 6 := by omega
  all_goals rfl
theorem condB_sel (cc : Int) (h0 : 0 ≤ cc) (h1 : cc < 14) (z n c v : Bool) :
    (sel7 (cc / 2).toNat z c n v (c && !z) (n == v) (!z && n == v) != (cc % 2 == 1)) = condB cc z n c v := by
  rcases cc_cases cc with h | rfl | rfl | rfl | rfl | rfl | rfl | rfl | rfl | rfl | rfl | rfl | rfl | rfl | rfl
  · omega
  all_goals (cases z <;> cases n <;> cases c <;> cases v <;> rfl)
set_option maxHeartbeats 1000000 in
theorem cond_any (cc f : Int) (w : World) (f0 : 0 ≤ f) (f1 : f < 65536) (c0 : -9223372036854775808 ≤ cc) (c1 : cc ≤ 9223372036854775807) :
    Calls Try.prog 28 #[.int .i64 cc, .int .u16 f] w fun e w' => e = .returned (.bool (condI cc f)) ∧ Below w.heap.size w w' := by
  have hz := bit_z f f0 f1
  have hn := bit_n f f0 f1
  have hc := bit_c f f0 f1
  have hv := bit_v f f0 f1
  have hC : condI cc f = condB cc (fz f) (fn f) (fc f) (fv f) := rfl
  rw [hC]; clear hC
  generalize fz f = z at *
  generalize fc f = c at *
  generalize fn f = n at *
  generalize fv f = v at *
  by_cases h : 0 ≤ cc ∧ cc < 14
  · obtain ⟨h0, h1⟩ := h
    have hl := load7 (cc / 2).toNat (by omega)
    have hS := Lib.hid (condB_sel cc h0 h1 z n c v)
    go_enter Try.func28, Try.ntmps28
    go_wp2
    all_goals
      go_ret
      refine ⟨ret_bool ?_, (Below.refl _ _).alloc (Nat.le_refl _) _⟩
      rw [← hS.out]
      clear hS hz hn hc hv
      simp_all [bne]
  · have hb : condB cc z n c v = false := by
      have := h
      unfold condB; repeat (rw [if_neg (by omega)])
    rw [hb]
    clear hb
    by_cases h0 : cc < 0
    · go_enter Try.func28, Try.ntmps28
      go_wp2
      all_goals
        go_ret
        exact ⟨rfl, (Below.refl _ _).alloc (Nat.le_refl _) _⟩
    · have h1 : 14 ≤ cc := by omega
      go_enter Try.func28, Try.ntmps28
      go_wp2
      all_goals
        go_ret
        exact ⟨rfl, (Below.refl _ _).alloc (Nat.le_refl _) _⟩

end Go.Proofs.Ytgmiepahhmfaiaa
