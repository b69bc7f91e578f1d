/- Contracts of the reference's Mod and at. -/
import Derived.Test.YtgdiaaoekkdibaaI8
namespace Go.Proofs.Ytgdiaaoekkdibaa
set_option linter.unusedVariables false
set_option linter.unusedSimpArgs false
open Go.RowKit
theorem mod_twice (n m : Int) (hm : 1 ≤ m) : (n.tmod m + m).tmod m = n % m := by
  have h0 : 0 ≤ n.tmod m + m := by
    have := Int.lt_tmod_of_pos n (show 0 < m by omega)
    omega
  rw [Int.tmod_eq_emod_of_nonneg h0, Int.add_emod_right, Int.tmod_def, Int.sub_emod, Int.mul_emod_right, Int.sub_zero, Int.emod_emod_of_dvd n (Int.dvd_refl m)]
theorem mod_any (n m : Int) (w : World) (hn : OkI64 n) (h1 : 1 ≤ m) (h2 : m ≤ 4611686018427387904) :
    Calls Try.prog 20 #[.int .i64 n, .int .i64 m] w fun e w' => e = .returned (.int .i64 (n % m)) ∧ w = w' := by
  obtain ⟨n0, n1⟩ := hn
  have b0 := Int.lt_tmod_of_pos n (show 0 < m by omega)
  have b1 := Int.tmod_lt_of_pos n (show 0 < m by omega)
  have e0 := Int.emod_nonneg n (show m ≠ 0 by omega)
  have e1 := Int.emod_lt_of_pos n (show 0 < m by omega)
  have hX := mod_twice n m h1
  have hw0 : IntKind.i64.wrap (n.tmod m) = n.tmod m := IntWalk.i64_in _ (by omega)
  have hw1 : IntKind.i64.wrap (n.tmod m + m) = n.tmod m + m := IntWalk.i64_in _ (by omega)
  have hw2 : IntKind.i64.wrap (n % m) = n % m := IntWalk.i64_in _ (by omega)
  have hm0 : ¬ m = 0 := by omega
  go_enter Try.func20, Try.ntmps20
  go_wp2
  go_ret
  exact ⟨rfl, rfl⟩
def atI (l : List Int) (k : Int) : Int := if k < l.length then (l[k.toNat]?).getD 0 else 0
theorem at_any (p : Option Addr) (cap : Nat) (l : List Int) (k : Nat) (w : World) (hl : l.length ≤ maxLen) (ho : IntsAt w p l) (hk : k < 9223372036854775807) :
    Calls Try.prog 43 #[.slice p l.length cap, .int .i64 (k : Int)] w fun e w' => e = .returned (.int .i64 ((l[k]?).getD 0)) ∧ w = w' := by
  unfold maxLen at hl
  by_cases h : k < l.length
  · obtain ⟨n, hn⟩ := at_some l k h
    obtain ⟨B, off, rfl, hB, c0, _⟩ := ho k n hn
    have hX : (l[k]?).getD 0 = n := by rw [hn]; rfl
    rw [hX]
    clear hX hn ho
    go_enter Try.func43, Try.ntmps43
    go_wp2
    go_ret
    exact ⟨rfl, rfl⟩
  · have hX : (l[k]?).getD 0 = 0 := by rw [List.getElem?_eq_none (by omega)]; rfl
    rw [hX]
    clear hX ho
    go_enter Try.func43, Try.ntmps43
    go_wp2
    go_ret
    exact ⟨rfl, rfl⟩
end Go.Proofs.Ytgdiaaoekkdibaa
