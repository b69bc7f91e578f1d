/- The walk of WordNames. -/
import Derived.Test.YtgmiepahhmfaiaaRows
import Derived.Test.YtgmiepahhmfaiaaS
import Derived.Test.YtgmiepahhmfaiaaG
namespace Go.Proofs.Ytgmiepahhmfaiaa
set_option linter.unusedVariables false
open Go.RowKit
theorem nm_inj : ∀ i j : Fin 14, nm i.val = nm j.val → i = j := by decide +kernel
theorem findI_at (k : Nat) (h : k < 14) : ∀ n i, i + n = 14 → i ≤ k → findI (nm k) i n = k := by
  intro n
  induction n with
  | zero => intro i h1 h2; omega
  | succ n ih =>
    intro i h1 h2
    unfold findI
    by_cases e : nm k = nm i
    · rw [if_pos e]
      have := nm_inj ⟨k, h⟩ ⟨i, by omega⟩ e
      have : k = i := congrArg Fin.val this
      omega
    · rw [if_neg e]
      refine ih (i + 1) (by omega) ?_
      rcases Nat.lt_or_ge i k with h3 | h3
      · omega
      · exact absurd (by rw [show i = k by omega]) e
theorem pos_name (k : Int) (h0 : 0 ≤ k) (h1 : k < 14) : findI (nameI k) 0 14 = k := by
  have : nameI k = nm k.toNat := by unfold nameI; rw [if_pos ⟨h0, h1⟩]
  rw [this, findI_at k.toNat (by omega) 14 0 (by omega) (by omega)]; omega
set_option maxHeartbeats 400000 in
theorem wordNames_walk (cc : Int) (s : ByteArray) (w : World) (c0 : -9223372036854775808 ≤ cc) (c1 : cc ≤ 9223372036854775807) (hs : s.size ≤ maxLen) :
    Calls Try.prog 13 #[.int .i64 cc, .string s] w fun e w' => e = .returned (.bool true) ∧ Below w.heap.size w w' := by
  obtain ⟨x, hx, x0, x1⟩ : ∃ x, cc.tmod 14 = x ∧ -14 < x ∧ x < 14 := ⟨_, rfl, Int.lt_tmod_of_pos cc (by decide), Int.tmod_lt_of_pos cc (by decide)⟩
  obtain ⟨k, hk, k0, k1⟩ : ∃ k, (x + 14) % 14 = k ∧ 0 ≤ k ∧ k < 14 := ⟨_, rfl, by omega, by omega⟩
  have hp := pos_name k k0 k1
  have hq : posI (nameI k) = k := by unfold posI; rw [hp, if_pos k0]
  have hd : decide (0 ≤ k) = true := decide_eq_true k0
  go_enter Try.func13, Try.ntmps13
  go_wp2_with fail
  refine (sanity_any _).mono ?_; rintro e w1 ⟨rfl, h1⟩
  go_wp2_with fail
  refine (condOf_any _ _).mono ?_; rintro e w2 ⟨rfl, h2⟩
  go_wp2_with fail
  refine (condName_any _ _ (by omega) (by omega)).mono ?_; rintro e w3 ⟨rfl, h3⟩
  go_wp2_with fail
  refine (condOf_any _ _).mono ?_; rintro e w4 ⟨rfl, h4⟩
  go_wp2_with fail
  refine (rcondOf_any _ _).mono ?_; rintro e w5 ⟨rfl, h5⟩
  go_wp2_with fail
  refine (condName_any _ _ (by omega) (by omega)).mono ?_; rintro e w6 ⟨rfl, h6⟩
  go_wp2_with fail
  refine (rcondName_any _ _ (by omega) (by omega)).mono ?_; rintro e w7 ⟨rfl, h7⟩
  go_wp2
  go_ret
  have b2 := h1.trans (h2.mono h1.size)
  have b3 := b2.trans (h3.mono b2.size)
  have b4 := b3.trans (h4.mono b3.size)
  have b5 := b4.trans (h5.mono b4.size)
  have b6 := b5.trans (h6.mono b5.size)
  exact ⟨rfl, b6.trans (h7.mono b6.size)⟩
end Go.Proofs.Ytgmiepahhmfaiaa
