/- The walk of WordChains. -/
import Derived.Test.YtgmiepahhmfaiaaRows
import Derived.Test.YtgmiepahhmfaiaaS
import Derived.Test.YtgmiepahhmfaiaaB
import Derived.Test.YtgmiepahhmfaiaaL2
namespace Go.Proofs.Ytgmiepahhmfaiaa
set_option linter.unusedVariables false
open Go.RowKit

theorem condC_addF (a b : Int) (c : Bool) : condI 2 (addF a b c) = decide (65536 ≤ a + b + cI c) := by
  have h := halfI_bd (addR a b c)
  have : condI 2 (addF a b c) = fc (addF a b c) := rfl
  rw [this]
  unfold fc addF
  rw [Bool.eq_iff_iff]
  simp
  split <;> split <;> omega
theorem chain_add (a b y u : Int) (a0 : 0 ≤ a) (a1 : a < 4294967296) (b0 : 0 ≤ b) (b1 : b < 4294967296)
    (hy : addR (a / 65536) (b / 65536) (condI 2 (addF (a % 65536) (b % 65536) false)) = y) (hu : addR (a % 65536) (b % 65536) false = u) :
    IntKind.u32.wrap (a + b) = y * 65536 + u := by
  rw [condC_addF] at hy
  have hw := IntKind.wrap_u32 (a + b)
  rw [hw]
  by_cases h : 65536 ≤ a % 65536 + b % 65536 + cI false
  · rw [decide_eq_true h] at hy; simp only [addR, cI] at hy hu h; simp at hy hu h; omega
  · rw [decide_eq_false h] at hy; simp only [addR, cI] at hy hu h; simp at hy hu h; omega
theorem chain_sub (a b z v : Int) (a0 : 0 ≤ a) (a1 : a < 4294967296) (b0 : 0 ≤ b) (b1 : b < 4294967296)
    (hz : subR (a / 65536) (b / 65536) (condI 2 (subF (a % 65536) (b % 65536) true)) = z) (hv : subR (a % 65536) (b % 65536) true = v) :
    IntKind.u32.wrap (a - b) = z * 65536 + v := by
  unfold subF at hz
  rw [condC_addF] at hz
  have hw := IntKind.wrap_u32 (a - b)
  rw [hw]
  by_cases h : 65536 ≤ a % 65536 + (65535 - b % 65536) + cI true
  · rw [decide_eq_true h] at hz; simp only [subR, addR, cI] at hz hv h; simp at hz hv h; omega
  · rw [decide_eq_false h] at hz; simp only [subR, addR, cI] at hz hv h; simp at hz hv h; omega
set_option maxHeartbeats 400000 in
theorem wordChains_walk (a b : Int) (w : World) (a0 : 0 ≤ a) (a1 : a < 4294967296) (b0 : 0 ≤ b) (b1 : b < 4294967296) :
    Calls Try.prog 12 #[.int .u32 a, .int .u32 b] w fun e w' => e = .returned (.bool true) ∧ Below w.heap.size w w' := by
  have wa : IntKind.u16.wrap a = a % 65536 := IntKind.wrap_u16 _
  have wb : IntKind.u16.wrap b = b % 65536 := IntKind.wrap_u16 _
  have s2 := addF_bd (a % 65536) (b % 65536) false
  have s3 : 0 ≤ subF (a % 65536) (b % 65536) true ∧ subF (a % 65536) (b % 65536) true < 16 := addF_bd _ _ _
  obtain ⟨y, hy, y0, y1⟩ : ∃ y, addR (a / 65536) (b / 65536) (condI 2 (addF (a % 65536) (b % 65536) false)) = y ∧ 0 ≤ y ∧ y < 65536 := ⟨_, rfl, addR_bd _ _ _⟩
  obtain ⟨z, hz, z0, z1⟩ : ∃ y, subR (a / 65536) (b / 65536) (condI 2 (subF (a % 65536) (b % 65536) true)) = y ∧ 0 ≤ y ∧ y < 65536 := ⟨_, rfl, addR_bd _ _ _⟩
  obtain ⟨u, hu, u0, u1⟩ : ∃ y, addR (a % 65536) (b % 65536) false = y ∧ 0 ≤ y ∧ y < 65536 := ⟨_, rfl, addR_bd _ _ _⟩
  obtain ⟨v, hv, v0, v1⟩ : ∃ y, subR (a % 65536) (b % 65536) true = y ∧ 0 ≤ y ∧ y < 65536 := ⟨_, rfl, addR_bd _ _ _⟩
  have e1 := chain_add a b y u a0 a1 b0 b1 hy hu
  have e2 := chain_sub a b z v a0 a1 b0 b1 hz hv
  go_enter Try.func12, Try.ntmps12
  go_wp2_with fail
  refine (sanity_any _).mono ?_; rintro e w1 ⟨rfl, h1⟩
  go_wp2_with fail
  refine (add_any _ _ _ _ (by omega) (by omega) (by omega) (by omega)).mono ?_; rintro e w' ⟨rfl, rfl⟩
  go_wp2_with fail
  refine (cond_any _ _ _ (by omega) (by omega) (by omega) (by omega)).mono ?_; rintro e w2 ⟨rfl, h2⟩
  go_wp2_with fail
  refine (add_any _ _ _ _ (by omega) (by omega) (by omega) (by omega)).mono ?_; rintro e w' ⟨rfl, rfl⟩
  go_wp2_with fail
  refine (sub_any _ _ _ _ (by omega) (by omega) (by omega) (by omega)).mono ?_; rintro e w' ⟨rfl, rfl⟩
  go_wp2_with fail
  refine (cond_any _ _ _ (by omega) (by omega) (by omega) (by omega)).mono ?_; rintro e w3 ⟨rfl, h3⟩
  go_wp2_with fail
  refine (sub_any _ _ _ _ (by omega) (by omega) (by omega) (by omega)).mono ?_; rintro e w' ⟨rfl, rfl⟩
  go_wp2
  go_ret
  have b2 := h1.trans (h2.mono h1.size)
  exact ⟨rfl, b2.trans (h3.mono b2.size)⟩
end Go.Proofs.Ytgmiepahhmfaiaa
