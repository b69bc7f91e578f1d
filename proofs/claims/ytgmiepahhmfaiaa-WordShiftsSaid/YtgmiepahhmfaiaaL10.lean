/- The walk of WordShifts. -/
import Derived.Test.YtgmiepahhmfaiaaRows
import Derived.Test.YtgmiepahhmfaiaaS
import Derived.Deep.RegionHeld3
import Derived.Deep.DeepCutAuto
namespace Go.Proofs.Ytgmiepahhmfaiaa
set_option linter.unusedVariables false
open Go.RowKit
theorem keep_call {w1 W w2 : World} (h : Below w1.heap.size w1 W) (k : Below W.heap.size W w2) : Below w1.heap.size w1 w2 := h.trans (k.mono h.size)
theorem keep3 {A B : Prop} {w1 W w2 : World} (h : A ∧ B ∧ Below w1.heap.size w1 W) (k : Below W.heap.size W w2) : Below w1.heap.size w1 w2 := h.2.2.trans (k.mono h.2.2.size)
theorem keep_end {A B : Prop} {w w1 W : World} (h : A ∧ B ∧ Below w1.heap.size w1 W) (k : Below w.heap.size w w1) : Below w.heap.size w W := k.trans (h.2.2.mono k.size)
set_option maxHeartbeats 1000000 in
theorem wordShifts_walk (kind a n m : Int) (w : World) (k0 : -9223372036854775808 ≤ kind) (k1 : kind ≤ 9223372036854775807) (a0 : 0 ≤ a) (a1 : a < 65536) (n0 : 0 ≤ n) (n1 : n < 65536) (m0 : 0 ≤ m) (m1 : m < 65536) :
    Calls Try.prog 6 #[.int .i64 kind, .int .u16 a, .agg #[.int .u16 n, .int .u16 m]] w fun e w' => e = .returned (.bool true) ∧ Below w.heap.size w w' := by
  obtain ⟨t, ht, t0, t1⟩ : ∃ x, kind.tmod 3 = x ∧ -3 < x ∧ x < 3 := ⟨_, rfl, Int.lt_tmod_of_pos kind (by decide), Int.tmod_lt_of_pos kind (by decide)⟩
  obtain ⟨k, hk, kk0, kk1⟩ : ∃ k, (t + 3) % 3 = k ∧ 0 ≤ k ∧ k < 3 := ⟨_, rfl, by omega, by omega⟩
  obtain ⟨x, hx, x0, x1⟩ : ∃ x, n.tmod 16 = x ∧ 0 ≤ x ∧ x < 16 := ⟨_, rfl, Int.tmod_nonneg _ n0, Int.tmod_lt_of_pos _ (by decide)⟩
  have hw : IntKind.u16.wrap (16 - x) = 16 - x := wrap_in _ (by omega) (by omega)
  obtain ⟨y, hy, y0, y1⟩ : ∃ y, m.tmod (16 - x) = y ∧ 0 ≤ y ∧ y < 16 - x := ⟨_, rfl, Int.tmod_nonneg _ m0, Int.tmod_lt_of_pos _ (by omega)⟩
  have hw2 : IntKind.u16.wrap (x + y) = x + y := wrap_in _ (by omega) (by omega)
  have r1 : x % 16 = x := by omega
  have r2 : y % 16 = y := by omega
  have r3 : (x + y) % 16 = x + y := by omega
  have sb := shN_bd k a x.toNat a0 a1
  have fin : shN k (shN k a x.toNat) y.toNat = shN k a (x + y).toNat := by
    rw [sh_add k a _ _ kk0 (by omega) a0 a1]; congr 1; omega
  go_enter Try.func6, Try.ntmps6
  go_wp2_with fail
  refine (sanity_any _).mono ?_; rintro e w1 ⟨rfl, h1⟩
  have s1 := h1.size
  simp at s1
  have c0 : w1.cell? ⟨w.heap.size, 0, none⟩ = some (.int .u16 n) := (h1.cell (by simp <;> omega)).trans (by simp)
  have c1 : w1.cell? ⟨w.heap.size, 1, none⟩ = some (.int .u16 m) := (h1.cell (by simp <;> omega)).trans (by simp)
  have b1 : Below w.heap.size w w1 := ((Below.refl _ _).alloc (Nat.le_refl _) _).trans (h1.mono (by simp <;> omega))
  clear h1
  go_wp2_with fail
  have HS : Hid (∀ w' : World, Below w1.heap.size w1 w' → w'.cell? ⟨w.heap.size, 0, none⟩ = some (.int .u16 n) ∧ w'.cell? ⟨w.heap.size, 1, none⟩ = some (.int .u16 m) ∧ Below w1.heap.size w1 w') :=
    fun w' hb => ⟨(hb.cell (by simp <;> omega)).trans c0, (hb.cell (by simp <;> omega)).trans c1, hb⟩
  go_region_held3 (fun w' => w'.cell? ⟨w.heap.size, 0, none⟩ = some (.int .u16 n) ∧ w'.cell? ⟨w.heap.size, 1, none⟩ = some (.int .u16 m) ∧ Below w1.heap.size w1 w')
    (first
      | exact HS.out _ (Below.drew (Below.refl _ _))
      | exact HS.out _ (keep3 (by assumption) h2)
      | assumption)
    (first
      | (go_at_call 20; refine (shift_any _ _ _ _ (by omega) (by omega) (by omega) (by omega) (by omega) (by omega)).mono ?_; rintro e w2 ⟨rfl, h2⟩)
      | (go_at_call 21; refine (rshift_any _ _ _ _ (by omega) (by omega) (by omega) (by omega) (by omega) (by omega)).mono ?_; rintro e w2 ⟨rfl, rfl⟩))
  have hB := keep_end (by assumption) b1
  clear HS
  go_wp2
  go_ret
  exact ⟨rfl, hB⟩
end Go.Proofs.Ytgmiepahhmfaiaa
