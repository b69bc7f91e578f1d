/- The walk of WordCompares. -/
import Derived.Test.YtgmiepahhmfaiaaRows
import Derived.Test.YtgmiepahhmfaiaaS
import Derived.Test.YtgmiepahhmfaiaaB
import Derived.Test.YtgmiepahhmfaiaaL2
import Derived.Deep.RegionHeld3
import Derived.Deep.DeepCutAuto
namespace Go.Proofs.Ytgmiepahhmfaiaa
set_option linter.unusedVariables false
open Go.RowKit
theorem flags_sub (a b : Int) (a0 : 0 ≤ a) (a1 : a < 65536) (b0 : 0 ≤ b) (b1 : b < 65536) :
    fz (subF a b true) = decide (a = b) ∧ fc (subF a b true) = decide (b ≤ a) ∧
      (fn (subF a b true) = fv (subF a b true)) = (sgI b ≤ sgI a) := by
  have o := sub_over a b true b0 b1 0 (by simp [cI])
  have e : addR a (65535 - b) true = (a - b + 65536) % 65536 := by simp [addR, cI]; omega
  have hh := halfI_bd ((a - b + 65536) % 65536)
  have h : halfI ((a - b + 65536) % 65536) = 1 ∧ (a - b + 65536) % 65536 = 0 ∨ halfI ((a - b + 65536) % 65536) = 2 ∧ 32768 ≤ (a - b + 65536) % 65536 ∨ halfI ((a - b + 65536) % 65536) = 0 ∧ 0 < (a - b + 65536) % 65536 ∧ (a - b + 65536) % 65536 < 32768 := by
    unfold halfI; split
    · omega
    · split <;> omega
  have sa := sgI_bd a a0 a1
  have sb := sgI_bd b b0 b1
  have da : sgI a = a ∧ a < 32768 ∨ sgI a = a - 65536 ∧ 32768 ≤ a := by unfold sgI; split <;> omega
  have db : sgI b = b ∧ b < 32768 ∨ sgI b = b - 65536 ∧ 32768 ≤ b := by unfold sgI; split <;> omega
  have c : (65536 ≤ a + (65535 - b) + cI true) = (b ≤ a) := by simp [cI]; omega
  have F : subF a b true = halfI ((a - b + 65536) % 65536) + (if b ≤ a then 4 else 0) + (if sgI a - sgI b < -32768 ∨ 32767 < sgI a - sgI b then 8 else 0) := by
    unfold subF addF; rw [e]; simp only [o, c, Int.sub_zero]
  have nv : (fn (subF a b true) = fv (subF a b true)) ↔ (subF a b true / 2 % 2 = subF a b true / 8 % 2) := by
    unfold fn fv; constructor
    · intro k; rw [Bool.eq_iff_iff] at k; simp at k; omega
    · intro k; rw [k]
  rw [F] at nv ⊢
  generalize halfI ((a - b + 65536) % 65536) = t at *
  refine ⟨?_, ?_, ?_⟩
  · unfold fz; rw [Bool.eq_iff_iff]; simp; split <;> split <;> omega
  · unfold fc; rw [Bool.eq_iff_iff]; simp; split <;> split <;> omega
  · rw [nv]; simp only [eq_iff_iff]; split <;> split <;> omega
theorem cmp_eq (a b : Int) (a0 : 0 ≤ a) (a1 : a < 65536) (b0 : 0 ≤ b) (b1 : b < 65536) : condI 0 (subF a b true) = (a == b) := by
  have h := (flags_sub a b a0 a1 b0 b1).1
  have : condI 0 (subF a b true) = fz (subF a b true) := rfl
  rw [this, h, Bool.eq_iff_iff]; simp
theorem cmp_ge (a b : Int) (a0 : 0 ≤ a) (a1 : a < 65536) (b0 : 0 ≤ b) (b1 : b < 65536) : condI 2 (subF a b true) = decide (b ≤ a) :=
  (flags_sub a b a0 a1 b0 b1).2.1
theorem cmp_gt (a b : Int) (a0 : 0 ≤ a) (a1 : a < 65536) (b0 : 0 ≤ b) (b1 : b < 65536) : condI 8 (subF a b true) = decide (b < a) := by
  obtain ⟨h, k, _⟩ := flags_sub a b a0 a1 b0 b1
  have : condI 8 (subF a b true) = (fc (subF a b true) && !fz (subF a b true)) := rfl
  rw [this, h, k, Bool.eq_iff_iff]; simp; omega
theorem cmp_sge (a b : Int) (a0 : 0 ≤ a) (a1 : a < 65536) (b0 : 0 ≤ b) (b1 : b < 65536) : condI 10 (subF a b true) = decide (sgI b ≤ sgI a) := by
  obtain ⟨_, _, h⟩ := flags_sub a b a0 a1 b0 b1
  have : condI 10 (subF a b true) = (fn (subF a b true) == fv (subF a b true)) := rfl
  rw [this, Bool.eq_iff_iff]; simp [h]
theorem cmp_sgt (a b : Int) (a0 : 0 ≤ a) (a1 : a < 65536) (b0 : 0 ≤ b) (b1 : b < 65536) : condI 12 (subF a b true) = decide (sgI b < sgI a) := by
  obtain ⟨k, _, h⟩ := flags_sub a b a0 a1 b0 b1
  have da : sgI a = a ∧ a < 32768 ∨ sgI a = a - 65536 ∧ 32768 ≤ a := by unfold sgI; split <;> omega
  have db : sgI b = b ∧ b < 32768 ∨ sgI b = b - 65536 ∧ 32768 ≤ b := by unfold sgI; split <;> omega
  have : condI 12 (subF a b true) = (!fz (subF a b true) && fn (subF a b true) == fv (subF a b true)) := rfl
  rw [this, k, Bool.eq_iff_iff]; simp [h]; omega
theorem keep_call {w1 W w2 : World} (h : Below w1.heap.size w1 W) (k : Below W.heap.size W w2) : Below w1.heap.size w1 w2 := h.trans (k.mono h.size)
theorem keep_alloc {w1 W : World} (h : Below w1.heap.size w1 W) (o : Obj) : Below w1.heap.size w1 (W.alloc o) := h.alloc h.size o
set_option maxHeartbeats 400000 in
theorem wordCompares_walk (x y n m : Int) (w : World) (x0 : 0 ≤ x) (x1 : x < 65536) (y0 : 0 ≤ y) (y1 : y < 65536)
    (n0 : -9223372036854775808 ≤ n) (n1 : n ≤ 9223372036854775807) (m0 : -9223372036854775808 ≤ m) (m1 : m ≤ 9223372036854775807) :
    Calls Try.prog 11 #[.agg #[.int .u16 x, .int .u16 y], .agg #[.int .i64 n, .int .i64 m]] w fun e w' => e = .returned (.bool true) ∧ Below w.heap.size w w' := by
  go_enter Try.func11, Try.ntmps11
  go_wp2_with fail
  refine (sanity_any _).mono ?_; rintro e w1 ⟨rfl, h1⟩
  have s1 := h1.size
  simp at s1
  have c1 : w1.cell? ⟨w.heap.size + 1, 0, none⟩ = some (.int .i64 n) := (h1.cell (by simp <;> omega)).trans (by simp <;> omega)
  have c2 : w1.cell? ⟨w.heap.size + 1, 1, none⟩ = some (.int .i64 m) := (h1.cell (by simp <;> omega)).trans (by simp <;> omega)
  have c3 : w1.cell? ⟨w.heap.size, 0, none⟩ = some (.int .u16 x) := (h1.cell (by simp <;> omega)).trans (by simp <;> omega)
  have c4 : w1.cell? ⟨w.heap.size, 1, none⟩ = some (.int .u16 y) := (h1.cell (by simp <;> omega)).trans (by simp <;> omega)
  have b1 : Below w.heap.size w w1 := (((Below.refl _ _).alloc (Nat.le_refl _) _).alloc (by simp <;> omega) _).trans (h1.mono (by simp <;> omega))
  clear h1
  go_wp2_with fail
  go_cut [6] (fun s6 wx => ∃ D : Nat, s6 = .pointer (some ⟨D, 0, none⟩) ∧ wx.cell? ⟨D, 0, none⟩ = some (.int .u16 x) ∧ wx.cell? ⟨D, 1, none⟩ = some (.int .u16 y) ∧ wx.cell? ⟨D, 2, none⟩ = some (.int .u16 (nearI n)) ∧ wx.cell? ⟨D, 3, none⟩ = some (.int .u16 (nearI m)) ∧ D < wx.heap.size ∧ Below w.heap.size w wx)
  case first =>
    have HS : Hid (∀ w' : World, Below w1.heap.size w1 w' → w'.cell? ⟨w.heap.size + 1, 0, none⟩ = some (.int .i64 n) ∧ w'.cell? ⟨w.heap.size + 1, 1, none⟩ = some (.int .i64 m) ∧ w'.cell? ⟨w.heap.size, 0, none⟩ = some (.int .u16 x) ∧ w'.cell? ⟨w.heap.size, 1, none⟩ = some (.int .u16 y)) :=
      fun w' hb => ⟨(hb.cell (by simp <;> omega)).trans c1, (hb.cell (by simp <;> omega)).trans c2, (hb.cell (by simp <;> omega)).trans c3, (hb.cell (by simp <;> omega)).trans c4⟩
    go_region_held3 (fun w' => w'.cell? ⟨w.heap.size + 1, 0, none⟩ = some (.int .i64 n) ∧ w'.cell? ⟨w.heap.size + 1, 1, none⟩ = some (.int .i64 m) ∧ w'.cell? ⟨w.heap.size, 0, none⟩ = some (.int .u16 x) ∧ w'.cell? ⟨w.heap.size, 1, none⟩ = some (.int .u16 y))
      (exact HS.out _ (by repeat (first | exact Below.refl _ _ | refine Below.drew ?_ | refine keep_alloc ?_ _)))
      (first | (go_at_call 15; refine (near_exact _ _ (by omega) (by omega)).mono ?_; rintro e w2 ⟨rfl, rfl⟩))
    all_goals
      clear HS
      go_wp2_with fail
      go_meet
      refine ⟨_, rfl, by simp [go_sem], by simp [go_sem], by simp [go_sem], by simp [go_sem], by simp <;> omega, b1.trans (Below.mono (B := w1.heap.size) ?_ b1.size)⟩
      repeat (first | exact Below.refl _ _ | refine Below.drew ?_ | refine keep_alloc ?_ _)
  case rest =>
  obtain ⟨D, rfl, g0, g1, g2, g3, hD4, b4⟩ := hcut
  have f0 : 0 ≤ nearI n ∧ nearI n < 65536 := nearI_bd n
  have f1 : 0 ≤ nearI m ∧ nearI m < 65536 := nearI_bd m
  generalize nearI n = a at *
  generalize nearI m = b at *
  clear c1 c2 c3 c4 b1 s1
  go_wp2
  go_loopw [7] (fun i wr => ∃ k : Nat, k ≤ 2 ∧ i = .int .i64 k ∧ wr.cell? ⟨D, 0, none⟩ = some (.int .u16 x) ∧ wr.cell? ⟨D, 1, none⟩ = some (.int .u16 y) ∧ wr.cell? ⟨D, 2, none⟩ = some (.int .u16 a) ∧ wr.cell? ⟨D, 3, none⟩ = some (.int .u16 b) ∧ D < wr.heap.size ∧ Below w.heap.size w wr) (fun i _ => 2 - (intOf i).toNat)
  case atStart => exact ⟨0, by omega, rfl, g0, g1, g2, g3, hD4, b4⟩
  case round =>
    obtain ⟨k, hk, rfl, q0, q1, q2, q3, hD, bl⟩ := hrel
    clear g0 g1 g2 g3 b4 hD4
    rcases (show k = 0 ∨ k = 1 ∨ k = 2 by omega) with rfl | rfl | rfl
    · have t0 := cmp_eq x y (by omega) (by omega) (by omega) (by omega)
      have t2 := cmp_ge x y (by omega) (by omega) (by omega) (by omega)
      have t8 := cmp_gt x y (by omega) (by omega) (by omega) (by omega)
      have t10 := cmp_sge x y (by omega) (by omega) (by omega) (by omega)
      have t12 := cmp_sgt x y (by omega) (by omega) (by omega) (by omega)
      have sp := sgI_wrap x (by omega) (by omega)
      have sq := sgI_wrap y (by omega) (by omega)
      have sf : 0 ≤ subF x y true ∧ subF x y true < 16 := addF_bd _ _ _
      go_wp2_with fail
      refine (sub_any _ _ _ _ (by omega) (by omega) (by omega) (by omega)).mono ?_; rintro e w' ⟨rfl, rfl⟩
      go_wp2_with fail
      refine (cond_any _ _ _ (by omega) (by omega) (by omega) (by omega)).mono ?_; rintro e v1 ⟨rfl, j1⟩
      go_wp2_with fail
      refine (cond_any _ _ _ (by omega) (by omega) (by omega) (by omega)).mono ?_; rintro e v2 ⟨rfl, j2⟩
      go_wp2_with fail
      refine (cond_any _ _ _ (by omega) (by omega) (by omega) (by omega)).mono ?_; rintro e v3 ⟨rfl, j3⟩
      go_wp2_with fail
      refine (cond_any _ _ _ (by omega) (by omega) (by omega) (by omega)).mono ?_; rintro e v4 ⟨rfl, j4⟩
      go_wp2_with fail
      refine (cond_any _ _ _ (by omega) (by omega) (by omega) (by omega)).mono ?_; rintro e v5 ⟨rfl, j5⟩
      have z2 := j1.trans (j2.mono j1.size)
      have z3 := z2.trans (j3.mono z2.size)
      have z4 := z3.trans (j4.mono z3.size)
      have z5 := z4.trans (j5.mono z4.size)
      clear j1 j2 j3 j4 j5 z2 z3 z4
      go_wp2
      go_roundw
      case rel => exact ⟨1, by omega, by go_num, (z5.cell hD).trans q0, (z5.cell hD).trans q1, (z5.cell hD).trans q2, (z5.cell hD).trans q3, Nat.lt_of_lt_of_le hD z5.size, bl.trans (z5.mono bl.size)⟩
      case measure => simp [intOf] <;> omega
    · have t0 := cmp_eq a b (by omega) (by omega) (by omega) (by omega)
      have t2 := cmp_ge a b (by omega) (by omega) (by omega) (by omega)
      have t8 := cmp_gt a b (by omega) (by omega) (by omega) (by omega)
      have t10 := cmp_sge a b (by omega) (by omega) (by omega) (by omega)
      have t12 := cmp_sgt a b (by omega) (by omega) (by omega) (by omega)
      have sp := sgI_wrap a (by omega) (by omega)
      have sq := sgI_wrap b (by omega) (by omega)
      have sf : 0 ≤ subF a b true ∧ subF a b true < 16 := addF_bd _ _ _
      go_wp2_with fail
      refine (sub_any _ _ _ _ (by omega) (by omega) (by omega) (by omega)).mono ?_; rintro e w' ⟨rfl, rfl⟩
      go_wp2_with fail
      refine (cond_any _ _ _ (by omega) (by omega) (by omega) (by omega)).mono ?_; rintro e v1 ⟨rfl, j1⟩
      go_wp2_with fail
      refine (cond_any _ _ _ (by omega) (by omega) (by omega) (by omega)).mono ?_; rintro e v2 ⟨rfl, j2⟩
      go_wp2_with fail
      refine (cond_any _ _ _ (by omega) (by omega) (by omega) (by omega)).mono ?_; rintro e v3 ⟨rfl, j3⟩
      go_wp2_with fail
      refine (cond_any _ _ _ (by omega) (by omega) (by omega) (by omega)).mono ?_; rintro e v4 ⟨rfl, j4⟩
      go_wp2_with fail
      refine (cond_any _ _ _ (by omega) (by omega) (by omega) (by omega)).mono ?_; rintro e v5 ⟨rfl, j5⟩
      have z2 := j1.trans (j2.mono j1.size)
      have z3 := z2.trans (j3.mono z2.size)
      have z4 := z3.trans (j4.mono z3.size)
      have z5 := z4.trans (j5.mono z4.size)
      clear j1 j2 j3 j4 j5 z2 z3 z4
      go_wp2
      go_roundw
      case rel => exact ⟨2, by omega, by go_num, (z5.cell hD).trans q0, (z5.cell hD).trans q1, (z5.cell hD).trans q2, (z5.cell hD).trans q3, Nat.lt_of_lt_of_le hD z5.size, bl.trans (z5.mono bl.size)⟩
      case measure => simp [intOf] <;> omega
    · go_wp2
      go_ret
      exact ⟨rfl, bl⟩
end Go.Proofs.Ytgmiepahhmfaiaa
