/- The walk of WordAdds. -/
import Derived.Test.YtgmiepahhmfaiaaRows
import Derived.Test.YtgmiepahhmfaiaaS
import Derived.BigQuiet
import Derived.Deep.QuietTactic
namespace Go.Proofs.Ytgmiepahhmfaiaa
set_option linter.unusedVariables false
open Go.RowKit

theorem below_drewN {B : Nat} {a w : World} (h : Below B a w) (n : Nat) : Below B a (w.drewN n) := ⟨h.os, h.tape, h.output, h.size, h.block⟩
set_option maxHeartbeats 400000 in
theorem wordAdds_walk (x y n m : Int) (c : Bool) (w : World) (x0 : 0 ≤ x) (x1 : x < 65536) (y0 : 0 ≤ y) (y1 : y < 65536)
    (n0 : -9223372036854775808 ≤ n) (n1 : n ≤ 9223372036854775807) (m0 : -9223372036854775808 ≤ m) (m1 : m ≤ 9223372036854775807) :
    Calls Try.prog 3 #[.agg #[.int .u16 x, .int .u16 y], .agg #[.int .i64 n, .int .i64 m], .bool c] w fun e w' => e = .returned (.bool true) ∧ Below w.heap.size w w' := by
  go_enter Try.func3, Try.ntmps3
  go_wp2_with fail
  refine (sanity_any _).mono ?_; rintro e w1 ⟨rfl, h1⟩
  have s1 := h1.size
  simp at s1
  have c1 : w1.cell? ⟨w.heap.size + 1, 0, none⟩ = some (.int .i64 n) := (h1.cell (by simp <;> omega)).trans (by simp <;> omega)
  have c2 : w1.cell? ⟨w.heap.size + 1, 1, none⟩ = some (.int .i64 m) := (h1.cell (by simp <;> omega)).trans (by simp <;> omega)
  have c3 : w1.cell? ⟨w.heap.size, 0, none⟩ = some (.int .u16 x) := (h1.cell (by simp <;> omega)).trans (by simp <;> omega)
  have c4 : w1.cell? ⟨w.heap.size, 1, none⟩ = some (.int .u16 y) := (h1.cell (by simp <;> omega)).trans (by simp <;> omega)
  have b1 : Below w.heap.size w w1 := (((Below.refl _ _).alloc (Nat.le_refl _) _).alloc (by simp <;> omega) _).trans (h1.mono (by simp <;> omega))
  clear h1
  go_wp2_with fail
  refine (near_any _ _ n0 n1).mono ?_; rintro e w2 ⟨rfl, h2⟩
  have s2 := h2.size
  have d2 : w2.cell? ⟨w.heap.size + 1, 1, none⟩ = some (.int .i64 m) := (h2.cell (by simp <;> omega)).trans c2
  have d3 : w2.cell? ⟨w.heap.size, 0, none⟩ = some (.int .u16 x) := (h2.cell (by simp <;> omega)).trans c3
  have d4 : w2.cell? ⟨w.heap.size, 1, none⟩ = some (.int .u16 y) := (h2.cell (by simp <;> omega)).trans c4
  have b2 : Below w.heap.size w w2 := b1.trans (h2.mono (by omega))
  clear c1 c2 c3 c4 h2 b1
  go_wp2_with fail
  refine (near_any _ _ m0 m1).mono ?_; rintro e w3 ⟨rfl, h3⟩
  have s3 := h3.size
  have e3 : w3.cell? ⟨w.heap.size, 0, none⟩ = some (.int .u16 x) := (h3.cell (by simp <;> omega)).trans d3
  have e4 : w3.cell? ⟨w.heap.size, 1, none⟩ = some (.int .u16 y) := (h3.cell (by simp <;> omega)).trans d4
  have b3 : Below w.heap.size w w3 := b2.trans (h3.mono (by omega))
  clear d2 d3 d4 h3 b2
  have f0 : 0 ≤ nearI n ∧ nearI n < 65536 := nearI_bd n
  have f1 : 0 ≤ nearI m ∧ nearI m < 65536 := nearI_bd m
  generalize nearI n = a at *
  generalize nearI m = b at *
  go_wp2
  have g0 : (w3.alloc (Obj.cells #[Value.int IntKind.u16 x, Value.int IntKind.u16 y, Value.int IntKind.u16 a, Value.int IntKind.u16 b] 27)).cell? ⟨w3.heap.size, 0, none⟩ = some (.int .u16 x) := by simp
  have g1 : (w3.alloc (Obj.cells #[Value.int IntKind.u16 x, Value.int IntKind.u16 y, Value.int IntKind.u16 a, Value.int IntKind.u16 b] 27)).cell? ⟨w3.heap.size, 1, none⟩ = some (.int .u16 y) := by simp
  have g2 : (w3.alloc (Obj.cells #[Value.int IntKind.u16 x, Value.int IntKind.u16 y, Value.int IntKind.u16 a, Value.int IntKind.u16 b] 27)).cell? ⟨w3.heap.size, 2, none⟩ = some (.int .u16 a) := by simp
  have g3 : (w3.alloc (Obj.cells #[Value.int IntKind.u16 x, Value.int IntKind.u16 y, Value.int IntKind.u16 a, Value.int IntKind.u16 b] 27)).cell? ⟨w3.heap.size, 3, none⟩ = some (.int .u16 b) := by simp
  have b4 := b3.alloc (Nat.le_trans (by omega) (Nat.le_trans s2 s3)) (Obj.cells #[Value.int IntKind.u16 x, Value.int IntKind.u16 y, Value.int IntKind.u16 a, Value.int IntKind.u16 b] 27)
  generalize w3.alloc (Obj.cells #[Value.int IntKind.u16 x, Value.int IntKind.u16 y, Value.int IntKind.u16 a, Value.int IntKind.u16 b] 27) = w4 at *
  generalize w3.heap.size = D at *
  clear b3 e3 e4 s1 s2 s3
  go_loopw [11] (fun i wr => ∃ k : Nat, k ≤ 2 ∧ i = .int .i64 k ∧ wr.cell? ⟨D, 0, none⟩ = some (.int .u16 x) ∧ wr.cell? ⟨D, 1, none⟩ = some (.int .u16 y) ∧ wr.cell? ⟨D, 2, none⟩ = some (.int .u16 a) ∧ wr.cell? ⟨D, 3, none⟩ = some (.int .u16 b) ∧ Below w.heap.size w wr) (fun i _ => 2 - (intOf i).toNat)
  case atStart => exact ⟨0, by omega, rfl, g0, g1, g2, g3, b4⟩
  case round =>
    obtain ⟨k, hk, rfl, q0, q1, q2, q3, bl⟩ := hrel
    clear g0 g1 g2 g3 b4
    rcases (show k = 0 ∨ k = 1 ∨ k = 2 by omega) with rfl | rfl | rfl
    · go_wp2
      go_quiet ((go_at_call 16; exact Calls.quiet_of_same ((add_any _ _ _ _ (by omega) (by omega) (by omega) (by omega)).mono fun e w' h => ⟨h.1, h.2.symm⟩)))
      replace q0 : (wr.drewN nq).cell? ⟨D, 0, none⟩ = some (.int .u16 x) := q0
      replace q1 : (wr.drewN nq).cell? ⟨D, 1, none⟩ = some (.int .u16 y) := q1
      replace q2 : (wr.drewN nq).cell? ⟨D, 2, none⟩ = some (.int .u16 a) := q2
      replace q3 : (wr.drewN nq).cell? ⟨D, 3, none⟩ = some (.int .u16 b) := q3
      replace bl := below_drewN bl nq
      generalize wr.drewN nq = wq at *
      go_wp2
      go_quiet ((go_at_call 17; exact Calls.quiet_of_same ((radd_any _ _ _ _ (by omega) (by omega) (by omega) (by omega)).mono fun e w' h => ⟨h.1, h.2.symm⟩)))
      go_wp2
      go_roundw
      case rel => exact ⟨1, by omega, by go_num, q0, q1, q2, q3, below_drewN bl _⟩
      case measure => simp [intOf] <;> omega
    · go_wp2
      go_quiet ((go_at_call 16; exact Calls.quiet_of_same ((add_any _ _ _ _ (by omega) (by omega) (by omega) (by omega)).mono fun e w' h => ⟨h.1, h.2.symm⟩)))
      replace q0 : (wr.drewN nq).cell? ⟨D, 0, none⟩ = some (.int .u16 x) := q0
      replace q1 : (wr.drewN nq).cell? ⟨D, 1, none⟩ = some (.int .u16 y) := q1
      replace q2 : (wr.drewN nq).cell? ⟨D, 2, none⟩ = some (.int .u16 a) := q2
      replace q3 : (wr.drewN nq).cell? ⟨D, 3, none⟩ = some (.int .u16 b) := q3
      replace bl := below_drewN bl nq
      generalize wr.drewN nq = wq at *
      go_wp2
      go_quiet ((go_at_call 17; exact Calls.quiet_of_same ((radd_any _ _ _ _ (by omega) (by omega) (by omega) (by omega)).mono fun e w' h => ⟨h.1, h.2.symm⟩)))
      go_wp2
      go_roundw
      case rel => exact ⟨2, by omega, by go_num, q0, q1, q2, q3, below_drewN bl _⟩
      case measure => simp [intOf] <;> omega
    · go_wp2
      go_ret
      exact ⟨rfl, bl⟩
end Go.Proofs.Ytgmiepahhmfaiaa
