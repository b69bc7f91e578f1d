/- The reference's Format. -/
import Derived.Test.YtieaicdihingkaaC1
namespace Go.Proofs.Ytieaicdihingkaa
set_option linter.unusedVariables false
set_option linter.unusedSimpArgs false
open Go.RowKit
def rfmtL : List Int := [1, 1, 1, 1, 1, 1, 0, 0, 0, 0, 0, 0, 0, 0, 0, 0, 2, 2, 2, 2, 3, 3, 0, 0, 0, 0, 0, 0, 0, 0, 0, 0, 4, 4, 4, 4, 4, 4, 4, 4, 4, 4, 4, 4, 4, 4, 4, 0, 5, 5, 5, 5, 5, 5, 5, 5, 5, 5, 5, 5, 5, 5, 5, 0, 6, 6, 6, 6, 6, 6, 6, 6, 6, 6, 6, 6, 6, 6, 6, 0, 7, 7, 7, 7, 9, 9, 9, 9, 8, 8, 8, 8, 0, 0, 0, 0, 10, 10, 10, 10, 10, 10, 10, 10, 10, 10, 10, 10, 10, 10, 0, 0, 11, 11, 11, 11, 11, 11, 11, 11, 11, 11, 11, 11, 11, 11, 0, 0, 10, 11, 11, 12, 12, 13, 14, 0, 0, 0, 0, 0, 0, 0, 0, 0, 15, 15, 16, 16, 0, 0, 17, 0, 0, 0, 0, 0, 0, 0, 0, 0, 15, 15, 18, 18]
/-- The reference's format of an operation. -/
def rfmt (op : Int) : Int := if 0 ≤ op ∧ op < 164 then (rfmtL[op.toNat]?).getD 0 else 0
set_option maxRecDepth 20000 in
theorem rfmt_bd (op : Int) : 0 ≤ rfmt op ∧ rfmt op ≤ 18 := by
 unfold rfmt
 split
 ·rename_i h
  have h1 : ∀ x ∈ rfmtL, 0 ≤ x ∧ x ≤ 18 := by decide
  cases hx : rfmtL[op.toNat]? with
  | none => decide
  | some x => exact h1 x (List.mem_of_getElem? hx)
 ·decide
theorem all_succ {P : Nat → Prop} {n : Nat} (h : ∀ k, k < n → P k) (hn : P n) : ∀ k, k < n + 1 → P k := fun k hk => by
 rcases Nat.lt_or_ge k n with h1 | h1
 ·exact h k h1
 ·obtain rfl : k = n := by omega
  exact hn
def FmtIs (w : World) (k : Nat) : Prop := Calls Try.prog 26 #[.int .i64 (k : Int)] w (fun e w' => e = .returned (.int .i64 (rfmt k)) ∧ Below w.heap.size w w')
set_option maxRecDepth 20000 in
set_option maxHeartbeats 40000000 in
theorem format_lit (w : World) : ∀ k, k < 164 → FmtIs w k := by
 iterate 164 refine all_succ ?_ ?_
 ·exact fun k hk => absurd hk (Nat.not_lt_zero k)
 all_goals
  unfold FmtIs
  go_enter Try.func26, Try.ntmps26
  go_wp2_with fail
  go_ret
  exact ⟨by rfl, by first | exact Below.refl _ _ | exact below1 _ _⟩
set_option maxRecDepth 20000 in
set_option maxHeartbeats 4000000 in
theorem rformat_any (op : Int) (w : World) : Calls Try.prog 26 #[.int .i64 op] w (fun e w' => e = .returned (.int .i64 (rfmt op)) ∧ Below w.heap.size w w') := by
 by_cases h0 : 0 ≤ op
 ·by_cases h1 : op < 164
  ·obtain ⟨k, rfl⟩ : ∃ k : Nat, op = (k : Int) := ⟨op.toNat, by omega⟩
   exact format_lit w k (by omega)
  ·have HR : Hid (rfmt op = 0) := Lib.hid (if_neg (by omega))
   have b0 : decide (op < 0) = false := decide_eq_false (by omega)
   have b1 : decide (163 < op) = true := decide_eq_true (by omega)
   rw [HR.out]
   clear h0 h1 HR
   go_enter Try.func26, Try.ntmps26
   go_wp2_with fail
   go_ret
   exact ⟨rfl, Below.refl _ _⟩
 ·have HR : Hid (rfmt op = 0) := Lib.hid (if_neg (by omega))
  have b0 : decide (op < 0) = true := decide_eq_true (by omega)
  rw [HR.out]
  clear h0 HR
  go_enter Try.func26, Try.ntmps26
  go_wp2_with fail
  go_ret
  exact ⟨rfl, Below.refl _ _⟩
end Go.Proofs.Ytieaicdihingkaa
