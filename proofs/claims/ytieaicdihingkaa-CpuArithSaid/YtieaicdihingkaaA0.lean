/- The reference's format and size of the arithmetic operations. -/
import Derived.Test.YtieaicdihingkaaE0
import Derived.Test.YtieaicdihingkaaHK
namespace Go.Proofs.Ytieaicdihingkaa
set_option linter.unusedVariables false
set_option linter.unusedSimpArgs false
open Go.RowKit
/-- An arithmetic operation: its row (2, 3, 4) and its place in the row. -/
structure ArOp (op q j : Int) : Prop where
  hq : q = 2 ∨ q = 3 ∨ q = 4
  j0 : 0 ≤ j
  j1 : j ≤ 14
  hop : op = 16 * q + j
theorem ArOp.and {op q j : Int} (h : ArOp op q j) : bits .and .i64 op 15 = j := by
  obtain ⟨hq, h0, h1, rfl⟩ := h
  have hj : j = 0 ∨ j = 1 ∨ j = 2 ∨ j = 3 ∨ j = 4 ∨ j = 5 ∨ j = 6 ∨ j = 7 ∨ j = 8 ∨ j = 9 ∨ j = 10 ∨ j = 11 ∨ j = 12 ∨ j = 13 ∨ j = 14 := by omega
  rcases hq with rfl | rfl | rfl <;> rcases hj with rfl | rfl | rfl | rfl | rfl | rfl | rfl | rfl | rfl | rfl | rfl | rfl | rfl | rfl | rfl <;> decide
set_option maxRecDepth 20000 in
set_option maxHeartbeats 4000000 in
theorem format_ar (op q j : Int) (w : World) (h : ArOp op q j) : Calls Try.prog 26 #[.int .i64 op] w (fun e w' => e = .returned (.int .i64 (q + 2)) ∧ Below w.heap.size w w') := by
  have ha := h.and
  obtain ⟨hq, h0, h1, he⟩ := h
  have hd : op / 16 = q := by omega
  have a0 : decide (op < 0) = false := decide_eq_false (by omega)
  have a1 : decide (163 < op) = false := decide_eq_false (by omega)
  have a2 : decide (j ≤ 14) = true := decide_eq_true h1
  clear he
  rcases hq with rfl | rfl | rfl
  all_goals
    go_enter Try.func26, Try.ntmps26
    go_wp2_with fail
    first
    | exact bodyPost_ret (v := .int .i64 4) (by simp [results, Try.results26, go_sem]) rfl ⟨rfl, Below.refl _ _⟩
    | exact bodyPost_ret (v := .int .i64 5) (by simp [results, Try.results26, go_sem]) rfl ⟨rfl, Below.refl _ _⟩
    | exact bodyPost_ret (v := .int .i64 6) (by simp [results, Try.results26, go_sem]) rfl ⟨rfl, Below.refl _ _⟩
set_option maxRecDepth 20000 in
set_option maxHeartbeats 4000000 in
theorem rsize_ar (op q j : Int) (w : World) (h : ArOp op q j) : Calls Try.prog 44 #[.int .u8 op] w (fun e w' => e = .returned (.int .i64 q) ∧ Below w.heap.size w w') := by
  have HF := Lib.hid fun W => format_ar op q j W h
  have o1 : IntKind.i64.wrap op = op := by
    obtain ⟨hq, h0, h1, rfl⟩ := h
    exact IntWalk.i64_in _ (by omega)
  have H := Lib.hid h
  clear h
  go_enter Try.func44, Try.ntmps44
  go_wp2_with (refine wpList_store_row 121 _ _ rfl rfl w.heap.size rfl sizesC rfl (alloc_at w _) info121 rfl (by simp [sizesC, Value.oneCell']) ?_; refine Hid.out ?_)
  generalize e1 : World.setRow _ _ _ = W1
  have HA1 := Lib.hid (show W1.heap[w.heap.size]? = some (.cells sizesC 121 (0, 0)) from e1 ▸ setRow_heap _ _ _ _ _ _ (alloc_at w _))
  have HB1 := Lib.hid (show Below w.heap.size w W1 from e1 ▸ setRow_below (below1 w _) (Nat.le_refl _))
  refine Lib.hid ?_
  clear e1
  go_wp2_with fail
  refine (HF.out _).mono ?_
  rintro e w2 ⟨rfl, h2⟩
  have HB2 := Lib.hid (below_next HB1.out h2)
  have hh := at_next h2 HA1.out
  obtain ⟨k, hk, hkl, hz⟩ : ∃ k : Nat, q + 2 = (k : Int) ∧ k < 19 ∧ sizesC[k]? = some (.int .i64 q) := by
    rcases H.out.hq with rfl | rfl | rfl
    · exact ⟨4, rfl, by decide, rfl⟩
    · exact ⟨5, rfl, by decide, rfl⟩
    · exact ⟨6, rfl, by decide, rfl⟩
  rw [hk]
  have c1 : w2.cell? ⟨w.heap.size, k, none⟩ = some (.int .i64 q) := (Lib.cell_of_heap hh k).trans hz
  have i0 : (0 : Int) ≤ (k : Int) := by omega
  have i1 : (k : Int) < 19 := by omega
  clear hz hh h2 hk
  go_wp2_with fail
  exact bodyPost_ret (v := .int .i64 q) (by simp [results, Try.results44, go_sem]) rfl ⟨rfl, HB2.out⟩
end Go.Proofs.Ytieaicdihingkaa
