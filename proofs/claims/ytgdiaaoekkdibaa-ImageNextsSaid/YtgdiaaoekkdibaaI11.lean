/- Contracts of Next and its reference. -/
import Derived.Test.YtgdiaaoekkdibaaI8
import Derived.Laws.ResultCell
namespace Go.Proofs.Ytgdiaaoekkdibaa
set_option linter.unusedVariables false
set_option linter.unusedSimpArgs false
open Go.RowKit
def nextI (b a n : Int) : Int × Int × Bool := if isCode b a ∧ -(a % 4096) ≤ n ∧ n < 4096 - a % 4096 then (b, a + n, true) else (0, 0, false)
theorem nextI_yes (b a n : Int) (h : isCode b a) (h1 : -(a % 4096) ≤ n) (h2 : n < 4096 - a % 4096) : nextI b a n = (b, a + n, true) := if_pos ⟨h, h1, h2⟩
theorem nextI_no (b a n : Int) (h : ¬ (isCode b a ∧ -(a % 4096) ≤ n ∧ n < 4096 - a % 4096)) : nextI b a n = (0, 0, false) := if_neg h
theorem place_eq {x y : Int × Int × Bool} (h : x = y) : Ending.returned (.tuple #[.agg #[.int .i64 x.1, .int .u16 x.2.1], .bool x.2.2]) = .returned (.tuple #[.agg #[.int .i64 y.1, .int .u16 y.2.1], .bool y.2.2]) := by rw [h]
theorem code_ex (b a : Int) (B : Bool) (w : World) (hb : OkI64 b) (ha : OkU16 a) (hB : decide (isCode b a) = B) :
    Calls Try.prog 63 #[.agg #[.int .i64 b, .int .u16 a]] w fun e w' => e = .returned (.bool B) ∧ w.alloc (.cells #[.int .i64 b, .int .u16 a] 55) = w' := by
  obtain ⟨b0, b1⟩ := hb
  obtain ⟨a0, a1⟩ := ha
  have HB : Hid (B = true ↔ isCode b a) := by show _ ↔ _; rw [← hB]; exact decide_eq_true_iff
  clear hB
  go_enter Try.func63, Try.ntmps63
  go_wp2
  all_goals
    go_ret
    refine ⟨?_, by first | rfl | simp [*]⟩
    refine ret_bool ?_
    rw [Bool.eq_iff_iff, HB.out]
    unfold isCode
    simp
    try omega
theorem iscode_ex (b a : Int) (B : Bool) (w : World) (hb : OkI64 b) (ha : OkU16 a) (hB : decide (isCode b a) = B) :
    Calls Try.prog 64 #[.agg #[.int .i64 b, .int .u16 a]] w fun e w' => e = .returned (.bool B) ∧ w.alloc (.cells #[.int .i64 b, .int .u16 a] 55) = w' := by
  obtain ⟨b0, b1⟩ := hb
  obtain ⟨a0, a1⟩ := ha
  have HB : Hid (B = true ↔ isCode b a) := by show _ ↔ _; rw [← hB]; exact decide_eq_true_iff
  clear hB
  go_enter Try.func64, Try.ntmps64
  go_wp2
  all_goals
    go_ret
    refine ⟨?_, by first | rfl | simp [*]⟩
    refine ret_bool ?_
    rw [Bool.eq_iff_iff, HB.out]
    unfold isCode
    simp
    try omega
set_option maxHeartbeats 2000000 in
theorem next_any (b a n : Int) (w : World) (hb : OkI64 b) (ha : OkU16 a) (hn : OkI64 n) :
    Calls Try.prog 34 #[.agg #[.int .i64 b, .int .u16 a], .int .i64 n] w fun e w' => e = .returned (.tuple #[.agg #[.int .i64 (nextI b a n).1, .int .u16 (nextI b a n).2.1], .bool (nextI b a n).2.2]) ∧ Below w.heap.size w w' := by
  obtain ⟨b0, b1⟩ := hb
  obtain ⟨a0, a1⟩ := ha
  obtain ⟨n0, n1⟩ := hn
  obtain ⟨M, hM⟩ : ∃ M, a % 4096 = M := ⟨_, rfl⟩
  have m0 : 0 ≤ M := by omega
  have m1 : M < 4096 := by omega
  have m2 : M ≤ a := by omega
  have HM := Lib.hid hM
  have ht : a.tmod 4096 = M := by rw [Int.tmod_eq_emod_of_nonneg a0]; exact hM
  have hw : IntKind.u16.wrap M = M := wrap_in _ m0 (by omega)
  have hw2 : IntKind.i64.wrap M = M := IntWalk.i64_in _ (by omega)
  have hw3 : IntKind.i64.wrap (-M) = -M := IntWalk.i64_in _ (by omega)
  have hw4 : IntKind.i64.wrap (4096 - M) = 4096 - M := IntWalk.i64_in _ (by omega)
  have hw5 : IntKind.i64.wrap a = a := IntWalk.i64_in _ (by omega)
  by_cases hc : isCode b a
  rotate_left
  · have HR := Lib.hid (nextI_no b a n (fun h => hc h.1))
    have HC := Lib.hid (show decide (isCode b a) = false from decide_eq_false hc)
    clear hc hM
    go_enter Try.func34, Try.ntmps34
    go_wp2_with (go_at_call 63; refine (code_ex b a _ _ ⟨b0, b1⟩ ⟨a0, a1⟩ HC.out).mono ?_; rintro e w2 ⟨rfl, rfl⟩)
    refine bodyPost_ret (v := .tuple #[.agg #[.int .i64 0, .int .u16 0], .bool false]) ?_ rfl ⟨?_, ?_⟩
    · rw [results_cell_tmp rfl]
      go_simp
    · exact place_eq (x := (0, 0, false)) HR.out.symm
    · repeat' (first | exact Below.refl _ _ | exact below1 _ _ | refine below_alloc ?_ _ | refine Below.setCell ?_ (by simp <;> omega) _)
  have HC := Lib.hid (show decide (isCode b a) = true from decide_eq_true hc)
  have a2 : a < 8192 := by have := hc.2.2; omega
  have Hc := Lib.hid hc
  clear hc hM
  by_cases h1 : n < -M
  · have HR := Lib.hid (nextI_no b a n (fun h => by have := HM.out; omega))
    go_enter Try.func34, Try.ntmps34
    go_wp2_with (go_at_call 63; refine (code_ex b a _ _ ⟨b0, b1⟩ ⟨a0, a1⟩ HC.out).mono ?_; rintro e w2 ⟨rfl, rfl⟩)
    refine bodyPost_ret (v := .tuple #[.agg #[.int .i64 0, .int .u16 0], .bool false]) ?_ rfl ⟨?_, ?_⟩
    · rw [results_cell_tmp rfl]
      go_simp
    · exact place_eq (x := (0, 0, false)) HR.out.symm
    · repeat' (first | exact Below.refl _ _ | exact below1 _ _ | refine below_alloc ?_ _ | refine Below.setCell ?_ (by simp <;> omega) _)
  by_cases h2 : 4096 - M ≤ n
  · have HR := Lib.hid (nextI_no b a n (fun h => by have := HM.out; omega))
    go_enter Try.func34, Try.ntmps34
    go_wp2_with (go_at_call 63; refine (code_ex b a _ _ ⟨b0, b1⟩ ⟨a0, a1⟩ HC.out).mono ?_; rintro e w2 ⟨rfl, rfl⟩)
    refine bodyPost_ret (v := .tuple #[.agg #[.int .i64 0, .int .u16 0], .bool false]) ?_ rfl ⟨?_, ?_⟩
    · rw [results_cell_tmp rfl]
      go_simp
    · exact place_eq (x := (0, 0, false)) HR.out.symm
    · repeat' (first | exact Below.refl _ _ | exact below1 _ _ | refine below_alloc ?_ _ | refine Below.setCell ?_ (by simp <;> omega) _)
  have HR := Lib.hid (nextI_yes b a n Hc.out (by have := HM.out; omega) (by have := HM.out; omega))
  have hw6 : IntKind.i64.wrap (a + n) = a + n := IntWalk.i64_in _ (by omega)
  have hw7 : IntKind.u16.wrap (a + n) = a + n := wrap_in _ (by omega) (by omega)
  go_enter Try.func34, Try.ntmps34
  go_wp2_with (go_at_call 63; refine (code_ex b a _ _ ⟨b0, b1⟩ ⟨a0, a1⟩ HC.out).mono ?_; rintro e w2 ⟨rfl, rfl⟩)
  refine bodyPost_ret (v := .tuple #[.agg #[.int .i64 b, .int .u16 (a + n)], .bool true]) ?_ rfl ⟨?_, ?_⟩
  · rw [results_cell_tmp rfl]
    go_simp
  · exact place_eq (x := (b, a + n, true)) HR.out.symm
  · repeat' (first | exact Below.refl _ _ | exact below1 _ _ | refine below_alloc ?_ _ | refine Below.setCell ?_ (by simp <;> omega) _)
set_option maxHeartbeats 2000000 in
theorem rnext_any (b a n : Int) (w : World) (hb : OkI64 b) (ha : OkU16 a) (hn : OkI64 n) :
    Calls Try.prog 35 #[.agg #[.int .i64 b, .int .u16 a], .int .i64 n] w fun e w' => e = .returned (.tuple #[.agg #[.int .i64 (nextI b a n).1, .int .u16 (nextI b a n).2.1], .bool (nextI b a n).2.2]) ∧ Below w.heap.size w w' := by
  obtain ⟨b0, b1⟩ := hb
  obtain ⟨a0, a1⟩ := ha
  obtain ⟨n0, n1⟩ := hn
  obtain ⟨M, hM⟩ : ∃ M, a % 4096 = M := ⟨_, rfl⟩
  have m0 : 0 ≤ M := by omega
  have m1 : M < 4096 := by omega
  have m2 : M ≤ a := by omega
  have HM := Lib.hid hM
  have ht : a.tmod 4096 = M := by rw [Int.tmod_eq_emod_of_nonneg a0]; exact hM
  have hw : IntKind.u16.wrap M = M := wrap_in _ m0 (by omega)
  have hw2 : IntKind.i64.wrap M = M := IntWalk.i64_in _ (by omega)
  have hw3 : IntKind.i64.wrap (-M) = -M := IntWalk.i64_in _ (by omega)
  have hw4 : IntKind.i64.wrap (4096 - M) = 4096 - M := IntWalk.i64_in _ (by omega)
  have hw5 : IntKind.i64.wrap a = a := IntWalk.i64_in _ (by omega)
  by_cases hc : isCode b a
  rotate_left
  · have HR := Lib.hid (nextI_no b a n (fun h => hc h.1))
    have HC := Lib.hid (show decide (isCode b a) = false from decide_eq_false hc)
    clear hc hM
    go_enter Try.func35, Try.ntmps35
    go_wp2_with (go_at_call 64; refine (iscode_ex b a _ _ ⟨b0, b1⟩ ⟨a0, a1⟩ HC.out).mono ?_; rintro e w2 ⟨rfl, rfl⟩)
    refine bodyPost_ret (v := .tuple #[.agg #[.int .i64 0, .int .u16 0], .bool false]) ?_ rfl ⟨?_, ?_⟩
    · rw [results_cell_tmp rfl]
      go_simp
    · exact place_eq (x := (0, 0, false)) HR.out.symm
    · repeat' (first | exact Below.refl _ _ | exact below1 _ _ | refine below_alloc ?_ _ | refine Below.setCell ?_ (by simp <;> omega) _)
  have HC := Lib.hid (show decide (isCode b a) = true from decide_eq_true hc)
  have a2 : a < 8192 := by have := hc.2.2; omega
  have Hc := Lib.hid hc
  clear hc hM
  by_cases h1 : n < -8192
  · have HR := Lib.hid (nextI_no b a n (fun h => by have := HM.out; omega))
    go_enter Try.func35, Try.ntmps35
    go_wp2_with (go_at_call 64; refine (iscode_ex b a _ _ ⟨b0, b1⟩ ⟨a0, a1⟩ HC.out).mono ?_; rintro e w2 ⟨rfl, rfl⟩)
    refine bodyPost_ret (v := .tuple #[.agg #[.int .i64 0, .int .u16 0], .bool false]) ?_ rfl ⟨?_, ?_⟩
    · rw [results_cell_tmp rfl]
      go_simp
    · exact place_eq (x := (0, 0, false)) HR.out.symm
    · repeat' (first | exact Below.refl _ _ | exact below1 _ _ | refine below_alloc ?_ _ | refine Below.setCell ?_ (by simp <;> omega) _)
  by_cases h2 : 8192 < n
  · have HR := Lib.hid (nextI_no b a n (fun h => by have := HM.out; omega))
    go_enter Try.func35, Try.ntmps35
    go_wp2_with (go_at_call 64; refine (iscode_ex b a _ _ ⟨b0, b1⟩ ⟨a0, a1⟩ HC.out).mono ?_; rintro e w2 ⟨rfl, rfl⟩)
    refine bodyPost_ret (v := .tuple #[.agg #[.int .i64 0, .int .u16 0], .bool false]) ?_ rfl ⟨?_, ?_⟩
    · rw [results_cell_tmp rfl]
      go_simp
    · exact place_eq (x := (0, 0, false)) HR.out.symm
    · repeat' (first | exact Below.refl _ _ | exact below1 _ _ | refine below_alloc ?_ _ | refine Below.setCell ?_ (by simp <;> omega) _)
  have hw6 : IntKind.i64.wrap (a + n) = a + n := IntWalk.i64_in _ (by omega)
  by_cases h3 : a + n < 0
  · have HR := Lib.hid (nextI_no b a n (fun h => by have := HM.out; omega))
    go_enter Try.func35, Try.ntmps35
    go_wp2_with (go_at_call 64; refine (iscode_ex b a _ _ ⟨b0, b1⟩ ⟨a0, a1⟩ HC.out).mono ?_; rintro e w2 ⟨rfl, rfl⟩)
    refine bodyPost_ret (v := .tuple #[.agg #[.int .i64 0, .int .u16 0], .bool false]) ?_ rfl ⟨?_, ?_⟩
    · rw [results_cell_tmp rfl]
      go_simp
    · exact place_eq (x := (0, 0, false)) HR.out.symm
    · repeat' (first | exact Below.refl _ _ | exact below1 _ _ | refine below_alloc ?_ _ | refine Below.setCell ?_ (by simp <;> omega) _)
  have d1 : (a + n).tdiv 4096 = (a + n) / 4096 := Int.tdiv_eq_ediv_of_nonneg (by omega)
  have d2 : a.tdiv 4096 = a / 4096 := Int.tdiv_eq_ediv_of_nonneg a0
  have d3 : IntKind.i64.wrap ((a + n) / 4096) = (a + n) / 4096 := IntWalk.i64_in _ (by omega)
  have d4 : IntKind.i64.wrap (a / 4096) = a / 4096 := IntWalk.i64_in _ (by omega)
  by_cases h4 : (a + n) / 4096 = a / 4096
  rotate_left
  · have HR := Lib.hid (nextI_no b a n (fun h => by have := HM.out; omega))
    have h5 : ((a + n) / 4096 != a / 4096) = true := by simpa using h4
    go_enter Try.func35, Try.ntmps35
    go_wp2_with (go_at_call 64; refine (iscode_ex b a _ _ ⟨b0, b1⟩ ⟨a0, a1⟩ HC.out).mono ?_; rintro e w2 ⟨rfl, rfl⟩)
    refine bodyPost_ret (v := .tuple #[.agg #[.int .i64 0, .int .u16 0], .bool false]) ?_ rfl ⟨?_, ?_⟩
    · rw [results_cell_tmp rfl]
      go_simp
    · exact place_eq (x := (0, 0, false)) HR.out.symm
    · repeat' (first | exact Below.refl _ _ | exact below1 _ _ | refine below_alloc ?_ _ | refine Below.setCell ?_ (by simp <;> omega) _)
  have h5 : ((a + n) / 4096 != a / 4096) = false := by simpa using h4
  have HR := Lib.hid (nextI_yes b a n Hc.out (by have := HM.out; omega) (by have := HM.out; omega))
  have hw7 : IntKind.u16.wrap (a + n) = a + n := wrap_in _ (by omega) (by omega)
  clear h4
  go_enter Try.func35, Try.ntmps35
  go_wp2_with (go_at_call 64; refine (iscode_ex b a _ _ ⟨b0, b1⟩ ⟨a0, a1⟩ HC.out).mono ?_; rintro e w2 ⟨rfl, rfl⟩)
  refine bodyPost_ret (v := .tuple #[.agg #[.int .i64 b, .int .u16 (a + n)], .bool true]) ?_ rfl ⟨?_, ?_⟩
  · rw [results_cell_tmp rfl]
    go_simp
  · exact place_eq (x := (b, a + n, true)) HR.out.symm
  · repeat' (first | exact Below.refl _ _ | exact below1 _ _ | refine below_alloc ?_ _ | refine Below.setCell ?_ (by simp <;> omega) _)
end Go.Proofs.Ytgdiaaoekkdibaa
