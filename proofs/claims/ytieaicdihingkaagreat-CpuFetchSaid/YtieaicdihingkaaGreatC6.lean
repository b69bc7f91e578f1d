/- isa.fits: whether a field can hold what an instruction has. -/
import Derived.Test.YtieaicdihingkaaGreatC5
import Derived.Deep.QuietTactic
import Derived.BigQuiet
namespace Go.Proofs.YtieaicdihingkaaGreat
set_option linter.unusedVariables false
set_option linter.unusedSimpArgs false
open Go.RowKit
def regI (n : Int) : Bool := decide (0 ≤ n ∧ n < 8)
theorem ret_bool {a b : Bool} (h : a = b) : Ending.returned (.bool a) = .returned (.bool b) := by rw [h]
theorem reg_any (n : Int) (w : World) : Calls Tryz.prog 106 #[.int .i64 n] w fun e w' => e = .returned (.bool (regI n)) ∧ w = w' := by
 by_cases h0 : 0 ≤ n
 ·have d0 : decide (0 ≤ n) = true := decide_eq_true h0
  by_cases h1 : n < 8
  ·have d1 : decide (n < 8) = true := decide_eq_true h1
   have HR : Hid (regI n = true) := Lib.hid (decide_eq_true ⟨h0, h1⟩)
   clear h0 h1
   go_enter Tryz.func106, Tryz.ntmps106
   go_wp2
   go_ret
   exact ⟨ret_bool HR.out.symm, rfl⟩
  ·have d1 : decide (n < 8) = false := decide_eq_false h1
   have HR : Hid (regI n = false) := Lib.hid (decide_eq_false fun h => h1 h.2)
   clear h0 h1
   go_enter Tryz.func106, Tryz.ntmps106
   go_wp2
   go_ret
   exact ⟨ret_bool HR.out.symm, rfl⟩
 ·have d0 : decide (0 ≤ n) = false := decide_eq_false h0
  have HR : Hid (regI n = false) := Lib.hid (decide_eq_false fun h => h0 h.1)
  clear h0
  go_enter Tryz.func106, Tryz.ntmps106
  go_wp2
  go_ret
  exact ⟨ret_bool HR.out.symm, rfl⟩
def fitI (f : Int) (i : InsI) : Bool :=
 if f = 1 then regI i.d && regI i.s
 else if f = 2 then regI i.d
 else if f = 3 then regI i.s
 else if f = 4 then decide (i.imm < 256)
 else if f = 5 then extI (i.imm % 256) == i.imm
 else if f = 8 then decide (0 ≤ i.bank) && decide (i.bank < 64)
 else if f = 9 then decide (1 ≤ i.bank) && decide (i.bank < 256)
 else true
theorem mod_bd (a : Int) : 0 ≤ a % 256 ∧ a % 256 < 256 := by omega
set_option maxRecDepth 8000 in
set_option maxHeartbeats 4000000 in
theorem fits_0 (i : InsI) (w : World) (hi : 0 ≤ i.imm ∧ i.imm < 65536) : Calls Tryz.prog 90 #[.int .i64 0, .agg #[.int .i64 i.op, .int .i64 i.d, .int .i64 i.s, .int .u16 i.imm, .int .u16 i.aux, .int .i64 i.bank, .int .i64 i.size]] w fun e w' => e = .returned (.bool (fitI 0 i)) ∧ Below w.heap.size w w' := by
 have KB := Lib.hid (below1 w (Obj.cells #[.int .i64 i.op, .int .i64 i.d, .int .i64 i.s, .int .u16 i.imm, .int .u16 i.aux, .int .i64 i.bank, .int .i64 i.size] 68))
 obtain ⟨u0, u1⟩ := hi
 have HR : Hid (∀ b, b = true → fitI 0 i = b) := Lib.hid (by intro b hb; subst hb; simp [fitI])
 go_enter Tryz.func90, Tryz.ntmps90
 go_wp2_with (go_at_call 106; refine (reg_any _ _).mono ?_; rintro e w' ⟨rfl, rfl⟩)
 go_ret
 exact ⟨ret_bool (HR.out _ rfl).symm, KB.out⟩
set_option maxRecDepth 8000 in
set_option maxHeartbeats 4000000 in
theorem fits_2 (i : InsI) (w : World) (hi : 0 ≤ i.imm ∧ i.imm < 65536) : Calls Tryz.prog 90 #[.int .i64 2, .agg #[.int .i64 i.op, .int .i64 i.d, .int .i64 i.s, .int .u16 i.imm, .int .u16 i.aux, .int .i64 i.bank, .int .i64 i.size]] w fun e w' => e = .returned (.bool (fitI 2 i)) ∧ Below w.heap.size w w' := by
 have KB := Lib.hid (below1 w (Obj.cells #[.int .i64 i.op, .int .i64 i.d, .int .i64 i.s, .int .u16 i.imm, .int .u16 i.aux, .int .i64 i.bank, .int .i64 i.size] 68))
 obtain ⟨u0, u1⟩ := hi
 have HR : Hid (∀ b, b = regI i.d → fitI 2 i = b) := Lib.hid (by intro b hb; subst hb; simp [fitI])
 go_enter Tryz.func90, Tryz.ntmps90
 go_wp2_with (go_at_call 106; refine (reg_any _ _).mono ?_; rintro e w' ⟨rfl, rfl⟩)
 go_ret
 exact ⟨ret_bool (HR.out _ rfl).symm, KB.out⟩
set_option maxRecDepth 8000 in
set_option maxHeartbeats 4000000 in
theorem fits_3 (i : InsI) (w : World) (hi : 0 ≤ i.imm ∧ i.imm < 65536) : Calls Tryz.prog 90 #[.int .i64 3, .agg #[.int .i64 i.op, .int .i64 i.d, .int .i64 i.s, .int .u16 i.imm, .int .u16 i.aux, .int .i64 i.bank, .int .i64 i.size]] w fun e w' => e = .returned (.bool (fitI 3 i)) ∧ Below w.heap.size w w' := by
 have KB := Lib.hid (below1 w (Obj.cells #[.int .i64 i.op, .int .i64 i.d, .int .i64 i.s, .int .u16 i.imm, .int .u16 i.aux, .int .i64 i.bank, .int .i64 i.size] 68))
 obtain ⟨u0, u1⟩ := hi
 have HR : Hid (∀ b, b = regI i.s → fitI 3 i = b) := Lib.hid (by intro b hb; subst hb; simp [fitI])
 go_enter Tryz.func90, Tryz.ntmps90
 go_wp2_with (go_at_call 106; refine (reg_any _ _).mono ?_; rintro e w' ⟨rfl, rfl⟩)
 go_ret
 exact ⟨ret_bool (HR.out _ rfl).symm, KB.out⟩
set_option maxRecDepth 8000 in
set_option maxHeartbeats 4000000 in
theorem fits_4 (i : InsI) (w : World) (hi : 0 ≤ i.imm ∧ i.imm < 65536) : Calls Tryz.prog 90 #[.int .i64 4, .agg #[.int .i64 i.op, .int .i64 i.d, .int .i64 i.s, .int .u16 i.imm, .int .u16 i.aux, .int .i64 i.bank, .int .i64 i.size]] w fun e w' => e = .returned (.bool (fitI 4 i)) ∧ Below w.heap.size w w' := by
 have KB := Lib.hid (below1 w (Obj.cells #[.int .i64 i.op, .int .i64 i.d, .int .i64 i.s, .int .u16 i.imm, .int .u16 i.aux, .int .i64 i.bank, .int .i64 i.size] 68))
 obtain ⟨u0, u1⟩ := hi
 have HR : Hid (∀ b, b = decide (i.imm < 256) → fitI 4 i = b) := Lib.hid (by intro b hb; subst hb; simp [fitI])
 go_enter Tryz.func90, Tryz.ntmps90
 go_wp2_with (go_at_call 106; refine (reg_any _ _).mono ?_; rintro e w' ⟨rfl, rfl⟩)
 go_ret
 exact ⟨ret_bool (HR.out _ rfl).symm, KB.out⟩
set_option maxRecDepth 8000 in
set_option maxHeartbeats 4000000 in
theorem fits_6 (i : InsI) (w : World) (hi : 0 ≤ i.imm ∧ i.imm < 65536) : Calls Tryz.prog 90 #[.int .i64 6, .agg #[.int .i64 i.op, .int .i64 i.d, .int .i64 i.s, .int .u16 i.imm, .int .u16 i.aux, .int .i64 i.bank, .int .i64 i.size]] w fun e w' => e = .returned (.bool (fitI 6 i)) ∧ Below w.heap.size w w' := by
 have KB := Lib.hid (below1 w (Obj.cells #[.int .i64 i.op, .int .i64 i.d, .int .i64 i.s, .int .u16 i.imm, .int .u16 i.aux, .int .i64 i.bank, .int .i64 i.size] 68))
 obtain ⟨u0, u1⟩ := hi
 have HR : Hid (∀ b, b = true → fitI 6 i = b) := Lib.hid (by intro b hb; subst hb; simp [fitI])
 go_enter Tryz.func90, Tryz.ntmps90
 go_wp2_with (go_at_call 106; refine (reg_any _ _).mono ?_; rintro e w' ⟨rfl, rfl⟩)
 go_ret
 exact ⟨ret_bool (HR.out _ rfl).symm, KB.out⟩
set_option maxRecDepth 8000 in
set_option maxHeartbeats 4000000 in
theorem fits_7 (i : InsI) (w : World) (hi : 0 ≤ i.imm ∧ i.imm < 65536) : Calls Tryz.prog 90 #[.int .i64 7, .agg #[.int .i64 i.op, .int .i64 i.d, .int .i64 i.s, .int .u16 i.imm, .int .u16 i.aux, .int .i64 i.bank, .int .i64 i.size]] w fun e w' => e = .returned (.bool (fitI 7 i)) ∧ Below w.heap.size w w' := by
 have KB := Lib.hid (below1 w (Obj.cells #[.int .i64 i.op, .int .i64 i.d, .int .i64 i.s, .int .u16 i.imm, .int .u16 i.aux, .int .i64 i.bank, .int .i64 i.size] 68))
 obtain ⟨u0, u1⟩ := hi
 have HR : Hid (∀ b, b = true → fitI 7 i = b) := Lib.hid (by intro b hb; subst hb; simp [fitI])
 go_enter Tryz.func90, Tryz.ntmps90
 go_wp2_with (go_at_call 106; refine (reg_any _ _).mono ?_; rintro e w' ⟨rfl, rfl⟩)
 go_ret
 exact ⟨ret_bool (HR.out _ rfl).symm, KB.out⟩
set_option maxRecDepth 8000 in
set_option maxHeartbeats 4000000 in
theorem fits_1 (i : InsI) (w : World) (hi : 0 ≤ i.imm ∧ i.imm < 65536) : Calls Tryz.prog 90 #[.int .i64 1, .agg #[.int .i64 i.op, .int .i64 i.d, .int .i64 i.s, .int .u16 i.imm, .int .u16 i.aux, .int .i64 i.bank, .int .i64 i.size]] w fun e w' => e = .returned (.bool (fitI 1 i)) ∧ Below w.heap.size w w' := by
 have KB := Lib.hid (below1 w (Obj.cells #[.int .i64 i.op, .int .i64 i.d, .int .i64 i.s, .int .u16 i.imm, .int .u16 i.aux, .int .i64 i.bank, .int .i64 i.size] 68))
 obtain ⟨u0, u1⟩ := hi

 cases hd : regI i.d
 ·have HR : Hid (fitI 1 i = false) := Lib.hid (by simp [fitI, hd])
  have HC : Hid (∀ V, Calls Tryz.prog 106 #[.int .i64 i.d] V fun e w' => e = .returned (.bool false) ∧ V = w') := Lib.hid (fun V => hd ▸ reg_any i.d V)
  clear hd
  go_enter Tryz.func90, Tryz.ntmps90
  go_wp2_with (go_at_call 106; refine (HC.out _).mono ?_; rintro e w' ⟨rfl, rfl⟩)
  go_ret
  exact ⟨ret_bool HR.out.symm, KB.out⟩
 ·have HR : Hid (fitI 1 i = regI i.s) := Lib.hid (by simp [fitI, hd])
  have HC : Hid (∀ V, Calls Tryz.prog 106 #[.int .i64 i.d] V fun e w' => e = .returned (.bool true) ∧ V = w') := Lib.hid (fun V => hd ▸ reg_any i.d V)
  clear hd
  go_enter Tryz.func90, Tryz.ntmps90
  go_wp2_with (go_at_call 106; first | (refine (HC.out _).mono ?_; rintro e w' ⟨rfl, rfl⟩) | (refine (reg_any _ _).mono ?_; rintro e w' ⟨rfl, rfl⟩))
  go_ret
  exact ⟨ret_bool HR.out.symm, KB.out⟩
set_option maxRecDepth 8000 in
set_option maxHeartbeats 4000000 in
theorem fits_8 (i : InsI) (w : World) (hi : 0 ≤ i.imm ∧ i.imm < 65536) : Calls Tryz.prog 90 #[.int .i64 8, .agg #[.int .i64 i.op, .int .i64 i.d, .int .i64 i.s, .int .u16 i.imm, .int .u16 i.aux, .int .i64 i.bank, .int .i64 i.size]] w fun e w' => e = .returned (.bool (fitI 8 i)) ∧ Below w.heap.size w w' := by
 have KB := Lib.hid (below1 w (Obj.cells #[.int .i64 i.op, .int .i64 i.d, .int .i64 i.s, .int .u16 i.imm, .int .u16 i.aux, .int .i64 i.bank, .int .i64 i.size] 68))
 obtain ⟨u0, u1⟩ := hi

 by_cases g0 : 0 ≤ i.bank
 ·have d0 : decide (0 ≤ i.bank) = true := decide_eq_true g0
  by_cases g1 : i.bank < 64
  ·have d1 : decide (i.bank < 64) = true := decide_eq_true g1
   have HR : Hid (fitI 8 i = true) := Lib.hid (by simp [fitI, g0, g1])
   clear g0 g1
   go_enter Tryz.func90, Tryz.ntmps90
   go_wp2_with fail
   go_ret
   exact ⟨ret_bool HR.out.symm, KB.out⟩
  ·have d1 : decide (i.bank < 64) = false := decide_eq_false g1
   have HR : Hid (fitI 8 i = false) := Lib.hid (by simp [fitI, g0, g1])
   clear g0 g1
   go_enter Tryz.func90, Tryz.ntmps90
   go_wp2_with fail
   go_ret
   exact ⟨ret_bool HR.out.symm, KB.out⟩
 ·have d0 : decide (0 ≤ i.bank) = false := decide_eq_false g0
  have HR : Hid (fitI 8 i = false) := Lib.hid (by simp [fitI, g0])
  clear g0
  go_enter Tryz.func90, Tryz.ntmps90
  go_wp2_with fail
  go_ret
  exact ⟨ret_bool HR.out.symm, KB.out⟩
set_option maxRecDepth 8000 in
set_option maxHeartbeats 4000000 in
theorem fits_9 (i : InsI) (w : World) (hi : 0 ≤ i.imm ∧ i.imm < 65536) : Calls Tryz.prog 90 #[.int .i64 9, .agg #[.int .i64 i.op, .int .i64 i.d, .int .i64 i.s, .int .u16 i.imm, .int .u16 i.aux, .int .i64 i.bank, .int .i64 i.size]] w fun e w' => e = .returned (.bool (fitI 9 i)) ∧ Below w.heap.size w w' := by
 have KB := Lib.hid (below1 w (Obj.cells #[.int .i64 i.op, .int .i64 i.d, .int .i64 i.s, .int .u16 i.imm, .int .u16 i.aux, .int .i64 i.bank, .int .i64 i.size] 68))
 obtain ⟨u0, u1⟩ := hi

 by_cases g0 : 1 ≤ i.bank
 ·have d0 : decide (1 ≤ i.bank) = true := decide_eq_true g0
  by_cases g1 : i.bank < 256
  ·have d1 : decide (i.bank < 256) = true := decide_eq_true g1
   have HR : Hid (fitI 9 i = true) := Lib.hid (by simp [fitI, g0, g1])
   clear g0 g1
   go_enter Tryz.func90, Tryz.ntmps90
   go_wp2_with fail
   go_ret
   exact ⟨ret_bool HR.out.symm, KB.out⟩
  ·have d1 : decide (i.bank < 256) = false := decide_eq_false g1
   have HR : Hid (fitI 9 i = false) := Lib.hid (by simp [fitI, g0, g1])
   clear g0 g1
   go_enter Tryz.func90, Tryz.ntmps90
   go_wp2_with fail
   go_ret
   exact ⟨ret_bool HR.out.symm, KB.out⟩
 ·have d0 : decide (1 ≤ i.bank) = false := decide_eq_false g0
  have HR : Hid (fitI 9 i = false) := Lib.hid (by simp [fitI, g0])
  clear g0
  go_enter Tryz.func90, Tryz.ntmps90
  go_wp2_with fail
  go_ret
  exact ⟨ret_bool HR.out.symm, KB.out⟩
set_option maxRecDepth 8000 in
set_option maxHeartbeats 4000000 in
theorem fits_5 (i : InsI) (w : World) (hi : 0 ≤ i.imm ∧ i.imm < 65536) : Calls Tryz.prog 90 #[.int .i64 5, .agg #[.int .i64 i.op, .int .i64 i.d, .int .i64 i.s, .int .u16 i.imm, .int .u16 i.aux, .int .i64 i.bank, .int .i64 i.size]] w fun e w' => e = .returned (.bool (fitI 5 i)) ∧ Below w.heap.size w w' := by
 have KB := Lib.hid (below1 w (Obj.cells #[.int .i64 i.op, .int .i64 i.d, .int .i64 i.s, .int .u16 i.imm, .int .u16 i.aux, .int .i64 i.bank, .int .i64 i.size] 68))
 obtain ⟨u0, u1⟩ := hi
 have HE : Hid (∀ V, Calls Tryz.prog 89 #[.int .u8 (i.imm % 256)] V fun e w' => e = .returned (.int .u16 (extI (i.imm % 256))) ∧ V = w') := Lib.hid fun V => extend_any _ V (mod_bd i.imm).1 (mod_bd i.imm).2
 have HR : Hid (fitI 5 i = (extI (i.imm % 256) == i.imm)) := Lib.hid (by simp [fitI])
 have KC : Hid (∀ V, Below (w.alloc (Obj.cells #[.int .i64 i.op, .int .i64 i.d, .int .i64 i.s, .int .u16 i.imm, .int .u16 i.aux, .int .i64 i.bank, .int .i64 i.size] 68)).heap.size (w.alloc (Obj.cells #[.int .i64 i.op, .int .i64 i.d, .int .i64 i.s, .int .u16 i.imm, .int .u16 i.aux, .int .i64 i.bank, .int .i64 i.size] 68)) V → V.cell? ⟨w.heap.size, 3, none⟩ = some (.int .u16 i.imm)) := Lib.hid fun V hV => (hV.cell (p := ⟨w.heap.size, 3, none⟩) (by simp)).trans (by simp [go_sem])
 have KF := Lib.hid (below1 w (Obj.cells #[.int .i64 i.op, .int .i64 i.d, .int .i64 i.s, .int .u16 i.imm, .int .u16 i.aux, .int .i64 i.bank, .int .i64 i.size] 68))
 go_enter Tryz.func90, Tryz.ntmps90
 go_upto_region 12 with (fail)
 have hx : IntKind.u8.wrap i.imm = i.imm % 256 := by rw [IntKind.wrap_u8]
 clear KB
 generalize w.alloc _ = W1 at *
 refine wp_region_flow (S := fun V => Below W1.heap.size W1 V) (by kernel_rfl) (by kernel_rfl) (Below.drew (Below.refl _ _)) ?_
 iterate 3
  apply Flow.step
  ·intro V K hS hK
   obtain c0 := KC.out V hS
   go_simp
   exact hK _ hS
  simp only [lQ]
 apply Flow.step
 ·intro V K hS hK
  go_simp
  go_at_call 89
  refine (HE.out V).mono ?_
  rintro e w9 ⟨rfl, rfl⟩
  exact hK _ (hS)
 simp only [lQ]
 iterate 4
  apply Flow.step
  ·intro V K hS hK
   obtain c0 := KC.out V hS
   go_simp
   exact hK _ hS
  simp only [lQ]
 refine Flow.done ?_
 intro V hS
 clear hx
 have HV := Lib.hid (below_next KF.out hS)
 clear hS
 go_wp2
 go_ret
 exact ⟨ret_bool HR.out.symm, HV.out⟩
theorem fits_any (f : Int) (i : InsI) (w : World) (h0 : 0 ≤ f) (h9 : f ≤ 9) (hi : 0 ≤ i.imm ∧ i.imm < 65536) : Calls Tryz.prog 90 #[.int .i64 f, .agg #[.int .i64 i.op, .int .i64 i.d, .int .i64 i.s, .int .u16 i.imm, .int .u16 i.aux, .int .i64 i.bank, .int .i64 i.size]] w fun e w' => e = .returned (.bool (fitI f i)) ∧ Below w.heap.size w w' := by
 rcases (show f = 0 ∨ f = 1 ∨ f = 2 ∨ f = 3 ∨ f = 4 ∨ f = 5 ∨ f = 6 ∨ f = 7 ∨ f = 8 ∨ f = 9 by omega) with rfl | rfl | rfl | rfl | rfl | rfl | rfl | rfl | rfl | rfl
 ·exact fits_0 i w hi
 ·exact fits_1 i w hi
 ·exact fits_2 i w hi
 ·exact fits_3 i w hi
 ·exact fits_4 i w hi
 ·exact fits_5 i w hi
 ·exact fits_6 i w hi
 ·exact fits_7 i w hi
 ·exact fits_8 i w hi
 ·exact fits_9 i w hi
end Go.Proofs.YtieaicdihingkaaGreat
