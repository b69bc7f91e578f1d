/- isa.put: the bytes of a field that fits. -/
import Derived.Test.YtieaicdihingkaaGreatC6
namespace Go.Proofs.YtieaicdihingkaaGreat
set_option linter.unusedVariables false
set_option linter.unusedSimpArgs false
open Go.RowKit
def putL (f : Int) (i : InsI) : List Int :=
 if f = 1 then [16 * i.d + i.s] else if f = 2 then [i.d] else if f = 3 then [i.s] else if f = 4 ∨ f = 5 then [i.imm % 256]
 else if f = 6 then [i.imm % 256, i.imm / 256] else if f = 7 then [i.aux % 256, i.aux / 256] else if f = 8 ∨ f = 9 then [i.bank] else []
structure InsI.Ok (i : InsI) : Prop where
 m0 : 0 ≤ i.imm
 m1 : i.imm < 65536
 a0 : 0 ≤ i.aux
 a1 : i.aux < 65536
def PutPost (l : List Int) (w : World) (e : Ending) (w' : World) : Prop :=
 ((l = [] ∧ e = .returned (.slice none 0 0)) ∨ (∃ g c, e = .returned (.slice (some ⟨g, 0, none⟩) l.length c) ∧ w.heap.size ≤ g ∧ ∀ j u, (l.map (Value.int .u8))[j]? = some u → w'.cell? ((⟨g, 0, none⟩ : Addr).add j) = some u)) ∧ Below w.heap.size w w'
theorem put_row {w : World} {o : Obj} {cs : Array Value} {l : List Int} (n : Nat) (hl : l.length = n) (hc : cs.toList = l.map (Value.int .u8)) : PutPost l w (.returned (.slice (some ⟨w.heap.size + 1, 0, none⟩) n n)) ((w.alloc o).alloc (.cells cs 5)) := by
 refine ⟨.inr ⟨_, _, by rw [hl], by omega, fun j u hu => ?_⟩, below_alloc (below1 w o) _⟩
 rw [show (⟨w.heap.size + 1, 0, none⟩ : Addr).add j = ⟨w.heap.size + 1, j, none⟩ from by unfold Addr.add; split <;> simp_all]
 have h := alloc_at (w.alloc o) (.cells cs 5)
 rw [show (w.alloc o).heap.size = w.heap.size + 1 by simp] at h
 rw [Lib.cell_of_heap h, ← Array.getElem?_toList, hc]
 exact hu
theorem shr8 (x : Int) (h0 : 0 ≤ x) (h1 : x < 65536) : IntKind.u8.wrap (x / 256) = x / 256 := by rw [IntKind.wrap_u8]; omega
set_option maxRecDepth 8000 in
set_option maxHeartbeats 4000000 in
theorem put_0 (i : InsI) (w : World) (hi : i.Ok) (h : fitI 0 i = true) : Calls Tryz.prog 91 #[.int .i64 0, .agg #[.int .i64 i.op, .int .i64 i.d, .int .i64 i.s, .int .u16 i.imm, .int .u16 i.aux, .int .i64 i.bank, .int .i64 i.size]] w (PutPost (putL 0 i) w) := by
 obtain ⟨u0, u1, v0, v1⟩ := hi

 clear h u0 u1 v0 v1
 go_enter Tryz.func91, Tryz.ntmps91
 go_wp2_with fail
 go_ret
 exact ⟨.inl ⟨rfl, rfl⟩, below1 _ _⟩
set_option maxRecDepth 8000 in
set_option maxHeartbeats 4000000 in
theorem put_1 (i : InsI) (w : World) (hi : i.Ok) (h : fitI 1 i = true) : Calls Tryz.prog 91 #[.int .i64 1, .agg #[.int .i64 i.op, .int .i64 i.d, .int .i64 i.s, .int .u16 i.imm, .int .u16 i.aux, .int .i64 i.bank, .int .i64 i.size]] w (PutPost (putL 1 i) w) := by
 obtain ⟨u0, u1, v0, v1⟩ := hi
 simp [fitI, regI] at h
 have x1 : IntKind.i64.wrap (16 * i.d) = 16 * i.d := IntWalk.i64_in _ (by omega)
 have x2 : IntKind.i64.wrap (16 * i.d + i.s) = 16 * i.d + i.s := IntWalk.i64_in _ (by omega)
 have x3 : IntKind.u8.wrap (16 * i.d + i.s) = 16 * i.d + i.s := by rw [IntKind.wrap_u8]; omega
 clear h u0 u1 v0 v1
 go_enter Tryz.func91, Tryz.ntmps91
 go_wp2_with fail
 go_ret
 exact put_row 1 rfl rfl
set_option maxRecDepth 8000 in
set_option maxHeartbeats 4000000 in
theorem put_2 (i : InsI) (w : World) (hi : i.Ok) (h : fitI 2 i = true) : Calls Tryz.prog 91 #[.int .i64 2, .agg #[.int .i64 i.op, .int .i64 i.d, .int .i64 i.s, .int .u16 i.imm, .int .u16 i.aux, .int .i64 i.bank, .int .i64 i.size]] w (PutPost (putL 2 i) w) := by
 obtain ⟨u0, u1, v0, v1⟩ := hi
 simp [fitI, regI] at h
 have x3 : IntKind.u8.wrap (i.d) = i.d := by rw [IntKind.wrap_u8]; omega
 clear h u0 u1 v0 v1
 go_enter Tryz.func91, Tryz.ntmps91
 go_wp2_with fail
 go_ret
 exact put_row 1 rfl rfl
set_option maxRecDepth 8000 in
set_option maxHeartbeats 4000000 in
theorem put_3 (i : InsI) (w : World) (hi : i.Ok) (h : fitI 3 i = true) : Calls Tryz.prog 91 #[.int .i64 3, .agg #[.int .i64 i.op, .int .i64 i.d, .int .i64 i.s, .int .u16 i.imm, .int .u16 i.aux, .int .i64 i.bank, .int .i64 i.size]] w (PutPost (putL 3 i) w) := by
 obtain ⟨u0, u1, v0, v1⟩ := hi
 simp [fitI, regI] at h
 have x3 : IntKind.u8.wrap (i.s) = i.s := by rw [IntKind.wrap_u8]; omega
 clear h u0 u1 v0 v1
 go_enter Tryz.func91, Tryz.ntmps91
 go_wp2_with fail
 go_ret
 exact put_row 1 rfl rfl
set_option maxRecDepth 8000 in
set_option maxHeartbeats 4000000 in
theorem put_8 (i : InsI) (w : World) (hi : i.Ok) (h : fitI 8 i = true) : Calls Tryz.prog 91 #[.int .i64 8, .agg #[.int .i64 i.op, .int .i64 i.d, .int .i64 i.s, .int .u16 i.imm, .int .u16 i.aux, .int .i64 i.bank, .int .i64 i.size]] w (PutPost (putL 8 i) w) := by
 obtain ⟨u0, u1, v0, v1⟩ := hi
 simp [fitI, regI] at h
 have x3 : IntKind.u8.wrap (i.bank) = i.bank := by rw [IntKind.wrap_u8]; omega
 clear h u0 u1 v0 v1
 go_enter Tryz.func91, Tryz.ntmps91
 go_wp2_with fail
 go_ret
 exact put_row 1 rfl rfl
set_option maxRecDepth 8000 in
set_option maxHeartbeats 4000000 in
theorem put_9 (i : InsI) (w : World) (hi : i.Ok) (h : fitI 9 i = true) : Calls Tryz.prog 91 #[.int .i64 9, .agg #[.int .i64 i.op, .int .i64 i.d, .int .i64 i.s, .int .u16 i.imm, .int .u16 i.aux, .int .i64 i.bank, .int .i64 i.size]] w (PutPost (putL 9 i) w) := by
 obtain ⟨u0, u1, v0, v1⟩ := hi
 simp [fitI, regI] at h
 have x3 : IntKind.u8.wrap (i.bank) = i.bank := by rw [IntKind.wrap_u8]; omega
 clear h u0 u1 v0 v1
 go_enter Tryz.func91, Tryz.ntmps91
 go_wp2_with fail
 go_ret
 exact put_row 1 rfl rfl
set_option maxRecDepth 8000 in
set_option maxHeartbeats 4000000 in
theorem put_4 (i : InsI) (w : World) (hi : i.Ok) (h : fitI 4 i = true) : Calls Tryz.prog 91 #[.int .i64 4, .agg #[.int .i64 i.op, .int .i64 i.d, .int .i64 i.s, .int .u16 i.imm, .int .u16 i.aux, .int .i64 i.bank, .int .i64 i.size]] w (PutPost (putL 4 i) w) := by
 obtain ⟨u0, u1, v0, v1⟩ := hi
 have x3 : IntKind.u8.wrap i.imm = i.imm % 256 := by rw [IntKind.wrap_u8]
 clear h u0 u1 v0 v1
 go_enter Tryz.func91, Tryz.ntmps91
 go_wp2_with fail
 go_ret
 exact put_row 1 rfl rfl
set_option maxRecDepth 8000 in
set_option maxHeartbeats 4000000 in
theorem put_5 (i : InsI) (w : World) (hi : i.Ok) (h : fitI 5 i = true) : Calls Tryz.prog 91 #[.int .i64 5, .agg #[.int .i64 i.op, .int .i64 i.d, .int .i64 i.s, .int .u16 i.imm, .int .u16 i.aux, .int .i64 i.bank, .int .i64 i.size]] w (PutPost (putL 5 i) w) := by
 obtain ⟨u0, u1, v0, v1⟩ := hi
 have x3 : IntKind.u8.wrap i.imm = i.imm % 256 := by rw [IntKind.wrap_u8]
 clear h u0 u1 v0 v1
 go_enter Tryz.func91, Tryz.ntmps91
 go_wp2_with fail
 go_ret
 exact put_row 1 rfl rfl
set_option maxRecDepth 8000 in
set_option maxHeartbeats 4000000 in
theorem put_6 (i : InsI) (w : World) (hi : i.Ok) (h : fitI 6 i = true) : Calls Tryz.prog 91 #[.int .i64 6, .agg #[.int .i64 i.op, .int .i64 i.d, .int .i64 i.s, .int .u16 i.imm, .int .u16 i.aux, .int .i64 i.bank, .int .i64 i.size]] w (PutPost (putL 6 i) w) := by
 obtain ⟨u0, u1, v0, v1⟩ := hi
 have x3 : IntKind.u8.wrap i.imm = i.imm % 256 := by rw [IntKind.wrap_u8]
 have x4 : IntKind.u8.wrap (i.imm / 256) = i.imm / 256 := shr8 _ (by omega) (by omega)
 clear h u0 u1 v0 v1
 go_enter Tryz.func91, Tryz.ntmps91
 go_wp2_with fail
 go_ret
 exact put_row 2 rfl rfl
set_option maxRecDepth 8000 in
set_option maxHeartbeats 4000000 in
theorem put_7 (i : InsI) (w : World) (hi : i.Ok) (h : fitI 7 i = true) : Calls Tryz.prog 91 #[.int .i64 7, .agg #[.int .i64 i.op, .int .i64 i.d, .int .i64 i.s, .int .u16 i.imm, .int .u16 i.aux, .int .i64 i.bank, .int .i64 i.size]] w (PutPost (putL 7 i) w) := by
 obtain ⟨u0, u1, v0, v1⟩ := hi
 have x3 : IntKind.u8.wrap i.aux = i.aux % 256 := by rw [IntKind.wrap_u8]
 have x4 : IntKind.u8.wrap (i.aux / 256) = i.aux / 256 := shr8 _ (by omega) (by omega)
 clear h u0 u1 v0 v1
 go_enter Tryz.func91, Tryz.ntmps91
 go_wp2_with fail
 go_ret
 exact put_row 2 rfl rfl
theorem put_any (f : Int) (i : InsI) (w : World) (h0 : 0 ≤ f) (h9 : f ≤ 9) (hi : i.Ok) (h : fitI f i = true) : Calls Tryz.prog 91 #[.int .i64 f, .agg #[.int .i64 i.op, .int .i64 i.d, .int .i64 i.s, .int .u16 i.imm, .int .u16 i.aux, .int .i64 i.bank, .int .i64 i.size]] w (PutPost (putL f i) w) := by
 rcases (show f = 0 ∨ f = 1 ∨ f = 2 ∨ f = 3 ∨ f = 4 ∨ f = 5 ∨ f = 6 ∨ f = 7 ∨ f = 8 ∨ f = 9 by omega) with rfl | rfl | rfl | rfl | rfl | rfl | rfl | rfl | rfl | rfl
 ·exact put_0 i w hi h
 ·exact put_1 i w hi h
 ·exact put_2 i w hi h
 ·exact put_3 i w hi h
 ·exact put_4 i w hi h
 ·exact put_5 i w hi h
 ·exact put_6 i w hi h
 ·exact put_7 i w hi h
 ·exact put_8 i w hi h
 ·exact put_9 i w hi h
end Go.Proofs.YtieaicdihingkaaGreat
