/- step: one instruction, or the trap that prevents it. -/
import Derived.Test.YtieaicdihingkaaGreatK19
import Derived.Test.YtieaicdihingkaaGreatK18
import Derived.Test.YtieaicdihingkaaGreatFlowU
namespace Go.Proofs.YtieaicdihingkaaGreat
set_option linter.unusedVariables false
set_option linter.unusedSimpArgs false
open Go.RowKit
def stepM (E : Env) (m : Mach) : Except (Int × Int) Mach :=
 match fetchM E m with
 | .error t => .error t
 | .ok i => match execM E (addPc m i.size) i i.d.toNat i.s.toNat with
  | .error t => .error t
  | .ok m' => .ok { m' with steps := wrap64 (m'.steps + 1), sp := m'.st.length }
def StepPost (E : Env) (V : World) (m : Mach) (sv ov : Value) (e : Ending) (w' : World) : Prop :=
 Keeps E.base V w' ∧ match stepM E m with
 | .ok m' => e = .returned (.agg #[.int .i64 0, .int .u16 0]) ∧ ∃ sv' ov', MachAt E w' m' sv' ov'
 | .error t => e = .returned (.agg #[.int .i64 t.1, .int .u16 t.2]) ∧ MachAt E w' m sv ov
/-- What step holds behind its start. -/
structure Held (E : Env) (V W : World) (m : Mach) (sv : Value) (A C : Nat) : Prop where
 kept : Kept W m sv A C
 box : W.heap[V.heap.size]? = some (.cells #[.pointer (some ⟨E.B, 0, none⟩)] 52 (0, 0))
 res : W.heap[V.heap.size + 1]? = some (.cells #[.int .i64 0, .int .u16 0] 39 (0, 0))
theorem Held.next {E : Env} {V W W' : World} {m : Mach} {sv : Value} {A C : Nat} {base : Nat} (h : Held E V W m sv A C) (hk : Keeps base W W') : Held E V W' m sv A C :=
 ⟨⟨hk.blk _ _ h.kept.a (.inr ⟨_, _, _, rfl, by decide, by decide, by decide, by decide⟩), hk.blk _ _ h.kept.c (.inr ⟨_, _, _, rfl, by decide, by decide, by decide, by decide⟩)⟩,
  hk.blk _ _ h.box (.inr ⟨_, _, _, rfl, by decide, by decide, by decide, by decide⟩), hk.blk _ _ h.res (.inr ⟨_, _, _, rfl, by decide, by decide, by decide, by decide⟩)⟩
theorem leaves_trap {E : Env} {V W : World} {m m' : Mach} {sv sv' ov : Value} {A C : Nat} (h : Held E V W m sv A C) (hV : MachAt E V m sv ov) (hm : MachAt E W m' sv' ov) (hr : m'.ram = m.ram) (ho : m'.out = m.out) (hs : W.ownsRow E.base 22 1 sv m.st.length (m.st.map (Value.int .u16)))
  (hk : Keeps E.base V W) {k i : Int} {tmps : Array Value} (t2 : tmps[2]?.getD undef = .pointer (some ⟨V.heap.size + 1, 0, none⟩)) (hst : stepM E m = .error (k, i)) :
  Leaves Tryz.prog Tryz.f15 tmps (StepPost E V m sv ov) [{ target := Target.fn (Fn.func 23) #[Value.pointer (some ⟨A, 0, none⟩), Value.pointer (some ⟨C, 0, none⟩), Value.pointer (some ⟨V.heap.size, 0, none⟩), Value.pointer (some ⟨V.heap.size + 1, 0, none⟩)], args := #[] }]
   (.panicking [{ v := trapV k i, recovered := false }]) W := by
 refine leaves_cons (f := 23) (args := #[.pointer (some ⟨A, 0, none⟩), .pointer (some ⟨C, 0, none⟩), .pointer (some ⟨V.heap.size, 0, none⟩), .pointer (some ⟨V.heap.size + 1, 0, none⟩)]) (by simp) (by simp [go_sem]) ?_
 obtain ⟨p, c, hsv, _⟩ := own_slice hV.st
 refine (catch_trap hm hr ho hs hV.ok h.kept h.box h.res ⟨p, _, c, hsv⟩ (Nat.le_succ_of_le hV.base) k i []).mono ?_
 rintro e u' w2 ⟨rfl, rfl, hm2, hk2, ht2⟩
 have q0 := Lib.cell_of_heap ht2 0
 have q1 := Lib.cell_of_heap ht2 1
 have HRR : StepPost E V m sv ov (.returned (.agg #[.int .i64 k, .int .u16 i])) w2 := ⟨hk2 V hk (Nat.le_succ _), by rw [hst]; exact ⟨rfl, hm2⟩⟩
 clear hm2 hk2 ht2
 simp at q0 q1
 simp [Leaves, settle, results, Tryz.results15, go_sem, t2, q0, q1]
 exact HRR
theorem leaves_done {E : Env} {V W : World} {m : Mach} {sv ov : Value} {A C : Nat} {tmps : Array Value} (t2 : tmps[2]?.getD undef = .pointer (some ⟨V.heap.size + 1, 0, none⟩))
  (q0 : W.cell? ⟨V.heap.size + 1, 0, none⟩ = some (.int .i64 0)) (q1 : W.cell? ⟨V.heap.size + 1, 1, none⟩ = some (.int .u16 0)) (hR : StepPost E V m sv ov (.returned (.agg #[.int .i64 0, .int .u16 0])) W) :
  Leaves Tryz.prog Tryz.f15 tmps (StepPost E V m sv ov) [{ target := Target.fn (Fn.func 23) #[Value.pointer (some ⟨A, 0, none⟩), Value.pointer (some ⟨C, 0, none⟩), Value.pointer (some ⟨V.heap.size, 0, none⟩), Value.pointer (some ⟨V.heap.size + 1, 0, none⟩)], args := #[] }] .returning W := by
 refine leaves_cons (f := 23) (args := #[.pointer (some ⟨A, 0, none⟩), .pointer (some ⟨C, 0, none⟩), .pointer (some ⟨V.heap.size, 0, none⟩), .pointer (some ⟨V.heap.size + 1, 0, none⟩)]) (by simp) (by simp [go_sem]) ?_
 refine (catch_idle _ _ _ _ _).mono ?_
 rintro e u' w2 ⟨rfl, rfl, rfl⟩
 simp [Leaves, settle, results, Tryz.results15, go_sem, t2, q0, q1]
 exact hR
def PtrTo (W : World) (cs : Array Value) (t : TypeId) (v : Value) (V : World) : Prop := ∃ W9 : World, v = .pointer (some ⟨W9.heap.size, 0, none⟩) ∧ V = W9.alloc (.cells cs t) ∧ Below W.heap.size W W9
def putBox (m : Mach) (A : Nat) (w : World) : World := ((((((((((((((((w.setCell ⟨A, 0, none⟩ (.int .u16 (m.R 0))).setCell ⟨A, 1, none⟩ (.int .u16 (m.R 1))).setCell ⟨A, 2, none⟩ (.int .u16 (m.R 2))).setCell ⟨A, 3, none⟩ (.int .u16 (m.R 3))).setCell ⟨A, 4, none⟩ (.int .u16 (m.R 4))).setCell ⟨A, 5, none⟩ (.int .u16 (m.R 5))).setCell ⟨A, 6, none⟩ (.int .u16 (m.R 6))).setCell ⟨A, 7, none⟩ (.int .u16 (m.R 7))).setCell ⟨A, 8, none⟩ (.int .u16 m.pc)).setCell ⟨A, 9, none⟩ (.int .u16 m.sp)).setCell ⟨A, 10, none⟩ (.int .u16 m.fp)).setCell ⟨A, 11, none⟩ (.int .u16 m.f)).setCell ⟨A, 12, none⟩ (.int .i64 m.bank)).setCell ⟨A, 13, none⟩ (.int .i64 m.steps)).setCell ⟨A, 14, none⟩ (.int .i64 m.inputs)).setCell ⟨A, 15, none⟩ (.int .i64 m.polls))
theorem put_box {m : Mach} {A : Nat} {w : World} (h0 : w.heap[A]? = some (.cells #[.int .u16 0, .int .u16 0, .int .u16 0, .int .u16 0, .int .u16 0, .int .u16 0, .int .u16 0, .int .u16 0, .int .u16 0, .int .u16 0, .int .u16 0, .int .u16 0, .int .i64 0, .int .i64 0, .int .i64 0, .int .i64 0] 32 (0, 0))) : (putBox m A w).heap[A]? = some (.cells #[.int .u16 (m.R 0), .int .u16 (m.R 1), .int .u16 (m.R 2), .int .u16 (m.R 3), .int .u16 (m.R 4), .int .u16 (m.R 5), .int .u16 (m.R 6), .int .u16 (m.R 7), .int .u16 m.pc, .int .u16 m.sp, .int .u16 m.fp, .int .u16 m.f, .int .i64 m.bank, .int .i64 m.steps, .int .i64 m.inputs, .int .i64 m.polls] 32 (0, 0)) := by
 have h1 := setCell_blk (k := 0) (v := .int .u16 (m.R 0)) h0
 have h2 := setCell_blk (k := 1) (v := .int .u16 (m.R 1)) h1
 have h3 := setCell_blk (k := 2) (v := .int .u16 (m.R 2)) h2
 have h4 := setCell_blk (k := 3) (v := .int .u16 (m.R 3)) h3
 have h5 := setCell_blk (k := 4) (v := .int .u16 (m.R 4)) h4
 have h6 := setCell_blk (k := 5) (v := .int .u16 (m.R 5)) h5
 have h7 := setCell_blk (k := 6) (v := .int .u16 (m.R 6)) h6
 have h8 := setCell_blk (k := 7) (v := .int .u16 (m.R 7)) h7
 have h9 := setCell_blk (k := 8) (v := .int .u16 m.pc) h8
 have h10 := setCell_blk (k := 9) (v := .int .u16 m.sp) h9
 have h11 := setCell_blk (k := 10) (v := .int .u16 m.fp) h10
 have h12 := setCell_blk (k := 11) (v := .int .u16 m.f) h11
 have h13 := setCell_blk (k := 12) (v := .int .i64 m.bank) h12
 have h14 := setCell_blk (k := 13) (v := .int .i64 m.steps) h13
 have h15 := setCell_blk (k := 14) (v := .int .i64 m.inputs) h14
 have h16 := setCell_blk (k := 15) (v := .int .i64 m.polls) h15
 simp only [lQ] at h16
 exact h16
theorem put_box_other {m : Mach} {A : Nat} (w : World) (k : Nat) (hk : k ≠ A) : (putBox m A w).heap[k]? = w.heap[k]? := by
 unfold putBox
 have h : ∀ (W : World) (j : Nat) (v : Value), (W.setCell ⟨A, j, none⟩ v).heap[k]? = W.heap[k]? := fun W j v => Below.heap_setCell _ _ _ _ (fun e => hk e)
 simp only [h]
theorem put_box_below {m : Mach} {A : Nat} {w W0 : World} (hb : Below W0.heap.size W0 w) (hA : W0.heap.size ≤ A) : Below W0.heap.size W0 (putBox m A w) := by
 unfold putBox
 have h : ∀ {W : World} (j : Nat) (v : Value), Below W0.heap.size W0 W → Below W0.heap.size W0 (W.setCell ⟨A, j, none⟩ v) := fun j v hw => hw.setCell hA v
 repeat' (refine h _ _ ?_)
 exact hb
theorem wrap_i64_bd (x : Int) : -9223372036854775808 ≤ wrap64 x ∧ wrap64 x ≤ 9223372036854775807 := by
 unfold wrap64; omega
set_option maxRecDepth 20000 in
set_option maxHeartbeats 8000000 in
theorem step_any {E : Env} {V : World} {m : Mach} {sv ov : Value} (h : MachAt E V m sv ov) (ho : m.out.length < 1000000000000) : Calls Tryz.prog 15 #[.pointer (some ⟨E.B, 0, none⟩)] V (StepPost E V m sv ov) := by
 have hmf : ∀ (fn : Fn) (first cap : Array Value) (w : World), (Instr.makeFunc fn first cap).run Tryz.prog w = .ok (.func fn first cap) w := fun _ _ _ _ => rfl
 have H := Lib.hid h
 have HO : Hid (m.out.length < 1000000000000) := Lib.hid ho
 obtain ⟨sp, sc, rfl, _⟩ := own_slice h.st
 have hb0 := below_alloc (below1 V (Obj.cells #[.pointer (some ⟨E.B, 0, none⟩)] 52)) (Obj.cells #[.int .i64 0, .int .u16 0] 39)
 have HB0 := Lib.hid hb0
 have HM0 := Lib.hid (h.next hb0)
 have HN0 : Hid (((V.alloc (Obj.cells #[.pointer (some ⟨E.B, 0, none⟩)] 52)).alloc (Obj.cells #[.int .i64 0, .int .u16 0] 39)).heap[V.heap.size]? = some (.cells #[.pointer (some ⟨E.B, 0, none⟩)] 52 (0, 0))) := Lib.hid (blk_mid1 V _ _)
 have HT0 : Hid (((V.alloc (Obj.cells #[.pointer (some ⟨E.B, 0, none⟩)] 52)).alloc (Obj.cells #[.int .i64 0, .int .u16 0] 39)).heap[V.heap.size + 1]? = some (.cells #[.int .i64 0, .int .u16 0] 39 (0, 0))) := Lib.hid (by
  have h9 := alloc_at (V.alloc (Obj.cells #[.pointer (some ⟨E.B, 0, none⟩)] 52)) (Obj.cells #[.int .i64 0, .int .u16 0] 39)
  rw [World.size_alloc] at h9
  exact h9)
 clear h ho hb0
 go_enter_defers Tryz.func15, Tryz.ntmps15
 go_upto_region 1 with (fail)
 generalize (V.alloc _).alloc _ = W0 at *
 have KC : Hid (∀ W, Below W0.heap.size W0 W → W.cell? ⟨V.heap.size, 0, none⟩ = some (.pointer (some ⟨E.B, 0, none⟩)) ∧ MachAt E W m (.slice sp m.st.length sc) ov) := Lib.hid fun W hW => ⟨Lib.cell_of_heap ((hW.block _ (Array.getElem?_eq_some_iff.1 HN0.out).1).trans HN0.out) 0, HM0.out.next hW⟩
 refine' wp_region_flowU (S := fun w => Below W0.heap.size W0 w) [0, 1, 2, 3, 8, 9] [10, 11] [[], [(6, 0)], [(7, 1)], [(8, 2)], [], [(10, 4)], [(11, 5)], [(12, 6)], [], [], [(3, 8), (9, 3)], [(4, 9), (13, 7)]] [(6, 0), (7, 1), (8, 2), (9, 3), (10, 4), (11, 5), (12, 6), (13, 7), (3, 8), (4, 9)] (relL [eqV _, eqV _, eqV _, eqV _, eqV _, eqV _, eqV _, eqV _, PtrTo W0 #[.int .u16 0, .int .u16 0, .int .u16 0, .int .u16 0, .int .u16 0, .int .u16 0, .int .u16 0, .int .u16 0, .int .u16 0, .int .u16 0, .int .u16 0, .int .u16 0, .int .i64 0, .int .i64 0, .int .i64 0, .int .i64 0] 32, PtrTo W0 #[.slice none 0 0] 33, fun v V => True, fun v V => True]) [(10, _), (11, _)] (by kernel_rfl) (by kernel_rfl) rfl ?_ ?_ ?_
 rotate_left 8
 ·refine FlowU.mem (by decide) ?_ ?_
  ·intro VV hV
   simp only [Dep, lQ]
   intro K hK
   obtain ⟨n0, hm⟩ := KC.out _ hV
   obtain a0 := hm.cell 7 _ rfl
   obtain a1 := hm.cell 8 _ rfl
   obtain a2 := hm.cell 9 _ rfl
   obtain a3 := hm.cell 10 _ rfl
   obtain a4 := hm.cell 11 _ rfl
   obtain a5 := hm.cell 12 _ rfl
   obtain a6 := hm.cell 13 _ rfl
   obtain a7 := hm.cell 14 _ rfl
   obtain a8 := hm.cell 15 _ rfl
   obtain a9 := hm.cell 16 _ rfl
   obtain a10 := hm.cell 17 _ rfl
   obtain a11 := hm.cell 18 _ rfl
   obtain a12 := hm.cell 19 _ rfl
   obtain a13 := hm.cell 20 _ rfl
   obtain a14 := hm.cell 21 _ rfl
   obtain a15 := hm.cell 22 _ rfl
   obtain c24 := hm.cell 24 _ rfl
   go_simp
   refine hK _ _ ?_ (Below.refl _ _)
   simp only [lR]
   exact rfl
  iterate 3
   refine FlowU.mem (by decide) ?_ ?_
   ·intro VV hV
    simp only [Dep, lQ]
    repeat rintro _ ⟨_, rfl, _⟩
    intro K hK
    obtain ⟨n0, hm⟩ := KC.out _ hV
    obtain a0 := hm.cell 7 _ rfl
    obtain a1 := hm.cell 8 _ rfl
    obtain a2 := hm.cell 9 _ rfl
    obtain a3 := hm.cell 10 _ rfl
    obtain a4 := hm.cell 11 _ rfl
    obtain a5 := hm.cell 12 _ rfl
    obtain a6 := hm.cell 13 _ rfl
    obtain a7 := hm.cell 14 _ rfl
    obtain a8 := hm.cell 15 _ rfl
    obtain a9 := hm.cell 16 _ rfl
    obtain a10 := hm.cell 17 _ rfl
    obtain a11 := hm.cell 18 _ rfl
    obtain a12 := hm.cell 19 _ rfl
    obtain a13 := hm.cell 20 _ rfl
    obtain a14 := hm.cell 21 _ rfl
    obtain a15 := hm.cell 22 _ rfl
    obtain c24 := hm.cell 24 _ rfl
    go_simp
    refine hK _ _ ?_ (Below.refl _ _)
    simp only [lR]
    exact rfl
  iterate 4
   refine FlowU.val (by decide) _ (fun _ _ => Iff.rfl) ?_ ?_
   ·simp only [DepP, lQ]
    repeat rintro _ ⟨_, rfl⟩
    intro V K hV hK
    obtain ⟨n0, hm⟩ := KC.out _ hV
    obtain a0 := hm.cell 7 _ rfl
    obtain a1 := hm.cell 8 _ rfl
    obtain a2 := hm.cell 9 _ rfl
    obtain a3 := hm.cell 10 _ rfl
    obtain a4 := hm.cell 11 _ rfl
    obtain a5 := hm.cell 12 _ rfl
    obtain a6 := hm.cell 13 _ rfl
    obtain a7 := hm.cell 14 _ rfl
    obtain a8 := hm.cell 15 _ rfl
    obtain a9 := hm.cell 16 _ rfl
    obtain a10 := hm.cell 17 _ rfl
    obtain a11 := hm.cell 18 _ rfl
    obtain a12 := hm.cell 19 _ rfl
    obtain a13 := hm.cell 20 _ rfl
    obtain a14 := hm.cell 21 _ rfl
    obtain a15 := hm.cell 22 _ rfl
    obtain c24 := hm.cell 24 _ rfl
    go_simp
    exact hK
  refine FlowU.mem (by decide) ?_ ?_
  ·intro VV hV
   simp only [Dep, lQ]
   intro K hK
   go_simp
   exact hK _ _ ⟨VV, rfl, rfl, hV⟩ (below1 _ _)
  refine FlowU.mem (by decide) ?_ ?_
  ·intro VV hV
   simp only [Dep, lQ]
   intro K hK
   go_simp
   exact hK _ _ ⟨VV, rfl, rfl, hV⟩ (below1 _ _)
  refine FlowU.store (by decide) rfl ?_
  refine FlowU.store (by decide) rfl ?_
  exact FlowU.nil
 ·exact fun w h => h
 ·intro VV hV
  simp only [Dep, lQ]
  rintro x6 ⟨V6, rfl, hb6⟩
  rintro x7 ⟨V7, rfl, hb7⟩
  rintro x8 ⟨V8, rfl, hb8⟩
  rintro x9 ⟨V9, rfl, hb9⟩
  rintro x10 ⟨V10, rfl, hb10⟩
  rintro x11 ⟨V11, rfl, hb11⟩
  rintro x12 ⟨V12, rfl, hb12⟩
  rintro x13 ⟨V13, rfl, hb13⟩
  rintro x3 ⟨V3, ⟨WA, rfl, rfl, hwA⟩, hb3⟩
  rintro x4 ⟨V4, ⟨WC, rfl, rfl, hwC⟩, hb4⟩
  have hA0 : VV.heap[WA.heap.size]? = some (.cells #[.int .u16 0, .int .u16 0, .int .u16 0, .int .u16 0, .int .u16 0, .int .u16 0, .int .u16 0, .int .u16 0, .int .u16 0, .int .u16 0, .int .u16 0, .int .u16 0, .int .i64 0, .int .i64 0, .int .i64 0, .int .i64 0] 32 (0, 0)) := (hb3.block _ (by simp)).trans (alloc_at WA _)
  have hC0 : VV.heap[WC.heap.size]? = some (.cells #[.slice none 0 0] 33 (0, 0)) := (hb4.block _ (by simp)).trans (alloc_at WC _)
  have hAW := hwA.size
  have hCW := hwC.size
  clear hb3 hb4 hwA hwC
  generalize WA.heap.size = A at *
  generalize WC.heap.size = C at *
  have HBV := Lib.hid hV
  have HA0 := Lib.hid hA0
  have HC0 := Lib.hid hC0
  have hne : C ≠ A := fun e => by rw [e, hA0] at hC0; simp at hC0
  have HNE := Lib.hid hne
  clear hne hV
  have a0 := Lib.cell_of_heap hA0 0
  have f0 : VV.frozen? ⟨A, 0, none⟩ = false := by unfold World.frozen?; rw [hA0]; simp
  have a1 := Lib.cell_of_heap hA0 1
  have f1 : VV.frozen? ⟨A, 1, none⟩ = false := by unfold World.frozen?; rw [hA0]; simp
  have a2 := Lib.cell_of_heap hA0 2
  have f2 : VV.frozen? ⟨A, 2, none⟩ = false := by unfold World.frozen?; rw [hA0]; simp
  have a3 := Lib.cell_of_heap hA0 3
  have f3 : VV.frozen? ⟨A, 3, none⟩ = false := by unfold World.frozen?; rw [hA0]; simp
  have a4 := Lib.cell_of_heap hA0 4
  have f4 : VV.frozen? ⟨A, 4, none⟩ = false := by unfold World.frozen?; rw [hA0]; simp
  have a5 := Lib.cell_of_heap hA0 5
  have f5 : VV.frozen? ⟨A, 5, none⟩ = false := by unfold World.frozen?; rw [hA0]; simp
  have a6 := Lib.cell_of_heap hA0 6
  have f6 : VV.frozen? ⟨A, 6, none⟩ = false := by unfold World.frozen?; rw [hA0]; simp
  have a7 := Lib.cell_of_heap hA0 7
  have f7 : VV.frozen? ⟨A, 7, none⟩ = false := by unfold World.frozen?; rw [hA0]; simp
  have a8 := Lib.cell_of_heap hA0 8
  have f8 : VV.frozen? ⟨A, 8, none⟩ = false := by unfold World.frozen?; rw [hA0]; simp
  have a9 := Lib.cell_of_heap hA0 9
  have f9 : VV.frozen? ⟨A, 9, none⟩ = false := by unfold World.frozen?; rw [hA0]; simp
  have a10 := Lib.cell_of_heap hA0 10
  have f10 : VV.frozen? ⟨A, 10, none⟩ = false := by unfold World.frozen?; rw [hA0]; simp
  have a11 := Lib.cell_of_heap hA0 11
  have f11 : VV.frozen? ⟨A, 11, none⟩ = false := by unfold World.frozen?; rw [hA0]; simp
  have a12 := Lib.cell_of_heap hA0 12
  have f12 : VV.frozen? ⟨A, 12, none⟩ = false := by unfold World.frozen?; rw [hA0]; simp
  have a13 := Lib.cell_of_heap hA0 13
  have f13 : VV.frozen? ⟨A, 13, none⟩ = false := by unfold World.frozen?; rw [hA0]; simp
  have a14 := Lib.cell_of_heap hA0 14
  have f14 : VV.frozen? ⟨A, 14, none⟩ = false := by unfold World.frozen?; rw [hA0]; simp
  have a15 := Lib.cell_of_heap hA0 15
  have f15 : VV.frozen? ⟨A, 15, none⟩ = false := by unfold World.frozen?; rw [hA0]; simp
  simp at a0 a1 a2 a3 a4 a5 a6 a7 a8 a9 a10 a11 a12 a13 a14 a15
  clear hA0 hC0
  refine ⟨HBV.out, ?_⟩
  intro K1 hK1
  go_simp
  refine hK1 undef _ ?_
  clear hK1 K1 a0 f0 a1 f1 a2 f2 a3 f3 a4 f4 a5 f5 a6 f6 a7 f7 a8 f8 a9 f9 a10 f10 a11 f11 a12 f12 a13 f13 a14 f14 a15 f15
  simp only [Act.put]
  have HAW := Lib.hid hAW
  have HCW := Lib.hid hCW
  have hp := put_box (m := m) HA0.out
  have hpo := fun k hk => put_box_other (m := m) (A := A) VV k hk
  have hpb := put_box_below (m := m) HBV.out hAW
  unfold putBox at hp hpo hpb
  generalize World.setCell _ _ _ = V5 at *
  clear hAW hCW
  have HB5 := Lib.hid hpb
  have HA5 := Lib.hid hp
  have HC5 := Lib.hid ((hpo C HNE.out).trans HC0.out)
  clear hp hpo hpb
  have c0 : V5.cell? ⟨C, 0, none⟩ = some (.slice none 0 0) := Lib.cell_of_heap HC5.out 0
  have f0 : V5.frozen? ⟨C, 0, none⟩ = false := by unfold World.frozen?; rw [HC5.out]; simp
  refine ⟨HB5.out, ?_⟩
  intro K1 hK1
  go_simp
  refine hK1 undef _ ?_
  clear hK1 K1 c0 f0
  simp only [Act.put]
  have HB6 : Hid (Below W0.heap.size W0 (V5.setCell ⟨C, 0, none⟩ (.slice sp m.st.length sc))) := Lib.hid (HB5.out.setCell HCW.out _)
  have HH6 : Hid (Held E V (V5.setCell ⟨C, 0, none⟩ (.slice sp m.st.length sc)) m (.slice sp m.st.length sc) A C) := Lib.hid ⟨⟨(Below.heap_setCell _ _ _ _ (fun e => HNE.out e.symm)).trans HA5.out, setCell_blk HC5.out⟩, (HB6.out.block _ (Array.getElem?_eq_some_iff.1 HN0.out).1).trans HN0.out, (HB6.out.block _ (Array.getElem?_eq_some_iff.1 HT0.out).1).trans HT0.out⟩
  generalize V5.setCell _ _ = V6 at *
  refine ⟨HB6.out, ?_⟩
  have HM6 := Lib.hid (HM0.out.next HB6.out)
  have HK6 := Lib.hid (Keeps.of_below (base := E.base) (below_next HB0.out HB6.out))
  clear HB5 HA5 HC5 HB6 HA0 HC0 HBV HNE HAW HCW KC HB0 HM0 HN0 HT0
  have n0 : V6.cell? ⟨V.heap.size, 0, none⟩ = some (.pointer (some ⟨E.B, 0, none⟩)) := Lib.cell_of_heap HH6.out.box 0
  go_wp2_with fail
  refine (fetch_any HM6.out).mono ?_
  intro e w3 hf
  unfold FetchPost at hf
  cases hfm : fetchM E m with
  | error t =>
   rw [hfm] at hf
   obtain ⟨rfl, hb⟩ := hf
   exact leaves_trap (HH6.out.next (Keeps.of_below (base := E.base) hb)) H.out (HM6.out.next hb) rfl rfl (own_next HM6.out.st hb) (HK6.out.trans (Keeps.of_below hb)) rfl (by unfold stepM; rw [hfm])
  | ok i =>
   rw [hfm] at hf
   obtain ⟨rfl, hb⟩ := hf
   have hin := fetch_in hfm
   have HIN := Lib.hid hin
   have HFM := Lib.hid hfm
   obtain ⟨d, hd⟩ : ∃ d : Nat, i.d = d := ⟨i.d.toNat, by have := hin.d; omega⟩
   obtain ⟨s, hs⟩ : ∃ s : Nat, i.s = s := ⟨i.s.toNat, by have := hin.s; omega⟩
   have HD : Hid (d < 8) := Lib.hid (by have := hin.d; omega)
   have HS : Hid (s < 8) := Lib.hid (by have := hin.s; omega)
   obtain ⟨op, di, si, imm, aux, bank, size⟩ := i
   dsimp only at hd hs
   subst hd hs
   simp only [InsI.cells]
   have HM3 := Lib.hid (HM6.out.next hb)
   have HH3 := Lib.hid (HH6.out.next (Keeps.of_below (base := E.base) hb))
   have HK3 := Lib.hid (HK6.out.trans (Keeps.of_below hb))
   have HI4 : Hid (InsAt (w3.alloc (Obj.cells #[.int .i64 op, .int .i64 (d : Int), .int .i64 (s : Int), .int .u16 imm, .int .u16 aux, .int .i64 bank, .int .i64 size] 68)) w3.heap.size ⟨op, d, s, imm, aux, bank, size⟩) := Lib.hid (alloc_at w3 _)
   have HB4 := Lib.hid (below1 w3 (Obj.cells #[.int .i64 op, .int .i64 (d : Int), .int .i64 (s : Int), .int .u16 imm, .int .u16 aux, .int .i64 bank, .int .i64 size] 68))
   have HM4 := Lib.hid (HM3.out.next HB4.out)
   have HH4 := Lib.hid (HH3.out.next (Keeps.of_below (base := E.base) HB4.out))
   have HK4 := Lib.hid (HK3.out.trans (Keeps.of_below HB4.out))
   have hsz := hin.size
   dsimp only at hsz
   have q1 : IntKind.u16.wrap size = size := by rw [IntKind.wrap_u16]; omega
   have q2 : IntKind.u16.wrap (m.pc + size) = (m.pc + size) % 65536 := by rw [IntKind.wrap_u16]
   clear hb hin hfm hsz n0
   go_upto_region 4 with (fail)
   generalize w3.alloc _ = W4 at *
   have KN : Hid (∀ W, Keeps E.base W4 W → W.cell? ⟨V.heap.size, 0, none⟩ = some (.pointer (some ⟨E.B, 0, none⟩)) ∧ InsAt W w3.heap.size ⟨op, d, s, imm, aux, bank, size⟩) := Lib.hid fun W hW => ⟨Lib.cell_of_heap (HH4.out.next hW).box 0, HI4.out.keep hW⟩
   refine' wp_region_flowR [[], [(17, 0)], [(18, 1)], [(19, 2)], [(20, 3)], [], [(22, 5)], [(23, 6)], [(21, 4), (24, 7)], [(17, 0)], [(26, 9)], [(27, 10)], [(17, 0), (18, 1), (19, 2), (20, 3), (21, 4), (22, 5), (23, 6), (24, 7), (25, 8), (26, 9), (27, 10), (28, 11)]] (relL [eqV _, eqV _, eqV _, eqV _, eqV _, eqV _, eqV _, eqV _, eqV _, eqV _, eqV _, eqV _]) (by kernel_rfl) (by kernel_rfl) ?_
   rotate_left 12
   iterate 12
    refine FlowR.step ?_ ?_
    ·intro V3 hV
     simp only [Dep, lQ]
     repeat rintro _ ⟨_, rfl, _⟩
     intro K hK
     obtain ⟨n0, hi4⟩ := KN.out _ (Keeps.of_below hV)
     obtain ⟨i0, i1, i2, i3, i4, i5, i6⟩ := hi4.cells
     obtain c15 := (HM4.out.next hV).cell 15 _ rfl
     go_simp
     refine hK _ _ ?_ (Below.refl _ _)
     simp only [lR]
     exact rfl
   refine FlowR.last ?_
   intro V3 hV
   simp only [Dep, lQ]
   rintro x17 ⟨V17, rfl, hb17⟩
   rintro x18 ⟨V18, rfl, hb18⟩
   rintro x19 ⟨V19, rfl, hb19⟩
   rintro x20 ⟨V20, rfl, hb20⟩
   rintro x21 ⟨V21, rfl, hb21⟩
   rintro x22 ⟨V22, rfl, hb22⟩
   rintro x23 ⟨V23, rfl, hb23⟩
   rintro x24 ⟨V24, rfl, hb24⟩
   rintro x25 ⟨V25, rfl, hb25⟩
   rintro x26 ⟨V26, rfl, hb26⟩
   rintro x27 ⟨V27, rfl, hb27⟩
   rintro x28 ⟨V28, rfl, hb28⟩
   intro K hK
   have hM5 := HM4.out.next hV
   have c15 := hM5.cell 15 _ rfl
   have z15 := hM5.frz 15
   go_simp
   refine hK _ _ ?_
   have HM5 : Hid (MachAt E (V3.setCell ⟨E.B, 15, none⟩ (.int .u16 ((m.pc + size) % 65536))) (addPc m size) (.slice sp m.st.length sc) ov) := Lib.hid (hM5.setPc (by unfold OkU16; omega))
   have HK5 := Lib.hid ((Keeps.of_below hV).trans (hM5.putK 15 (.int .u16 ((m.pc + size) % 65536))))
   clear hM5 c15 z15 hV hK q1 q2
   generalize V3.setCell _ _ = W5 at *
   have HH5 := Lib.hid (HH4.out.next HK5.out)
   obtain ⟨n0, hi4⟩ := KN.out _ HK5.out
   obtain ⟨i0, i1, i2, i3, i4, i5, i6⟩ := hi4.cells
   dsimp only at i0 i1 i2 i3 i4 i5 i6
   go_wp2_with fail
   refine (exec_any HM5.out ⟨op, d, s, imm, aux, bank, size⟩ d s rfl rfl HD.out HS.out HIN.out.imm HIN.out.aux HIN.out.bank HO.out).mono ?_
   clear i0 i1 i2 i3 i4 i5 i6
   intro e w7 hdone
   have hst : stepM E m = match execM E (addPc m size) ⟨op, d, s, imm, aux, bank, size⟩ d s with | .error t => .error t | .ok m' => .ok { m' with steps := wrap64 (m'.steps + 1), sp := m'.st.length } := by
    unfold stepM; rw [HFM.out]; rfl
   have HST := Lib.hid hst
   clear hst
   generalize execM E (addPc m size) ⟨op, d, s, imm, aux, bank, size⟩ d s = r at *
   rcases r with t | m'
   ·obtain ⟨rfl, htt⟩ := hdone
    obtain ⟨⟨m9, sv9, hm9, hr9, ho9⟩, hs9, hk9⟩ := htt
    exact leaves_trap (HH5.out.next hk9) H.out hm9 hr9 ho9 hs9 ((HK4.out.trans HK5.out).trans hk9) rfl (by rw [HST.out])
   ·obtain ⟨rfl, ⟨sv7, ov7, hm7⟩, hk7⟩ := hdone
    have HM7 := Lib.hid hm7
    have HK7 := Lib.hid ((HK4.out.trans HK5.out).trans hk7)
    have HH7 := Lib.hid (HH5.out.next hk7)
    clear hm7 hk7 n0
    have n0 : w7.cell? ⟨V.heap.size, 0, none⟩ = some (.pointer (some ⟨E.B, 0, none⟩)) := Lib.cell_of_heap HH7.out.box 0
    have c20 := HM7.out.cell 20 _ rfl
    have z20 := HM7.out.frz 20
    go_upto_region 7 with (fail)
    have HM8 := Lib.hid (HM7.out.setSteps (x := wrap64 (m'.steps + 1)) (by unfold OkI64; exact wrap_i64_bd _))
    have HK8 := Lib.hid (HM7.out.putK 20 (.int .i64 (wrap64 (m'.steps + 1))))
    have HH8 := Lib.hid (HH7.out.next HK8.out)
    clear n0 c20 z20
    generalize w7.setCell _ _ = W8 at *
    obtain ⟨p8, c8, hsv8, _⟩ := own_slice HM8.out.st
    have hl8 : m'.st.length ≤ 4096 := HM8.out.ok.len
    have x1 : IntKind.u16.wrap (m'.st.length : Int) = m'.st.length := by rw [IntKind.wrap_u16]; omega
    have KN8 : Hid (∀ W, Keeps E.base W8 W → W.cell? ⟨V.heap.size, 0, none⟩ = some (.pointer (some ⟨E.B, 0, none⟩))) := Lib.hid fun W hW => Lib.cell_of_heap (HH8.out.next hW).box 0
    have K24 : Hid (∀ W, Below W8.heap.size W8 W → W.cell? ⟨E.B, 24, none⟩ = some (.slice p8 m'.st.length c8)) := Lib.hid fun W hW => by
     have h9 := (HM8.out.next hW).cell 24 _ rfl
     rw [hsv8] at h9
     exact h9
    have HL8 := Lib.hid hl8
    clear hsv8 hl8
    refine' wp_region_flowR [[], [], [(42, 1)], [(43, 2)], [(44, 3)], [(45, 4)], [(46, 5)], [(41, 0)], [(48, 7)], [(49, 8)], [(41, 0), (42, 1), (43, 2), (44, 3), (45, 4), (46, 5), (47, 6), (48, 7), (49, 8), (50, 9)]] (relL [eqV _, eqV _, eqV _, eqV _, eqV _, eqV _, eqV _, eqV _, eqV _, eqV _]) (by kernel_rfl) (by kernel_rfl) ?_
    rotate_left 10
    iterate 10
     refine FlowR.step ?_ ?_
     ·intro V3 hV
      simp only [Dep, lQ]
      repeat rintro _ ⟨_, rfl, _⟩
      intro K hK
      obtain n0 := KN8.out _ (Keeps.of_below hV)
      obtain c24 := K24.out _ hV
      go_simp
      refine hK _ _ ?_ (Below.refl _ _)
      simp only [lR]
      exact rfl
    refine FlowR.last ?_
    intro V3 hV
    simp only [Dep, lQ]
    rintro x41 ⟨V41, rfl, hb41⟩
    rintro x42 ⟨V42, rfl, hb42⟩
    rintro x43 ⟨V43, rfl, hb43⟩
    rintro x44 ⟨V44, rfl, hb44⟩
    rintro x45 ⟨V45, rfl, hb45⟩
    rintro x46 ⟨V46, rfl, hb46⟩
    rintro x47 ⟨V47, rfl, hb47⟩
    rintro x48 ⟨V48, rfl, hb48⟩
    rintro x49 ⟨V49, rfl, hb49⟩
    rintro x50 ⟨V50, rfl, hb50⟩
    intro K hK
    have hM9 := HM8.out.next hV
    have c16 := hM9.cell 16 _ rfl
    have z16 := hM9.frz 16
    go_simp
    refine hK _ _ ?_
    have HM9 := Lib.hid (hM9.setSp (x := (m'.st.length : Int)) (by unfold OkU16; have := HL8.out; omega))
    have HK9 := Lib.hid ((Keeps.of_below hV).trans (hM9.putK 16 (.int .u16 (m'.st.length : Int))))
    have HH9 := Lib.hid (HH8.out.next HK9.out)
    clear hM9 c16 z16 hV hK x1
    generalize V3.setCell _ _ = W9 at *
    have t0 : W9.cell? ⟨V.heap.size + 1, 0, none⟩ = some (.int .i64 0) := Lib.cell_of_heap HH9.out.res 0
    have t1 : W9.cell? ⟨V.heap.size + 1, 1, none⟩ = some (.int .u16 0) := Lib.cell_of_heap HH9.out.res 1
    have u0 : W9.frozen? ⟨V.heap.size + 1, 0, none⟩ = false := by unfold World.frozen?; rw [HH9.out.res]; simp
    have u1 : W9.frozen? ⟨V.heap.size + 1, 1, none⟩ = false := by unfold World.frozen?; rw [HH9.out.res]; simp
    go_wp2_with fail
    have hT1 := setCell_blk (k := 0) (v := .int .i64 0) HH9.out.res
    have hT2 := setCell_blk (k := 1) (v := .int .u16 0) hT1
    have hTB : E.base ≤ V.heap.size + 1 := Nat.le_succ_of_le H.out.base
    refine leaves_done rfl (Lib.cell_of_heap hT2 0) (Lib.cell_of_heap hT2 1) ⟨((((HK7.out.trans HK8.out).trans HK9.out).mask (Nat.le_succ _)).mask (Nat.le_succ _)), ?_⟩
    rw [HST.out]
    exact ⟨rfl, _, _, ((HM9.out.other HH9.out.res (by decide) (by decide) hTB).other hT1 (by decide) (by decide) hTB)⟩
end Go.Proofs.YtieaicdihingkaaGreat
