/- step: the closure that restores the state behind a trap. -/
import Derived.Test.YtieaicdihingkaaGreatK17
import Derived.Test.YtieaicdihingkaaGreatK18
import Derived.RegionTactic
import Derived.ChangeAlike
import Derived.Defers
import Derived.Recover
import Derived.WalkLawsBesides
import Derived.BigRegion
namespace Go.Proofs.YtieaicdihingkaaGreat
set_option linter.unusedVariables false
set_option linter.unusedSimpArgs false
open Go.RowKit
theorem wpS_hide {P : Program} {Q : Exit → Act → List Frame → World → Prop} {a : Act} {cs : List Frame} {w : World} {c : Code}
  (h : ∀ R : Exit → Act → World → Prop, Hid (∀ e a' w', Q e a' cs w' → R e a' w') → c.wp P R a w) : c.wpS P Q a cs w :=
 wpS_of_wp (h _ (fun _ _ _ h => h))
theorem catch_idle (p q r s : Addr) (w : World) :
  CallsD Tryz.prog 23 #[.pointer (some p), .pointer (some q), .pointer (some r), .pointer (some s)] .returning w fun e u' w' => e = .returned (.tuple #[]) ∧ u' = .returning ∧ w' = w := by
 refine callsD_of_wpS Tryz.func23 rfl fun c₀ cs hu => ?_
 simp only [Tryz.ntmps23, List.size_toArray, List.length_cons, List.length_nil, Nat.reduceAdd, Nat.reduceSub, Array.replicate_succ, Array.replicate_zero, List.push_toArray, List.append_toArray, List.nil_append, List.cons_append]
 apply wpS_seq
 apply wpS_region
 simp [wpOpsS, go_sem, recoverD, hu, Exit.thenS]
 refine wpS_hide fun R HR => ?_
 go_wp2
 refine HR.out _ _ _ ?_
 cases c₀
 simp_all [bodyPostS, results, Tryz.results23, Exit.thenS]
/-- The machine's words and its stack's header, stored anew. -/
def putState (E : Env) (m : Mach) (sv : Value) (w : World) : World := ((((((((((((((((w.setCell ⟨E.B, 7, none⟩ (.int .u16 (m.R 0))).setCell ⟨E.B, 8, none⟩ (.int .u16 (m.R 1))).setCell ⟨E.B, 9, none⟩ (.int .u16 (m.R 2))).setCell ⟨E.B, 10, none⟩ (.int .u16 (m.R 3))).setCell ⟨E.B, 11, none⟩ (.int .u16 (m.R 4))).setCell ⟨E.B, 12, none⟩ (.int .u16 (m.R 5))).setCell ⟨E.B, 13, none⟩ (.int .u16 (m.R 6))).setCell ⟨E.B, 14, none⟩ (.int .u16 (m.R 7))).setCell ⟨E.B, 15, none⟩ (.int .u16 m.pc)).setCell ⟨E.B, 16, none⟩ (.int .u16 m.sp)).setCell ⟨E.B, 17, none⟩ (.int .u16 m.fp)).setCell ⟨E.B, 18, none⟩ (.int .u16 m.f)).setCell ⟨E.B, 19, none⟩ (.int .i64 m.bank)).setCell ⟨E.B, 20, none⟩ (.int .i64 m.steps)).setCell ⟨E.B, 21, none⟩ (.int .i64 m.inputs)).setCell ⟨E.B, 22, none⟩ (.int .i64 m.polls)).setCell ⟨E.B, 24, none⟩ sv
theorem restore_at {E : Env} {w : World} {m m' : Mach} {sv sv' ov : Value} (h : MachAt E w m' sv' ov) (hr : m'.ram = m.ram) (ho : m'.out = m.out) (hs : w.ownsRow E.base 22 1 sv m.st.length (m.st.map (Value.int .u16))) (ok : m.Ok) :
  MachAt E (putState E m sv w) m sv ov ∧ Keeps E.base w (putState E m sv w) := by
 have k0 := Keeps.refl E.base w
 have s0 := hs
 have h0 := h
 have h1 := h0.setReg 0 (by decide) (ok.R 0)
 have k1 := k0.trans (h0.putK 7 (.int .u16 (m.R 0)))
 have s1 := own_set' (j := 7) (u := .int .u16 (m.R 0)) s0 h0.blk (by decide)
 have h2 := h1.setReg 1 (by decide) (ok.R 1)
 have k2 := k1.trans (h1.putK 8 (.int .u16 (m.R 1)))
 have s2 := own_set' (j := 8) (u := .int .u16 (m.R 1)) s1 h1.blk (by decide)
 have h3 := h2.setReg 2 (by decide) (ok.R 2)
 have k3 := k2.trans (h2.putK 9 (.int .u16 (m.R 2)))
 have s3 := own_set' (j := 9) (u := .int .u16 (m.R 2)) s2 h2.blk (by decide)
 have h4 := h3.setReg 3 (by decide) (ok.R 3)
 have k4 := k3.trans (h3.putK 10 (.int .u16 (m.R 3)))
 have s4 := own_set' (j := 10) (u := .int .u16 (m.R 3)) s3 h3.blk (by decide)
 have h5 := h4.setReg 4 (by decide) (ok.R 4)
 have k5 := k4.trans (h4.putK 11 (.int .u16 (m.R 4)))
 have s5 := own_set' (j := 11) (u := .int .u16 (m.R 4)) s4 h4.blk (by decide)
 have h6 := h5.setReg 5 (by decide) (ok.R 5)
 have k6 := k5.trans (h5.putK 12 (.int .u16 (m.R 5)))
 have s6 := own_set' (j := 12) (u := .int .u16 (m.R 5)) s5 h5.blk (by decide)
 have h7 := h6.setReg 6 (by decide) (ok.R 6)
 have k7 := k6.trans (h6.putK 13 (.int .u16 (m.R 6)))
 have s7 := own_set' (j := 13) (u := .int .u16 (m.R 6)) s6 h6.blk (by decide)
 have h8 := h7.setReg 7 (by decide) (ok.R 7)
 have k8 := k7.trans (h7.putK 14 (.int .u16 (m.R 7)))
 have s8 := own_set' (j := 14) (u := .int .u16 (m.R 7)) s7 h7.blk (by decide)
 have h9 := h8.setPc ok.pc
 have k9 := k8.trans (h8.putK 15 (.int .u16 m.pc))
 have s9 := own_set' (j := 15) (u := .int .u16 m.pc) s8 h8.blk (by decide)
 have h10 := h9.setSp ok.sp
 have k10 := k9.trans (h9.putK 16 (.int .u16 m.sp))
 have s10 := own_set' (j := 16) (u := .int .u16 m.sp) s9 h9.blk (by decide)
 have h11 := h10.setFp ok.fp
 have k11 := k10.trans (h10.putK 17 (.int .u16 m.fp))
 have s11 := own_set' (j := 17) (u := .int .u16 m.fp) s10 h10.blk (by decide)
 have h12 := h11.setF ok.f
 have k12 := k11.trans (h11.putK 18 (.int .u16 m.f))
 have s12 := own_set' (j := 18) (u := .int .u16 m.f) s11 h11.blk (by decide)
 have h13 := h12.setBank ok.bank
 have k13 := k12.trans (h12.putK 19 (.int .i64 m.bank))
 have s13 := own_set' (j := 19) (u := .int .i64 m.bank) s12 h12.blk (by decide)
 have h14 := h13.setSteps ok.steps
 have k14 := k13.trans (h13.putK 20 (.int .i64 m.steps))
 have s14 := own_set' (j := 20) (u := .int .i64 m.steps) s13 h13.blk (by decide)
 have h15 := h14.setInp ok.inputs
 have k15 := k14.trans (h14.putK 21 (.int .i64 m.inputs))
 have s15 := own_set' (j := 21) (u := .int .i64 m.inputs) s14 h14.blk (by decide)
 have h16 := h15.setPolls ok.polls
 have k16 := k15.trans (h15.putK 22 (.int .i64 m.polls))
 have s16 := own_set' (j := 22) (u := .int .i64 m.polls) s15 h15.blk (by decide)
 refine ⟨?_, k16.trans (h16.putK 24 sv)⟩
 refine h16.put 24 sv rfl hr.symm s16 ?_ ok
 have h17 := h16.out
 rw [← ho]
 exact h17
theorem MachAt.other {E : Env} {V : World} {m : Mach} {sv ov : Value} (h : MachAt E V m sv ov) {T j : Nat} {c : Array Value} {t : TypeId} {f : Nat × Nat} {v : Value} (hT : V.heap[T]? = some (.cells c t f)) (h1 : t ≠ 63 ∧ t ≠ 5) (h2 : t ≠ 22 ∧ t ≠ 51) (hb : E.base ≤ T) : MachAt E (V.setCell ⟨T, j, none⟩ v) m sv ov := by
 have hs : ∀ k o, V.heap[k]? = some o → k ≠ T → (V.setCell ⟨T, j, none⟩ v).heap[k]? = some o := fun k o hk hne => (Below.heap_setCell _ _ _ _ (fun e => hne e)).trans hk
 have hlow : ∀ B k u, B < E.base → V.cell? ⟨B, k, none⟩ = some u → (V.setCell ⟨T, j, none⟩ v).cell? ⟨B, k, none⟩ = some u := fun B k u hB hc => by
  rw [World.cell?_setCell_other _ _ _ _ (fun e => by injection e with e1; omega)]; exact hc
 obtain ⟨cur, hrr, hrs, hrc⟩ := h.ram
 refine ⟨hs _ _ h.blk (fun e => ?_), ⟨cur, hs _ _ hrr (fun e => ?_), hrs, hrc⟩, own_set' h.st hT h2.1, own_set' h.out hT h2.2, ?_, ?_, ?_, h.ok, h.env⟩
 ·rw [← e, h.blk] at hT
  simp only [Option.some.injEq, Obj.cells.injEq] at hT
  exact h1.1 hT.2.1.symm
 ·rw [← e, hrr] at hT
  simp only [Option.some.injEq, Obj.cells.injEq] at hT
  exact h1.2 hT.2.1.symm
 ·intro k s hk
  obtain ⟨B, e, hB, hc, hs⟩ := h.bnk k s hk
  exact ⟨B, e, hB, hlow _ _ _ hB hc, hs⟩
 ·intro k s hk
  obtain ⟨B, off, e, hB, hc⟩ := h.inp k s hk
  exact ⟨B, off, e, hB, hlow _ _ _ hB hc⟩
 ·intro k s hk
  obtain ⟨B, off, e, hB, hc⟩ := h.irq k s hk
  exact ⟨B, off, e, hB, hlow _ _ _ hB hc⟩
theorem Keeps.mask {base : Nat} {V w : World} (h : Keeps base V w) {T j : Nat} {v : Value} (hT : V.heap.size ≤ T) : Keeps base V (w.setCell ⟨T, j, none⟩ v) :=
 ⟨h.os, h.tape, h.output, by simpa using h.size, fun k o h1 h2 => (Below.heap_setCell _ _ _ _ (fun e => by have := (Array.getElem?_eq_some_iff.1 h1).1; simp only at e; omega)).trans (h.blk k o h1 h2)⟩
/-- The state before the instruction, in its two boxes. -/
structure Kept (w : World) (m : Mach) (sv : Value) (A C : Nat) : Prop where
 a : w.heap[A]? = some (.cells #[.int .u16 (m.R 0), .int .u16 (m.R 1), .int .u16 (m.R 2), .int .u16 (m.R 3), .int .u16 (m.R 4), .int .u16 (m.R 5), .int .u16 (m.R 6), .int .u16 (m.R 7), .int .u16 m.pc, .int .u16 m.sp, .int .u16 m.fp, .int .u16 m.f, .int .i64 m.bank, .int .i64 m.steps, .int .i64 m.inputs, .int .i64 m.polls] 32 (0, 0))
 c : w.heap[C]? = some (.cells #[sv] 33 (0, 0))
set_option maxRecDepth 20000 in
set_option maxHeartbeats 4000000 in
theorem catch_trap {E : Env} {w : World} {m m' : Mach} {sv sv' ov : Value} (h : MachAt E w m' sv' ov) (hr : m'.ram = m.ram) (ho : m'.out = m.out) (hs : w.ownsRow E.base 22 1 sv m.st.length (m.st.map (Value.int .u16))) (ok : m.Ok)
  {A C N T : Nat} (hk : Kept w m sv A C) (hN : w.heap[N]? = some (.cells #[.pointer (some ⟨E.B, 0, none⟩)] 52 (0, 0))) (hT : w.heap[T]? = some (.cells #[.int .i64 0, .int .u16 0] 39 (0, 0))) (hsv : ∃ p n c, sv = .slice p n c) (hTB : E.base ≤ T) (k i : Int) (older : List PanicEntry) :
  CallsD Tryz.prog 23 #[.pointer (some ⟨A, 0, none⟩), .pointer (some ⟨C, 0, none⟩), .pointer (some ⟨N, 0, none⟩), .pointer (some ⟨T, 0, none⟩)] (.panicking ({ v := trapV k i, recovered := false } :: older)) w fun x u' w' =>
   x = .returned (.tuple #[]) ∧ u' = .panicking ({ v := trapV k i, recovered := true } :: older) ∧ MachAt E w' m sv ov ∧ (∀ V, Keeps E.base V w → V.heap.size ≤ T → Keeps E.base V w') ∧ w'.heap[T]? = some (.cells #[.int .i64 k, .int .u16 i] 39 (0, 0)) := by
 have hta : ∀ w : World, (Instr.typeAssert (Value.iface 65 (Value.agg #[Value.int IntKind.i64 k, Value.int IntKind.u16 i])) 20 65 true).run Tryz.prog w = .ok (.tuple #[Value.agg #[Value.int IntKind.i64 k, Value.int IntKind.u16 i], .bool true]) w := fun _ => by kernel_rfl
 have HB := Lib.hid (below1 w (Obj.cells #[Value.int IntKind.i64 k, Value.int IntKind.u16 i] 65))
 have HM := Lib.hid (h.next HB.out)
 have HST := Lib.hid (own_next hs HB.out)
 have HKA := Lib.hid ((HB.out.block A (Array.getElem?_eq_some_iff.1 hk.a).1).trans hk.a)
 have HKC := Lib.hid ((HB.out.block C (Array.getElem?_eq_some_iff.1 hk.c).1).trans hk.c)
 have HNN := Lib.hid ((HB.out.block N (Array.getElem?_eq_some_iff.1 hN).1).trans hN)
 have HTT := Lib.hid ((HB.out.block T (Array.getElem?_eq_some_iff.1 hT).1).trans hT)
 have HX : Hid ((w.alloc (Obj.cells #[Value.int IntKind.i64 k, Value.int IntKind.u16 i] 65)).heap[w.heap.size]? = some (.cells #[Value.int IntKind.i64 k, Value.int IntKind.u16 i] 65 (0, 0))) := Lib.hid (alloc_at w _)
 have HRR := Lib.hid hr
 have HOO := Lib.hid ho
 have HOK := Lib.hid ok
 have HTB := Lib.hid hTB
 clear h hr ho hs ok hk hN hT hTB
 obtain ⟨sp, sn, sc, rfl⟩ := hsv
 refine callsD_of_wpS Tryz.func23 rfl fun c₀ cs hu => ?_
 simp only [Tryz.ntmps23, List.size_toArray, List.length_cons, List.length_nil, Nat.reduceAdd, Nat.reduceSub, Array.replicate_succ, Array.replicate_zero, List.push_toArray, List.append_toArray, List.nil_append, List.cons_append]
 apply wpS_seq
 apply wpS_region
 simp [wpOpsS, go_sem, recoverD, hu, Exit.thenS]
 refine wpS_hide fun R HR => ?_
 go_upto_region 5 with (fail)
 clear hta
 generalize w.alloc _ = W1 at *
 have a0 : W1.cell? ⟨A, 0, none⟩ = some (.int .u16 (m.R 0)) := Lib.cell_of_heap HKA.out 0
 have a1 : W1.cell? ⟨A, 1, none⟩ = some (.int .u16 (m.R 1)) := Lib.cell_of_heap HKA.out 1
 have a2 : W1.cell? ⟨A, 2, none⟩ = some (.int .u16 (m.R 2)) := Lib.cell_of_heap HKA.out 2
 have a3 : W1.cell? ⟨A, 3, none⟩ = some (.int .u16 (m.R 3)) := Lib.cell_of_heap HKA.out 3
 have a4 : W1.cell? ⟨A, 4, none⟩ = some (.int .u16 (m.R 4)) := Lib.cell_of_heap HKA.out 4
 have a5 : W1.cell? ⟨A, 5, none⟩ = some (.int .u16 (m.R 5)) := Lib.cell_of_heap HKA.out 5
 have a6 : W1.cell? ⟨A, 6, none⟩ = some (.int .u16 (m.R 6)) := Lib.cell_of_heap HKA.out 6
 have a7 : W1.cell? ⟨A, 7, none⟩ = some (.int .u16 (m.R 7)) := Lib.cell_of_heap HKA.out 7
 have a8 : W1.cell? ⟨A, 8, none⟩ = some (.int .u16 m.pc) := Lib.cell_of_heap HKA.out 8
 have a9 : W1.cell? ⟨A, 9, none⟩ = some (.int .u16 m.sp) := Lib.cell_of_heap HKA.out 9
 have a10 : W1.cell? ⟨A, 10, none⟩ = some (.int .u16 m.fp) := Lib.cell_of_heap HKA.out 10
 have a11 : W1.cell? ⟨A, 11, none⟩ = some (.int .u16 m.f) := Lib.cell_of_heap HKA.out 11
 have a12 : W1.cell? ⟨A, 12, none⟩ = some (.int .i64 m.bank) := Lib.cell_of_heap HKA.out 12
 have a13 : W1.cell? ⟨A, 13, none⟩ = some (.int .i64 m.steps) := Lib.cell_of_heap HKA.out 13
 have a14 : W1.cell? ⟨A, 14, none⟩ = some (.int .i64 m.inputs) := Lib.cell_of_heap HKA.out 14
 have a15 : W1.cell? ⟨A, 15, none⟩ = some (.int .i64 m.polls) := Lib.cell_of_heap HKA.out 15
 have c0 : W1.cell? ⟨C, 0, none⟩ = some (.slice sp sn sc) := Lib.cell_of_heap HKC.out 0
 have n0 : W1.cell? ⟨N, 0, none⟩ = some (.pointer (some ⟨E.B, 0, none⟩)) := Lib.cell_of_heap HNN.out 0
 have y7 := HM.out.cell 7 _ rfl
 have z7 := HM.out.frz 7
 have y8 := HM.out.cell 8 _ rfl
 have z8 := HM.out.frz 8
 have y9 := HM.out.cell 9 _ rfl
 have z9 := HM.out.frz 9
 have y10 := HM.out.cell 10 _ rfl
 have z10 := HM.out.frz 10
 have y11 := HM.out.cell 11 _ rfl
 have z11 := HM.out.frz 11
 have y12 := HM.out.cell 12 _ rfl
 have z12 := HM.out.frz 12
 have y13 := HM.out.cell 13 _ rfl
 have z13 := HM.out.frz 13
 have y14 := HM.out.cell 14 _ rfl
 have z14 := HM.out.frz 14
 have y15 := HM.out.cell 15 _ rfl
 have z15 := HM.out.frz 15
 have y16 := HM.out.cell 16 _ rfl
 have z16 := HM.out.frz 16
 have y17 := HM.out.cell 17 _ rfl
 have z17 := HM.out.frz 17
 have y18 := HM.out.cell 18 _ rfl
 have z18 := HM.out.frz 18
 have y19 := HM.out.cell 19 _ rfl
 have z19 := HM.out.frz 19
 have y20 := HM.out.cell 20 _ rfl
 have z20 := HM.out.frz 20
 have y21 := HM.out.cell 21 _ rfl
 have z21 := HM.out.frz 21
 have y22 := HM.out.cell 22 _ rfl
 have z22 := HM.out.frz 22
 have y24 := HM.out.cell 24 _ rfl
 have z24 := HM.out.frz 24
 go_upto_region 6 with (fail)
 clear a0 a1 a2 a3 a4 a5 a6 a7 a8 a9 a10 a11 a12 a13 a14 a15 c0 n0
 clear y7 y8 y9 y10 y11 y12 y13 y14 y15 y16 y17 y18 y19 y20 y21 y22 y24 z7 z8 z9 z10 z11 z12 z13 z14 z15 z16 z17 z18 z19 z20 z21 z22 z24
 have hres := restore_at HM.out HRR.out HOO.out HST.out HOK.out
 unfold putState at hres
 generalize World.setCell _ _ _ = W2 at hres ⊢
 obtain ⟨hm2, hk2⟩ := hres
 have HM2 := Lib.hid hm2
 have HK2 := Lib.hid hk2
 have HX2 := Lib.hid (hk2.blk _ _ HX.out (.inr ⟨_, _, _, rfl, by decide, by decide, by decide, by decide⟩))
 have HT2 := Lib.hid (hk2.blk _ _ HTT.out (.inr ⟨_, _, _, rfl, by decide, by decide, by decide, by decide⟩))
 clear hm2 hk2
 have x0 : W2.cell? ⟨w.heap.size, 0, none⟩ = some (.int .i64 k) := Lib.cell_of_heap HX2.out 0
 have x1 : W2.cell? ⟨w.heap.size, 1, none⟩ = some (.int .u16 i) := Lib.cell_of_heap HX2.out 1
 have t0 : W2.cell? ⟨T, 0, none⟩ = some (.int .i64 0) := Lib.cell_of_heap HT2.out 0
 have t1 : W2.cell? ⟨T, 1, none⟩ = some (.int .u16 0) := Lib.cell_of_heap HT2.out 1
 have u0 : W2.frozen? ⟨T, 0, none⟩ = false := by unfold World.frozen?; rw [HT2.out]; simp
 have u1 : W2.frozen? ⟨T, 1, none⟩ = false := by unfold World.frozen?; rw [HT2.out]; simp
 go_wp2_with fail
 refine HR.out _ _ _ ?_
 cases c₀
 simp [bodyPostS, results, Tryz.results23]
 refine ⟨?_, ?_, ?_⟩
 ·exact (HM2.out.other HT2.out (by decide) (by decide) HTB.out).other (setCell_blk HT2.out) (by decide) (by decide) HTB.out
 ·intro V hV hVT
  exact ((((hV.trans (Keeps.of_below HB.out)).trans HK2.out).mask hVT).mask hVT)
 ·rw [setCell_blk (setCell_blk HT2.out)]
  rfl
end Go.Proofs.YtieaicdihingkaaGreat
