/- Run: from a state given as a value. -/
import Derived.Test.YtieaicdihingkaaGreatK24
namespace Go.Proofs.YtieaicdihingkaaGreat
set_option linter.unusedVariables false
set_option linter.unusedSimpArgs false
open Go.RowKit
theorem fetchL_env (E : Env) (B g b : Nat) (m : Mach) : ∀ k, fetchL { E with B := B, ramB := g, base := b } m k = fetchL E m k
 | 0 => rfl
 | k + 1 => by
  unfold fetchL
  rw [fetchL_env E B g b m k]
  rfl
theorem fetchM_env (E : Env) (B g b : Nat) (m : Mach) : fetchM { E with B := B, ramB := g, base := b } m = fetchM E m := by
 unfold fetchM
 simp only [fetchL_env]
theorem execM_env (E : Env) (B g b : Nat) (m : Mach) (i : InsI) (d s : Nat) : execM { E with B := B, ramB := g, base := b } m i d s = execM E m i d s := rfl
theorem stepM_env (E : Env) (B g b : Nat) (m : Mach) : stepM { E with B := B, ramB := g, base := b } m = stepM E m := by
 unfold stepM
 simp only [fetchM_env, execM_env]
theorem runM_env (E : Env) (B g b : Nat) : ∀ (k : Nat) (m : Mach), runM { E with B := B, ramB := g, base := b } k m = runM E k m
 | 0, _ => rfl
 | k + 1, m => by
  unfold runM
  rw [stepM_env]
  simp only [runM_env E B g b k]
theorem wpList_load_row {ops : Array Oper} {rest : List Oper} {o : Oper} {a : Act} {Q : Exit → Act → World → Prop} {W : World} (t : TypeId) (x : Operand) (hgd : o.guard = none) (ho : o.op = .load t x) (N : Nat) (hx : a.eval x = .pointer (some ⟨N, 0, none⟩)) (C : Array Value) {e : TypeId}
  (hN : W.heap[N]? = some (.cells C e (0, 0))) {fs : Array Field} (hu : Tryz.prog.underlying t = some (.struct fs)) (hi : (Tryz.prog.info? t).map (·.size) = some C.size) (h : wpList Tryz.prog ops Q rest (a.put o.dst (.agg C)) W) : wpList Tryz.prog ops Q (o :: rest) a W := by
 refine wpList_plain hgd fun K hK => ?_
 have hl := run_loadVar_row (P := Tryz.prog) W N e t C (0, 0) _ hN hu rfl hi
 unfold Oper.wp execOp
 simp only [ho, hx, Instr.loadAt, Instr.sureAddr, Sem.run_bind, Sem.run_pure, Result.andThen_ok, hl]
 exact hK _ _ h
theorem info35 : (Tryz.prog.info? 29).map (·.size) = some 5 := by kernel_rfl
theorem info51 : (Tryz.prog.info? 44).map (·.size) = some 2 := by kernel_rfl
def RanPost (w : World) (r : Mach × (Int × Int)) (e : Ending) (w' : World) : Prop :=
 ∃ C : Array Value, e = .returned (.tuple #[.agg C, .agg #[.int .i64 r.2.1, .int .u16 r.2.2]]) ∧ Snapped w r.1 (ramS r.1.ram) (.agg C) w' ∧ Below w.heap.size w w'
structure Given (w W : World) (E : Env) (m : Mach) (S : ByteArray) (l : List Int) (ps po : Option Addr) (cs co : Nat) : Prop where
 i : W.heap[w.heap.size]? = some (.cells #[.slice E.pb E.banks.length E.cb, .int .u16 E.entry, .int .u16 E.vector, .slice E.pd E.nd E.cd, .slice E.pr E.nr E.cr] 29 (0, 0))
 t : W.heap[w.heap.size + 1]? = some (.cells #[.slice E.pin E.tin.length E.cin, .slice E.pirq E.tirq.length E.cirq] 44 (0, 0))
 s : W.heap[w.heap.size + 1 + 1]? = some (.cells #[.int .u16 (m.R 0), .int .u16 (m.R 1), .int .u16 (m.R 2), .int .u16 (m.R 3), .int .u16 (m.R 4), .int .u16 (m.R 5), .int .u16 (m.R 6), .int .u16 (m.R 7), .int .u16 m.pc, .int .u16 m.sp, .int .u16 m.fp, .int .u16 m.f, .int .i64 m.bank, .int .i64 m.steps, .int .i64 m.inputs, .int .i64 m.polls, .string S, .slice ps l.length cs, .slice po m.out.length co] 36 (0, 0))
 a : W.heap[w.heap.size + 1 + 1 + 1]? = some (.cells #[.int .u16 0, .int .u16 0, .int .u16 0, .int .u16 0, .int .u16 0, .int .u16 0, .int .u16 0, .int .u16 0, .int .u16 0, .int .u16 0, .int .u16 0, .int .u16 0, .int .i64 0, .int .i64 0, .int .i64 0, .int .i64 0, .string ⟨#[]⟩, .slice none 0 0, .slice none 0 0] 36 (0, 0))
 b : W.heap[w.heap.size + 1 + 1 + 1 + 1]? = some (.cells #[.int .i64 0, .int .u16 0] 39 (0, 0))
theorem blk_mid4 (W : World) (o b b2 b3 b4 : Obj) : (((((W.alloc o).alloc b).alloc b2).alloc b3).alloc b4).heap[W.heap.size]? = some o := (Below.heap_alloc _ _ _ (by simp; omega)).trans (blk_mid3 W o b b2 b3)
theorem NormIn.next {w w' : World} {E : Env} {m : Mach} {S : ByteArray} {l : List Int} {ps po : Option Addr} (h : NormIn w E m S l ps po) (hb : Below w.heap.size w w') : NormIn w' E m S l ps po := by
 have hk : Keeps w.heap.size w w' := Keeps.of_below hb
 have low : ∀ {B : Nat}, B < w.heap.size → B < w'.heap.size := fun h => Nat.lt_of_lt_of_le h hb.size
 refine ⟨fun k s hs => ?_, fun k s hs => ?_, fun k s hs => ?_, h.st.kept hb, h.out.kept hb, h.ok, h.spk, h.banks, h.entry, h.vector, h.tin, h.tirq, h.tinv, h.tirqv, h.size, h.len⟩
 ·obtain ⟨B, e, hB, hc⟩ := h.strs.keeps hk k s hs; exact ⟨B, e, low hB, hc⟩
 ·obtain ⟨B, off, e, hB, hc⟩ := h.inp.keeps hk k s hs; exact ⟨B, off, e, low hB, hc⟩
 ·obtain ⟨B, off, e, hB, hc⟩ := h.irq.keeps hk k s hs; exact ⟨B, off, e, low hB, hc⟩
set_option maxRecDepth 20000 in
set_option maxHeartbeats 8000000 in
theorem Run_any {w : World} {E : Env} {m : Mach} {S : ByteArray} {l : List Int} {ps po : Option Addr} (h : NormIn w E m S l ps po) (cs co : Nat) (hcs : l.length ≤ cs) (K : Nat) (hK : K ≤ 1000000) (ho : m.out.length + K ≤ 1000000000000) : Calls Tryz.prog 11 #[.agg #[.slice E.pb E.banks.length E.cb, .int .u16 E.entry, .int .u16 E.vector, .slice E.pd E.nd E.cd, .slice E.pr E.nr E.cr], .agg #[.slice E.pin E.tin.length E.cin, .slice E.pirq E.tirq.length E.cirq], .agg #[.int .u16 (m.R 0), .int .u16 (m.R 1), .int .u16 (m.R 2), .int .u16 (m.R 3), .int .u16 (m.R 4), .int .u16 (m.R 5), .int .u16 (m.R 6), .int .u16 (m.R 7), .int .u16 m.pc, .int .u16 m.sp, .int .u16 m.fp, .int .u16 m.f, .int .i64 m.bank, .int .i64 m.steps, .int .i64 m.inputs, .int .i64 m.polls, .string S, .slice ps l.length cs, .slice po m.out.length co], .int .i64 (K : Int)] w (RanPost w (runM E K (normM m S l))) := by
 have HB0 := Lib.hid (below_alloc (below_alloc (below_alloc (below_alloc (below1 w (Obj.cells #[.slice E.pb E.banks.length E.cb, .int .u16 E.entry, .int .u16 E.vector, .slice E.pd E.nd E.cd, .slice E.pr E.nr E.cr] 29)) (Obj.cells #[.slice E.pin E.tin.length E.cin, .slice E.pirq E.tirq.length E.cirq] 44)) (Obj.cells #[.int .u16 (m.R 0), .int .u16 (m.R 1), .int .u16 (m.R 2), .int .u16 (m.R 3), .int .u16 (m.R 4), .int .u16 (m.R 5), .int .u16 (m.R 6), .int .u16 (m.R 7), .int .u16 m.pc, .int .u16 m.sp, .int .u16 m.fp, .int .u16 m.f, .int .i64 m.bank, .int .i64 m.steps, .int .i64 m.inputs, .int .i64 m.polls, .string S, .slice ps l.length cs, .slice po m.out.length co] 36)) (Obj.cells #[.int .u16 0, .int .u16 0, .int .u16 0, .int .u16 0, .int .u16 0, .int .u16 0, .int .u16 0, .int .u16 0, .int .u16 0, .int .u16 0, .int .u16 0, .int .u16 0, .int .i64 0, .int .i64 0, .int .i64 0, .int .i64 0, .string ⟨#[]⟩, .slice none 0 0, .slice none 0 0] 36)) (Obj.cells #[.int .i64 0, .int .u16 0] 39))
 have HG0 : Hid (Given w (((((w.alloc (Obj.cells #[.slice E.pb E.banks.length E.cb, .int .u16 E.entry, .int .u16 E.vector, .slice E.pd E.nd E.cd, .slice E.pr E.nr E.cr] 29)).alloc (Obj.cells #[.slice E.pin E.tin.length E.cin, .slice E.pirq E.tirq.length E.cirq] 44)).alloc (Obj.cells #[.int .u16 (m.R 0), .int .u16 (m.R 1), .int .u16 (m.R 2), .int .u16 (m.R 3), .int .u16 (m.R 4), .int .u16 (m.R 5), .int .u16 (m.R 6), .int .u16 (m.R 7), .int .u16 m.pc, .int .u16 m.sp, .int .u16 m.fp, .int .u16 m.f, .int .i64 m.bank, .int .i64 m.steps, .int .i64 m.inputs, .int .i64 m.polls, .string S, .slice ps l.length cs, .slice po m.out.length co] 36)).alloc (Obj.cells #[.int .u16 0, .int .u16 0, .int .u16 0, .int .u16 0, .int .u16 0, .int .u16 0, .int .u16 0, .int .u16 0, .int .u16 0, .int .u16 0, .int .u16 0, .int .u16 0, .int .i64 0, .int .i64 0, .int .i64 0, .int .i64 0, .string ⟨#[]⟩, .slice none 0 0, .slice none 0 0] 36)).alloc (Obj.cells #[.int .i64 0, .int .u16 0] 39)) E m S l ps po cs co) := Lib.hid (by
  refine ⟨blk_mid4 w _ _ _ _ _, ?_, ?_, ?_, ?_⟩
  ·have h9 := blk_mid3 (w.alloc (Obj.cells #[.slice E.pb E.banks.length E.cb, .int .u16 E.entry, .int .u16 E.vector, .slice E.pd E.nd E.cd, .slice E.pr E.nr E.cr] 29)) (Obj.cells #[.slice E.pin E.tin.length E.cin, .slice E.pirq E.tirq.length E.cirq] 44) (Obj.cells #[.int .u16 (m.R 0), .int .u16 (m.R 1), .int .u16 (m.R 2), .int .u16 (m.R 3), .int .u16 (m.R 4), .int .u16 (m.R 5), .int .u16 (m.R 6), .int .u16 (m.R 7), .int .u16 m.pc, .int .u16 m.sp, .int .u16 m.fp, .int .u16 m.f, .int .i64 m.bank, .int .i64 m.steps, .int .i64 m.inputs, .int .i64 m.polls, .string S, .slice ps l.length cs, .slice po m.out.length co] 36) (Obj.cells #[.int .u16 0, .int .u16 0, .int .u16 0, .int .u16 0, .int .u16 0, .int .u16 0, .int .u16 0, .int .u16 0, .int .u16 0, .int .u16 0, .int .u16 0, .int .u16 0, .int .i64 0, .int .i64 0, .int .i64 0, .int .i64 0, .string ⟨#[]⟩, .slice none 0 0, .slice none 0 0] 36) (Obj.cells #[.int .i64 0, .int .u16 0] 39)
   rw [World.size_alloc] at h9
   exact h9
  ·have h9 := blk_mid2 ((w.alloc (Obj.cells #[.slice E.pb E.banks.length E.cb, .int .u16 E.entry, .int .u16 E.vector, .slice E.pd E.nd E.cd, .slice E.pr E.nr E.cr] 29)).alloc (Obj.cells #[.slice E.pin E.tin.length E.cin, .slice E.pirq E.tirq.length E.cirq] 44)) (Obj.cells #[.int .u16 (m.R 0), .int .u16 (m.R 1), .int .u16 (m.R 2), .int .u16 (m.R 3), .int .u16 (m.R 4), .int .u16 (m.R 5), .int .u16 (m.R 6), .int .u16 (m.R 7), .int .u16 m.pc, .int .u16 m.sp, .int .u16 m.fp, .int .u16 m.f, .int .i64 m.bank, .int .i64 m.steps, .int .i64 m.inputs, .int .i64 m.polls, .string S, .slice ps l.length cs, .slice po m.out.length co] 36) (Obj.cells #[.int .u16 0, .int .u16 0, .int .u16 0, .int .u16 0, .int .u16 0, .int .u16 0, .int .u16 0, .int .u16 0, .int .u16 0, .int .u16 0, .int .u16 0, .int .u16 0, .int .i64 0, .int .i64 0, .int .i64 0, .int .i64 0, .string ⟨#[]⟩, .slice none 0 0, .slice none 0 0] 36) (Obj.cells #[.int .i64 0, .int .u16 0] 39)
   rw [World.size_alloc, World.size_alloc] at h9
   exact h9
  ·have h9 := blk_mid1 (((w.alloc (Obj.cells #[.slice E.pb E.banks.length E.cb, .int .u16 E.entry, .int .u16 E.vector, .slice E.pd E.nd E.cd, .slice E.pr E.nr E.cr] 29)).alloc (Obj.cells #[.slice E.pin E.tin.length E.cin, .slice E.pirq E.tirq.length E.cirq] 44)).alloc (Obj.cells #[.int .u16 (m.R 0), .int .u16 (m.R 1), .int .u16 (m.R 2), .int .u16 (m.R 3), .int .u16 (m.R 4), .int .u16 (m.R 5), .int .u16 (m.R 6), .int .u16 (m.R 7), .int .u16 m.pc, .int .u16 m.sp, .int .u16 m.fp, .int .u16 m.f, .int .i64 m.bank, .int .i64 m.steps, .int .i64 m.inputs, .int .i64 m.polls, .string S, .slice ps l.length cs, .slice po m.out.length co] 36)) (Obj.cells #[.int .u16 0, .int .u16 0, .int .u16 0, .int .u16 0, .int .u16 0, .int .u16 0, .int .u16 0, .int .u16 0, .int .u16 0, .int .u16 0, .int .u16 0, .int .u16 0, .int .i64 0, .int .i64 0, .int .i64 0, .int .i64 0, .string ⟨#[]⟩, .slice none 0 0, .slice none 0 0] 36) (Obj.cells #[.int .i64 0, .int .u16 0] 39)
   rw [World.size_alloc, World.size_alloc, World.size_alloc] at h9
   exact h9
  ·have h9 := alloc_at ((((w.alloc (Obj.cells #[.slice E.pb E.banks.length E.cb, .int .u16 E.entry, .int .u16 E.vector, .slice E.pd E.nd E.cd, .slice E.pr E.nr E.cr] 29)).alloc (Obj.cells #[.slice E.pin E.tin.length E.cin, .slice E.pirq E.tirq.length E.cirq] 44)).alloc (Obj.cells #[.int .u16 (m.R 0), .int .u16 (m.R 1), .int .u16 (m.R 2), .int .u16 (m.R 3), .int .u16 (m.R 4), .int .u16 (m.R 5), .int .u16 (m.R 6), .int .u16 (m.R 7), .int .u16 m.pc, .int .u16 m.sp, .int .u16 m.fp, .int .u16 m.f, .int .i64 m.bank, .int .i64 m.steps, .int .i64 m.inputs, .int .i64 m.polls, .string S, .slice ps l.length cs, .slice po m.out.length co] 36)).alloc (Obj.cells #[.int .u16 0, .int .u16 0, .int .u16 0, .int .u16 0, .int .u16 0, .int .u16 0, .int .u16 0, .int .u16 0, .int .u16 0, .int .u16 0, .int .u16 0, .int .u16 0, .int .i64 0, .int .i64 0, .int .i64 0, .int .i64 0, .string ⟨#[]⟩, .slice none 0 0, .slice none 0 0] 36)) (Obj.cells #[.int .i64 0, .int .u16 0] 39)
   rw [World.size_alloc, World.size_alloc, World.size_alloc, World.size_alloc] at h9
   exact h9)
 have HN0 := Lib.hid (h.next HB0.out)
 have HCS := Lib.hid hcs
 have HKK := Lib.hid hK
 have HOO := Lib.hid ho
 obtain ⟨r, hr⟩ : ∃ r, runM E K (normM m S l) = r := ⟨_, rfl⟩
 rw [hr]
 obtain ⟨m9, k9, i9⟩ := r
 have HRR := Lib.hid hr
 clear h hcs hK ho hr
 go_enter Tryz.func11, Tryz.ntmps11
 go_upto_region 1 with (fail)
 generalize ((((w.alloc _).alloc _).alloc _).alloc _).alloc _ = W0 at *
 go_wp2_with (first | refine wpList_load_row 29 _ rfl rfl w.heap.size rfl #[.slice E.pb E.banks.length E.cb, .int .u16 E.entry, .int .u16 E.vector, .slice E.pd E.nd E.cd, .slice E.pr E.nr E.cr] HG0.out.i Tryz.underlying29 info35 ?_ | refine wpList_load_row 44 _ rfl rfl (w.heap.size + 1) rfl #[.slice E.pin E.tin.length E.cin, .slice E.pirq E.tirq.length E.cirq] HG0.out.t Tryz.underlying44 info51 ?_ | refine wpList_load_row 36 _ rfl rfl (w.heap.size + 1 + 1) rfl #[.int .u16 (m.R 0), .int .u16 (m.R 1), .int .u16 (m.R 2), .int .u16 (m.R 3), .int .u16 (m.R 4), .int .u16 (m.R 5), .int .u16 (m.R 6), .int .u16 (m.R 7), .int .u16 m.pc, .int .u16 m.sp, .int .u16 m.fp, .int .u16 m.f, .int .i64 m.bank, .int .i64 m.steps, .int .i64 m.inputs, .int .i64 m.polls, .string S, .slice ps l.length cs, .slice po m.out.length co] HG0.out.s Tryz.underlying36 info43 ?_)
 refine (normal_any HN0.out cs co HCS.out).mono ?_
 rintro e w3 ⟨B, g, sv, ov, rfl, hb3, hm3⟩
 have HB3 := Lib.hid hb3
 have HM3 := Lib.hid hm3
 have HG3 : Hid (Given w w3 E m S l ps po cs co) := Lib.hid (by
  obtain ⟨h1, h2, h3, h4, h5⟩ := HG0.out
  exact ⟨(hb3.block _ (Array.getElem?_eq_some_iff.1 h1).1).trans h1, (hb3.block _ (Array.getElem?_eq_some_iff.1 h2).1).trans h2, (hb3.block _ (Array.getElem?_eq_some_iff.1 h3).1).trans h3, (hb3.block _ (Array.getElem?_eq_some_iff.1 h4).1).trans h4, (hb3.block _ (Array.getElem?_eq_some_iff.1 h5).1).trans h5⟩)
 clear hb3 hm3
 go_wp2_with fail
 refine (run_any HM3.out K HKK.out HOO.out).mono ?_
 rintro e w4 ⟨C, rfl, hsn, hk4⟩
 rw [runM_env, HRR.out] at hsn
 rw [runM_env, HRR.out]
 dsimp only at hsn ⊢
 have HB4 := Lib.hid (hk4.below (by have := HB0.out.size; have := HB3.out.size; dsimp only; exact this))
 have HG4 : Hid (w4.heap[w.heap.size + 1 + 1 + 1]? = some (.cells #[.int .u16 0, .int .u16 0, .int .u16 0, .int .u16 0, .int .u16 0, .int .u16 0, .int .u16 0, .int .u16 0, .int .u16 0, .int .u16 0, .int .u16 0, .int .u16 0, .int .i64 0, .int .i64 0, .int .i64 0, .int .i64 0, .string ⟨#[]⟩, .slice none 0 0, .slice none 0 0] 36 (0, 0)) ∧ w4.heap[w.heap.size + 1 + 1 + 1 + 1]? = some (.cells #[.int .i64 0, .int .u16 0] 39 (0, 0))) := Lib.hid ⟨hk4.blk _ _ HG3.out.a (.inr ⟨_, _, _, rfl, by decide, by decide, by decide, by decide⟩), hk4.blk _ _ HG3.out.b (.inr ⟨_, _, _, rfl, by decide, by decide, by decide, by decide⟩)⟩
 obtain ⟨p1, c1, p2, c2, hC, hin⟩ := hsn
 have HSN := Lib.hid hin
 clear hk4 hin
 injection hC with hC
 subst hC
 go_wp2_with (refine wpList_store_row 36 _ _ rfl rfl (w.heap.size + 1 + 1 + 1) rfl #[.int .u16 (m9.R 0), .int .u16 (m9.R 1), .int .u16 (m9.R 2), .int .u16 (m9.R 3), .int .u16 (m9.R 4), .int .u16 (m9.R 5), .int .u16 (m9.R 6), .int .u16 (m9.R 7), .int .u16 m9.pc, .int .u16 m9.sp, .int .u16 m9.fp, .int .u16 m9.f, .int .i64 m9.bank, .int .i64 m9.steps, .int .i64 m9.inputs, .int .i64 m9.polls, .string (ramS m9.ram), .slice p1 m9.st.length c1, .slice p2 m9.out.length c2] rfl HG4.out.1 info43 rfl (by simp [Value.oneCell']) ?_; refine Hid.out ?_)
 have HBW : Hid (Below w.heap.size w w4) := Lib.hid ((below_next HB0.out HB3.out).trans (HB4.out.mono HB0.out.size))
 have HLW : Hid (w.heap.size ≤ w3.heap.size) := Lib.hid (below_next HB0.out HB3.out).size
 have HA6 := Lib.hid (setRow_heap _ _ _ #[.int .u16 (m9.R 0), .int .u16 (m9.R 1), .int .u16 (m9.R 2), .int .u16 (m9.R 3), .int .u16 (m9.R 4), .int .u16 (m9.R 5), .int .u16 (m9.R 6), .int .u16 (m9.R 7), .int .u16 m9.pc, .int .u16 m9.sp, .int .u16 m9.fp, .int .u16 m9.f, .int .i64 m9.bank, .int .i64 m9.steps, .int .i64 m9.inputs, .int .i64 m9.polls, .string (ramS m9.ram), .slice p1 m9.st.length c1, .slice p2 m9.out.length c2] _ _ HG4.out.1)
 have HB6 := Lib.hid ((setRow_other w4 (w.heap.size + 1 + 1 + 1) (w.heap.size + 1 + 1 + 1 + 1) #[.int .u16 (m9.R 0), .int .u16 (m9.R 1), .int .u16 (m9.R 2), .int .u16 (m9.R 3), .int .u16 (m9.R 4), .int .u16 (m9.R 5), .int .u16 (m9.R 6), .int .u16 (m9.R 7), .int .u16 m9.pc, .int .u16 m9.sp, .int .u16 m9.fp, .int .u16 m9.f, .int .i64 m9.bank, .int .i64 m9.steps, .int .i64 m9.inputs, .int .i64 m9.polls, .string (ramS m9.ram), .slice p1 m9.st.length c1, .slice p2 m9.out.length c2] (by omega)).trans HG4.out.2)
 have HS6 := Lib.hid (snap_row2 (C := #[.int .u16 (m9.R 0), .int .u16 (m9.R 1), .int .u16 (m9.R 2), .int .u16 (m9.R 3), .int .u16 (m9.R 4), .int .u16 (m9.R 5), .int .u16 (m9.R 6), .int .u16 (m9.R 7), .int .u16 m9.pc, .int .u16 m9.sp, .int .u16 m9.fp, .int .u16 m9.f, .int .i64 m9.bank, .int .i64 m9.steps, .int .i64 m9.inputs, .int .i64 m9.polls, .string (ramS m9.ram), .slice p1 m9.st.length c1, .slice p2 m9.out.length c2]) (by decide) HG4.out.1 HSN.out)
 have HW6 := Lib.hid (setRow_below (A := w.heap.size + 1 + 1 + 1) (C := #[.int .u16 (m9.R 0), .int .u16 (m9.R 1), .int .u16 (m9.R 2), .int .u16 (m9.R 3), .int .u16 (m9.R 4), .int .u16 (m9.R 5), .int .u16 (m9.R 6), .int .u16 (m9.R 7), .int .u16 m9.pc, .int .u16 m9.sp, .int .u16 m9.fp, .int .u16 m9.f, .int .i64 m9.bank, .int .i64 m9.steps, .int .i64 m9.inputs, .int .i64 m9.polls, .string (ramS m9.ram), .slice p1 m9.st.length c1, .slice p2 m9.out.length c2]) HBW.out (by omega))
 generalize World.setRow _ _ _ = W6 at *
 refine Lib.hid ?_
 go_wp2_with (refine wpList_store_row 39 _ _ rfl rfl (w.heap.size + 1 + 1 + 1 + 1) rfl #[.int .i64 k9, .int .u16 i9] rfl HB6.out info46 rfl (by simp [Value.oneCell']) ?_; refine Hid.out ?_)
 have HA7 := Lib.hid ((setRow_other W6 (w.heap.size + 1 + 1 + 1 + 1) (w.heap.size + 1 + 1 + 1) #[.int .i64 k9, .int .u16 i9] (by omega)).trans HA6.out)
 have HB7 := Lib.hid (setRow_heap _ _ _ #[.int .i64 k9, .int .u16 i9] _ _ HB6.out)
 have HS7 := Lib.hid (snap_row2 (C := #[.int .i64 k9, .int .u16 i9]) (by decide) HB6.out HS6.out)
 have HW7 := Lib.hid (setRow_below (A := w.heap.size + 1 + 1 + 1 + 1) (C := #[.int .i64 k9, .int .u16 i9]) HW6.out (by omega))
 generalize World.setRow _ _ _ = W7 at *
 refine Lib.hid ?_
 go_wp2_with fail
 refine bodyPost_ret (v := .tuple #[.agg #[.int .u16 (m9.R 0), .int .u16 (m9.R 1), .int .u16 (m9.R 2), .int .u16 (m9.R 3), .int .u16 (m9.R 4), .int .u16 (m9.R 5), .int .u16 (m9.R 6), .int .u16 (m9.R 7), .int .u16 m9.pc, .int .u16 m9.sp, .int .u16 m9.fp, .int .u16 m9.f, .int .i64 m9.bank, .int .i64 m9.steps, .int .i64 m9.inputs, .int .i64 m9.polls, .string (ramS m9.ram), .slice p1 m9.st.length c1, .slice p2 m9.out.length c2], .agg #[.int .i64 k9, .int .u16 i9]]) (rows_result rfl _ _ (w.heap.size + 1 + 1 + 1) (w.heap.size + 1 + 1 + 1 + 1) _ _ 36 39 rfl rfl HA7.out HB7.out Tryz.underlying36 Tryz.underlying39 info43 info46) rfl ?_
 exact ⟨_, rfl, Snapped.low ⟨p1, c1, p2, c2, rfl, HS7.out⟩ HLW.out, HW7.out⟩
end Go.Proofs.YtieaicdihingkaaGreat
