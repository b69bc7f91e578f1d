/- normal: a machine in a state that was made normal. -/
import Derived.Test.YtieaicdihingkaaGreatK21
import Derived.Lib.BufferWrite
namespace Go.Proofs.YtieaicdihingkaaGreat
set_option linter.unusedVariables false
set_option linter.unusedSimpArgs false
open Go.RowKit
def normM (m : Mach) (S : ByteArray) (l : List Int) : Mach := { m with sp := ((min l.length 4096 : Nat) : Int), st := l.take 4096, ram := fun j => byteI S j }
/-- Where a slice's cells lie: nil, or from the start of a block on. -/
def SliceAt (w : World) (p : Option Addr) (n : Nat) (xs : List Value) : Prop := (p = none ∧ n = 0) ∨ ∃ g, p = some ⟨g, 0, none⟩ ∧ g < w.heap.size ∧ ∀ j u, xs[j]? = some u → w.cell? ⟨g, j, none⟩ = some u
theorem SliceAt.kept {w w' : World} {p : Option Addr} {n : Nat} {xs : List Value} (h : SliceAt w p n xs) (hb : Below w.heap.size w w') : SliceAt w' p n xs := by
 rcases h with h | ⟨g, e, hg, hc⟩
 ·exact .inl h
 ·exact .inr ⟨g, e, Nat.lt_of_lt_of_le hg hb.size, fun j u hu => (hb.cell hg).trans (hc j u hu)⟩
theorem own_sliceAt {w : World} {base e size n : Nat} {p : Option Addr} {k c : Nat} {xs : List Value} (h : w.ownsRow base e size (.slice p k c) n xs) : SliceAt w p n xs := by
 rcases h.2 with ⟨e0, h0⟩ | ⟨g, cap, cur, e1, hb, hg, hnc, hcm, hcs, ht⟩
 ·injection e0 with e1 e2 e3
  exact .inl ⟨e1, h0⟩
 ·injection e1 with e1 e2 e3
  refine .inr ⟨g, e1, (Array.getElem?_eq_some_iff.1 hg).1, fun j u hu => ?_⟩
  rw [Lib.cell_of_heap hg j]
  rw [← ht, List.getElem?_take] at hu
  split at hu
  ·simpa using hu
  ·cases hu
structure NormIn (w : World) (E : Env) (m : Mach) (S : ByteArray) (l : List Int) (ps po : Option Addr) : Prop where
 strs : StrsLow w.heap.size w E.pb E.banks
 inp : RowLow w.heap.size w E.pin .u16 E.tin
 irq : RowLow w.heap.size w E.pirq .u8 E.tirq
 st : SliceAt w ps l.length (l.map (Value.int .u16))
 out : SrcAt w po m.out.length (outC m.out)
 ok : (normM m S l).Ok
 spk : OkU16 m.sp
 banks : E.banks.length ≤ maxLen
 entry : OkU16 E.entry
 vector : OkU16 E.vector
 tin : E.tin.length ≤ maxLen
 tirq : E.tirq.length ≤ maxLen
 tinv : ∀ x ∈ E.tin, OkU16 x
 tirqv : ∀ x ∈ E.tirq, 0 ≤ x ∧ x < 256
 size : S.size ≤ 1000000000000
 len : l.length ≤ 1000000000000
theorem run_copy_cut (w : World) (dT sT ty elem : TypeId) (g dLen dCap : Nat) (s : ByteArray) (cur : Array Value) (t : TypeId)
  (hu : Tryz.prog.underlying dT = some (.slice elem)) (hs : (Tryz.prog.info? elem).map (·.size) = some 1) (hg : w.heap[g]? = some (.cells cur t (0, 0))) (k : Nat) (hk : Nat.min s.size dLen = k) (hfit : k ≤ cur.size) :
  (Builtin.copy_ #[dT, sT] ty #[.slice (some ⟨g, 0, none⟩) dLen dCap, .string s]).run Tryz.prog w =
   .ok (goInt k) (w.setRow g ((Lib.byteCells s.data.toList).take k ++ cur.toList.drop k).toArray) := by
 have hlen : ((Lib.byteCells s.data.toList).take k).length = k := by
  rw [List.length_take, Lib.byteCells_length, ← Lib.size_eq]
  have : k ≤ s.size := by rw [← hk]; exact Nat.min_le_left _ _
  omega
 have hst := run_storeCells_at Tryz.prog g 0 t ((Lib.byteCells s.data.toList).take k) 0 cur w hg (by rw [hlen]; simpa using hfit) (fun v hv => Lib.byteCells_one _ v (List.mem_of_mem_take hv))
 have htk : List.take k (List.map (fun b : UInt8 => Value.int .u8 (b.toNat : Int)) s.data.toList) = (Lib.byteCells s.data.toList).take k := rfl
 rw [hlen] at hst
 simp only [Nat.add_zero, Nat.zero_add, List.take_zero, List.nil_append] at hst
 cases hq : Tryz.prog.info? elem with
 | none => simp [hq] at hs
 | some i =>
  simp [Builtin.copy_, run_underlying hu, Builtin.lenOf, Builtin.firstCells, sizeOf, typeInfo, hq, hk]
  rw [htk, hst]
  simp [Result.andThen]
theorem wp_copy_cut {o : Oper} {a : Act} {K : Act → World → Prop} {Q : Exit → Act → World → Prop} {w : World} (d x : Operand) (dT sT elem : TypeId) (ho : o.op = .call { callee := .builtin .copy, args := #[d, x], argTypes := #[dT, sT] }) (g dLen dCap : Nat) (s : ByteArray) (cur : Array Value) (t : TypeId)
  (hd : a.eval d = .slice (some ⟨g, 0, none⟩) dLen dCap) (hx : a.eval x = .string s)
  (hu : Tryz.prog.underlying dT = some (.slice elem)) (hs : (Tryz.prog.info? elem).map (·.size) = some 1) (hg : w.heap[g]? = some (.cells cur t (0, 0))) (k : Nat) (hk : Nat.min s.size dLen = k) (hfit : k ≤ cur.size)
  (h : K (a.put o.dst (goInt k)) (w.setRow g ((Lib.byteCells s.data.toList).take k ++ cur.toList.drop k).toArray)) : o.wp Tryz.prog a w K Q := by
 have hrun := run_copy_cut w dT sT o.type elem g dLen dCap s cur t hu hs hg k hk hfit
 unfold Oper.wp
 simp [execOp, ho, resolve, invoke, builtin, hd, hx, hrun, Result.andThen]
 exact h
theorem copy_get (s : ByteArray) (cur : List Value) (k n : Nat) (hk : Nat.min s.size n = k) (hz : ∀ j, j < n → cur[j]? = some (.int .u8 0)) (j : Nat) (hj : j < n) : ((Lib.byteCells s.data.toList).take k ++ cur.drop k)[j]? = some (.int .u8 (byteI s j)) := by
 have hsz : s.data.toList.length = s.size := by rw [← Lib.size_eq]
 have hks : k ≤ s.size := by rw [← hk]; exact Nat.min_le_left _ _
 have hl : ((Lib.byteCells s.data.toList).take k).length = k := by
  rw [List.length_take, Lib.byteCells_length, hsz]; omega
 by_cases h : j < k
 ·rw [List.getElem?_append_left (by omega), List.getElem?_take, if_pos h]
  unfold Lib.byteCells byteI
  rw [List.getElem?_map]
  have h1 : s.data.toList[j]? = some (s.data.toList[j]'(by omega)) := List.getElem?_eq_getElem (by omega)
  rw [h1]
  rfl
 ·rw [List.getElem?_append_right (by omega), hl, List.getElem?_drop, show k + (j - k) = j by omega, hz j hj]
  have hjs : s.size ≤ j := by
   rcases Nat.le_total s.size n with h2 | h2
   ·have : k = s.size := by rw [← hk]; exact Nat.min_eq_left h2
    omega
   ·have : k = n := by rw [← hk]; exact Nat.min_eq_right h2
    omega
  unfold byteI
  rw [List.getElem?_eq_none (by omega)]
  rfl
theorem info5s : (Tryz.prog.info? 5).map (·.size) = some 1 := by kernel_rfl
/-- The row of zero bytes that RAM begins with. -/
theorem make_bytes (n : Nat) (h : n ≤ 100000) : ∃ Z : Array Value, Z.size = n ∧ (∀ j, j < n → Z.toList[j]? = some (.int .u8 0)) ∧ ∀ W : World, (Instr.makeSlice 42 (.int .i64 (n : Int)) (.int .i64 (n : Int))).run Tryz.prog W = .ok (.slice (some ⟨W.heap.size, 0, none⟩) n n) (W.alloc (.cells Z 5)) := by
 obtain ⟨i, hi, hz, hs, hby⟩ : ∃ i, Tryz.prog.info? 5 = some i ∧ i.zero = some (.int .u8 0) ∧ i.size = 1 ∧ i.bytes = 1 := by
  have := info5
  cases h : Tryz.prog.info? 5 with
  | none => rw [h] at this; cases this
  | some y => rw [h] at this; simp at this; exact ⟨y, rfl, this⟩
 have hl := made_list (.int .u8 0) n
 refine ⟨madeCells #[.int .u8 0] n, ?_, fun j hj => by rw [hl, List.getElem?_replicate, if_pos hj], fun W => ?_⟩
 ·have := congrArg List.length hl
  simpa using this
 ·have hr := run_make (P := Tryz.prog) W 42 5 i _ Tryz.underlying42 hi hz .i64 .i64 (n : Int) (n : Int) (by omega) (Int.le_refl _) (by rw [hby]; omega) (by omega)
  rw [hs, Nat.mul_one] at hr
  exact hr
theorem wp_make_bytes {o : Oper} {a : Act} {K : Act → World → Prop} {Q : Exit → Act → World → Prop} {W : World} {Z : Array Value} (ho : o.op = .makeSlice 42 (.const (.int .i64 8192)) (.const (.int .i64 8192)))
  (hr : (Instr.makeSlice 42 (.int .i64 8192) (.int .i64 8192)).run Tryz.prog W = .ok (.slice (some ⟨W.heap.size, 0, none⟩) 8192 8192) (W.alloc (.cells Z 5))) (h : K (a.put o.dst (.slice (some ⟨W.heap.size, 0, none⟩) 8192 8192)) (W.alloc (.cells Z 5))) : o.wp Tryz.prog a W K Q := by
 unfold Oper.wp execOp
 simp only [ho, Act.eval, Sem.run_bind, Sem.run_pure, Result.andThen_ok, hr]
 exact h
structure NormA (W0 : World) (E : Env) (m : Mach) (Z : Array Value) (g : Nat) (vo : Value) (V : World) : Prop where
 ram : V.heap[g]? = some (.cells Z 5 (0, 0))
 low : W0.heap.size ≤ g
 out : V.ownsRow W0.heap.size 51 2 vo m.out.length (outC m.out)
theorem NormA.next {W0 : World} {E : Env} {m : Mach} {Z : Array Value} {g : Nat} {vo : Value} {V V' : World} (h : NormA W0 E m Z g vo V) (hb : Below V.heap.size V V') : NormA W0 E m Z g vo V' :=
 ⟨(hb.block _ (Array.getElem?_eq_some_iff.1 h.ram).1).trans h.ram, h.low, own_next h.out hb⟩
def ncells (E : Env) (m : Mach) (g : Nat) (vo : Value) : Array Value := (mcells { E with ramB := g } m (.slice none 0 0) vo).toArray
def RamTo (W0 : World) (Z : Array Value) (v : Value) (V : World) : Prop := ∃ g : Nat, v = .slice (some ⟨g, 0, none⟩) 8192 8192 ∧ V.heap[g]? = some (.cells Z 5 (0, 0)) ∧ W0.heap.size ≤ g
def BuiltTo (W0 : World) (E : Env) (m : Mach) (Z : Array Value) (v : Value) (V : World) : Prop := ∃ g p c, v = .agg (ncells E m g (.slice p m.out.length c)) ∧ NormA W0 E m Z g (.slice p m.out.length c) V
def BoxTo (W0 : World) (E : Env) (m : Mach) (Z : Array Value) (v : Value) (V : World) : Prop := ∃ B g p c, v = .pointer (some ⟨B, 0, none⟩) ∧ V.heap[B]? = some (.cells (ncells E m g (.slice p m.out.length c)) 63 (0, 0)) ∧ W0.heap.size ≤ B ∧ NormA W0 E m Z g (.slice p m.out.length c) V
def NormPost (w : World) (E : Env) (m : Mach) (S : ByteArray) (l : List Int) (e : Ending) (w' : World) : Prop :=
 ∃ B g sv ov, e = .returned (.pointer (some ⟨B, 0, none⟩)) ∧ Below w.heap.size w w' ∧ MachAt { E with B := B, ramB := g, base := w.heap.size } w' (normM m S l) sv ov
set_option maxRecDepth 20000 in
set_option maxHeartbeats 8000000 in
theorem normal_any {w : World} {E : Env} {m : Mach} {S : ByteArray} {l : List Int} {ps po : Option Addr} (h : NormIn w E m S l ps po) (cs co : Nat) (hcs : l.length ≤ cs) : Calls Tryz.prog 14 #[.agg #[.slice E.pb E.banks.length E.cb, .int .u16 E.entry, .int .u16 E.vector, .slice E.pd E.nd E.cd, .slice E.pr E.nr E.cr], .agg #[.slice E.pin E.tin.length E.cin, .slice E.pirq E.tirq.length E.cirq], .agg #[.int .u16 (m.R 0), .int .u16 (m.R 1), .int .u16 (m.R 2), .int .u16 (m.R 3), .int .u16 (m.R 4), .int .u16 (m.R 5), .int .u16 (m.R 6), .int .u16 (m.R 7), .int .u16 m.pc, .int .u16 m.sp, .int .u16 m.fp, .int .u16 m.f, .int .i64 m.bank, .int .i64 m.steps, .int .i64 m.inputs, .int .i64 m.polls, .string S, .slice ps l.length cs, .slice po m.out.length co]] w (NormPost w E m S l) := by
 have H := Lib.hid h
 have HCS := Lib.hid hcs
 obtain ⟨Z, hZs, hZ, hmk⟩ := make_bytes 8192 (by decide)
 have HZS := Lib.hid hZs
 have HZ := Lib.hid hZ
 have HMK : Hid (∀ W : World, (Instr.makeSlice 42 (.int .i64 8192) (.int .i64 8192)).run Tryz.prog W = .ok (.slice (some ⟨W.heap.size, 0, none⟩) 8192 8192) (W.alloc (.cells Z 5))) := Lib.hid hmk
 have HB0 := Lib.hid (below_alloc (below_alloc (below1 w (Obj.cells #[.slice E.pb E.banks.length E.cb, .int .u16 E.entry, .int .u16 E.vector, .slice E.pd E.nd E.cd, .slice E.pr E.nr E.cr] 29)) (Obj.cells #[.slice E.pin E.tin.length E.cin, .slice E.pirq E.tirq.length E.cirq] 44)) (Obj.cells #[.int .u16 (m.R 0), .int .u16 (m.R 1), .int .u16 (m.R 2), .int .u16 (m.R 3), .int .u16 (m.R 4), .int .u16 (m.R 5), .int .u16 (m.R 6), .int .u16 (m.R 7), .int .u16 m.pc, .int .u16 m.sp, .int .u16 m.fp, .int .u16 m.f, .int .i64 m.bank, .int .i64 m.steps, .int .i64 m.inputs, .int .i64 m.polls, .string S, .slice ps l.length cs, .slice po m.out.length co] 36))
 have HI0 : Hid ((((w.alloc (Obj.cells #[.slice E.pb E.banks.length E.cb, .int .u16 E.entry, .int .u16 E.vector, .slice E.pd E.nd E.cd, .slice E.pr E.nr E.cr] 29)).alloc (Obj.cells #[.slice E.pin E.tin.length E.cin, .slice E.pirq E.tirq.length E.cirq] 44)).alloc (Obj.cells #[.int .u16 (m.R 0), .int .u16 (m.R 1), .int .u16 (m.R 2), .int .u16 (m.R 3), .int .u16 (m.R 4), .int .u16 (m.R 5), .int .u16 (m.R 6), .int .u16 (m.R 7), .int .u16 m.pc, .int .u16 m.sp, .int .u16 m.fp, .int .u16 m.f, .int .i64 m.bank, .int .i64 m.steps, .int .i64 m.inputs, .int .i64 m.polls, .string S, .slice ps l.length cs, .slice po m.out.length co] 36)).heap[w.heap.size]? = some (.cells #[.slice E.pb E.banks.length E.cb, .int .u16 E.entry, .int .u16 E.vector, .slice E.pd E.nd E.cd, .slice E.pr E.nr E.cr] 29 (0, 0))) := Lib.hid (blk_mid2 w _ _ _)
 have HT0 : Hid ((((w.alloc (Obj.cells #[.slice E.pb E.banks.length E.cb, .int .u16 E.entry, .int .u16 E.vector, .slice E.pd E.nd E.cd, .slice E.pr E.nr E.cr] 29)).alloc (Obj.cells #[.slice E.pin E.tin.length E.cin, .slice E.pirq E.tirq.length E.cirq] 44)).alloc (Obj.cells #[.int .u16 (m.R 0), .int .u16 (m.R 1), .int .u16 (m.R 2), .int .u16 (m.R 3), .int .u16 (m.R 4), .int .u16 (m.R 5), .int .u16 (m.R 6), .int .u16 (m.R 7), .int .u16 m.pc, .int .u16 m.sp, .int .u16 m.fp, .int .u16 m.f, .int .i64 m.bank, .int .i64 m.steps, .int .i64 m.inputs, .int .i64 m.polls, .string S, .slice ps l.length cs, .slice po m.out.length co] 36)).heap[w.heap.size + 1]? = some (.cells #[.slice E.pin E.tin.length E.cin, .slice E.pirq E.tirq.length E.cirq] 44 (0, 0))) := Lib.hid (by
  have h9 := blk_mid1 (w.alloc (Obj.cells #[.slice E.pb E.banks.length E.cb, .int .u16 E.entry, .int .u16 E.vector, .slice E.pd E.nd E.cd, .slice E.pr E.nr E.cr] 29)) (Obj.cells #[.slice E.pin E.tin.length E.cin, .slice E.pirq E.tirq.length E.cirq] 44) (Obj.cells #[.int .u16 (m.R 0), .int .u16 (m.R 1), .int .u16 (m.R 2), .int .u16 (m.R 3), .int .u16 (m.R 4), .int .u16 (m.R 5), .int .u16 (m.R 6), .int .u16 (m.R 7), .int .u16 m.pc, .int .u16 m.sp, .int .u16 m.fp, .int .u16 m.f, .int .i64 m.bank, .int .i64 m.steps, .int .i64 m.inputs, .int .i64 m.polls, .string S, .slice ps l.length cs, .slice po m.out.length co] 36)
  rw [World.size_alloc] at h9
  exact h9)
 have HS0 : Hid ((((w.alloc (Obj.cells #[.slice E.pb E.banks.length E.cb, .int .u16 E.entry, .int .u16 E.vector, .slice E.pd E.nd E.cd, .slice E.pr E.nr E.cr] 29)).alloc (Obj.cells #[.slice E.pin E.tin.length E.cin, .slice E.pirq E.tirq.length E.cirq] 44)).alloc (Obj.cells #[.int .u16 (m.R 0), .int .u16 (m.R 1), .int .u16 (m.R 2), .int .u16 (m.R 3), .int .u16 (m.R 4), .int .u16 (m.R 5), .int .u16 (m.R 6), .int .u16 (m.R 7), .int .u16 m.pc, .int .u16 m.sp, .int .u16 m.fp, .int .u16 m.f, .int .i64 m.bank, .int .i64 m.steps, .int .i64 m.inputs, .int .i64 m.polls, .string S, .slice ps l.length cs, .slice po m.out.length co] 36)).heap[w.heap.size + 1 + 1]? = some (.cells #[.int .u16 (m.R 0), .int .u16 (m.R 1), .int .u16 (m.R 2), .int .u16 (m.R 3), .int .u16 (m.R 4), .int .u16 (m.R 5), .int .u16 (m.R 6), .int .u16 (m.R 7), .int .u16 m.pc, .int .u16 m.sp, .int .u16 m.fp, .int .u16 m.f, .int .i64 m.bank, .int .i64 m.steps, .int .i64 m.inputs, .int .i64 m.polls, .string S, .slice ps l.length cs, .slice po m.out.length co] 36 (0, 0))) := Lib.hid (by
  have h9 := alloc_at ((w.alloc (Obj.cells #[.slice E.pb E.banks.length E.cb, .int .u16 E.entry, .int .u16 E.vector, .slice E.pd E.nd E.cd, .slice E.pr E.nr E.cr] 29)).alloc (Obj.cells #[.slice E.pin E.tin.length E.cin, .slice E.pirq E.tirq.length E.cirq] 44)) (Obj.cells #[.int .u16 (m.R 0), .int .u16 (m.R 1), .int .u16 (m.R 2), .int .u16 (m.R 3), .int .u16 (m.R 4), .int .u16 (m.R 5), .int .u16 (m.R 6), .int .u16 (m.R 7), .int .u16 m.pc, .int .u16 m.sp, .int .u16 m.fp, .int .u16 m.f, .int .i64 m.bank, .int .i64 m.steps, .int .i64 m.inputs, .int .i64 m.polls, .string S, .slice ps l.length cs, .slice po m.out.length co] 36)
  rw [World.size_alloc, World.size_alloc] at h9
  exact h9)
 clear h hcs hZs hZ hmk
 go_enter Tryz.func14, Tryz.ntmps14
 go_upto_region 1 with (fail)
 generalize ((w.alloc _).alloc _).alloc _ = W0 at *
 refine' wp_region_flowR [[], [], [], [(10, 2)], [], [], [(13, 5)], [(14, 6)], [(8, 0), (9, 1), (11, 3), (12, 4), (15, 7)], [(16, 8)], [(8, 0), (9, 1), (10, 2), (11, 3), (12, 4), (13, 5), (14, 6), (15, 7), (16, 8), (17, 9)]] (relL [eqV _, eqV _, eqV _, eqV _, RamTo W0 Z, eqV _, eqV _, EventsTo W0 m, BuiltTo W0 E m Z, BoxTo W0 E m Z]) (by kernel_rfl) (by kernel_rfl) ?_
 rotate_left 6
 refine FlowR.step ?_ ?_
 ·intro VV hV
  simp only [Dep, lQ]
  intro K hK
  obtain bi := (hV.block _ (Array.getElem?_eq_some_iff.1 HI0.out).1).trans HI0.out
  obtain bi0 := Lib.cell_of_heap bi 0
  obtain bi1 := Lib.cell_of_heap bi 1
  obtain bi2 := Lib.cell_of_heap bi 2
  obtain bi3 := Lib.cell_of_heap bi 3
  obtain bi4 := Lib.cell_of_heap bi 4
  simp at bi0 bi1 bi2 bi3 bi4
  go_simp
  refine hK _ _ ?_ (Below.refl _ _)
  simp only [lR]
  exact rfl
 refine FlowR.step ?_ ?_
 ·intro VV hV
  simp only [Dep, lQ]
  intro K hK
  obtain bt := (hV.block _ (Array.getElem?_eq_some_iff.1 HT0.out).1).trans HT0.out
  obtain bt0 := Lib.cell_of_heap bt 0
  obtain bt1 := Lib.cell_of_heap bt 1
  simp at bt0 bt1
  go_simp
  refine hK _ _ ?_ (Below.refl _ _)
  simp only [lR]
  exact rfl
 refine FlowR.step ?_ ?_
 ·intro VV hV
  simp only [Dep, lQ]
  intro K hK
  go_simp
  refine hK _ _ ?_ (Below.refl _ _)
  simp only [lR]
  exact rfl
 refine FlowR.step ?_ ?_
 ·intro VV hV
  simp only [Dep, lQ]
  rintro x10 ⟨V10, rfl, hb10⟩
  intro K hK
  obtain bs := (hV.block _ (Array.getElem?_eq_some_iff.1 HS0.out).1).trans HS0.out
  obtain bs0 := Lib.cell_of_heap bs 0
  obtain bs1 := Lib.cell_of_heap bs 1
  obtain bs2 := Lib.cell_of_heap bs 2
  obtain bs3 := Lib.cell_of_heap bs 3
  obtain bs4 := Lib.cell_of_heap bs 4
  obtain bs5 := Lib.cell_of_heap bs 5
  obtain bs6 := Lib.cell_of_heap bs 6
  obtain bs7 := Lib.cell_of_heap bs 7
  obtain bs8 := Lib.cell_of_heap bs 8
  obtain bs9 := Lib.cell_of_heap bs 9
  obtain bs10 := Lib.cell_of_heap bs 10
  obtain bs11 := Lib.cell_of_heap bs 11
  obtain bs12 := Lib.cell_of_heap bs 12
  obtain bs13 := Lib.cell_of_heap bs 13
  obtain bs14 := Lib.cell_of_heap bs 14
  obtain bs15 := Lib.cell_of_heap bs 15
  obtain bs16 := Lib.cell_of_heap bs 16
  obtain bs17 := Lib.cell_of_heap bs 17
  obtain bs18 := Lib.cell_of_heap bs 18
  simp at bs0 bs1 bs2 bs3 bs4 bs5 bs6 bs7 bs8 bs9 bs10 bs11 bs12 bs13 bs14 bs15 bs16 bs17 bs18
  go_simp
  refine hK _ _ ?_ (Below.refl _ _)
  simp only [lR]
  exact rfl
 refine FlowR.step ?_ ?_
 ·intro VV hV
  simp only [Dep, lQ]
  intro K hK
  obtain hmk := HMK.out _
  refine (if_pos (by rfl)).mpr ?_
  refine wp_make_bytes rfl (HMK.out _) ?_
  exact hK _ _ ⟨_, rfl, alloc_at _ _, hV.size⟩ (below1 _ _)
 refine FlowR.step ?_ ?_
 ·intro VV hV
  simp only [Dep, lQ]
  intro K hK
  go_simp
  refine hK _ _ ?_ (Below.refl _ _)
  simp only [lR]
  exact rfl
 refine FlowR.step ?_ ?_
 ·intro VV hV
  simp only [Dep, lQ]
  rintro x13 ⟨V13, rfl, hb13⟩
  intro K hK
  obtain bs := (hV.block _ (Array.getElem?_eq_some_iff.1 HS0.out).1).trans HS0.out
  obtain bs0 := Lib.cell_of_heap bs 0
  obtain bs1 := Lib.cell_of_heap bs 1
  obtain bs2 := Lib.cell_of_heap bs 2
  obtain bs3 := Lib.cell_of_heap bs 3
  obtain bs4 := Lib.cell_of_heap bs 4
  obtain bs5 := Lib.cell_of_heap bs 5
  obtain bs6 := Lib.cell_of_heap bs 6
  obtain bs7 := Lib.cell_of_heap bs 7
  obtain bs8 := Lib.cell_of_heap bs 8
  obtain bs9 := Lib.cell_of_heap bs 9
  obtain bs10 := Lib.cell_of_heap bs 10
  obtain bs11 := Lib.cell_of_heap bs 11
  obtain bs12 := Lib.cell_of_heap bs 12
  obtain bs13 := Lib.cell_of_heap bs 13
  obtain bs14 := Lib.cell_of_heap bs 14
  obtain bs15 := Lib.cell_of_heap bs 15
  obtain bs16 := Lib.cell_of_heap bs 16
  obtain bs17 := Lib.cell_of_heap bs 17
  obtain bs18 := Lib.cell_of_heap bs 18
  simp at bs0 bs1 bs2 bs3 bs4 bs5 bs6 bs7 bs8 bs9 bs10 bs11 bs12 bs13 bs14 bs15 bs16 bs17 bs18
  go_simp
  refine hK _ _ ?_ (Below.refl _ _)
  simp only [lR]
  exact rfl
 refine FlowR.step ?_ ?_
 ·intro VV hV
  simp only [Dep, lQ]
  rintro x14 ⟨V14, rfl, hb14⟩
  intro K hK
  go_simp
  go_at_call 21
  refine (clone_events po co m.out _ (by have := H.out.ok.out; exact this) (H.out.out.kept HB0.out |>.kept hV)).mono ?_
  rintro e w9 ⟨v9, rfl, ho9, h9⟩
  exact hK _ _ (events_to ho9 hV) h9
 refine FlowR.step ?_ ?_
 ·intro VV hV
  simp only [Dep, lQ]
  rintro x8 ⟨V8, rfl, hb8⟩
  rintro x9 ⟨V9, rfl, hb9⟩
  rintro x11 ⟨V11, rfl, hb11⟩
  rintro x12 ⟨V12, ⟨g, rfl, hg, hgl⟩, hb12⟩
  rintro x15 ⟨V15, he, hb15⟩
  intro K hK
  obtain ⟨pe, ce, rfl⟩ := own_slice2 he
  go_simp
  exact hK _ _ ⟨g, pe, ce, rfl, ⟨(hb12.block _ (Array.getElem?_eq_some_iff.1 hg).1).trans hg, hgl, own_next he hb15⟩⟩ (Below.refl _ _)
 refine FlowR.step ?_ ?_
 ·intro VV hV
  simp only [Dep, lQ]
  rintro x16 ⟨V16, ⟨g, p, c, rfl, hna⟩, hb16⟩
  intro K hK
  go_simp
  exact hK _ _ ⟨_, g, p, c, rfl, alloc_at _ _, hV.size, (hna.next hb16).next (below1 _ _)⟩ (below1 _ _)
 refine FlowR.last ?_
 intro VV hV
 simp only [Dep, lQ]
 rintro x8 ⟨V8, rfl, hb8⟩
 rintro x9 ⟨V9, rfl, hb9⟩
 rintro x10 ⟨V10, rfl, hb10⟩
 rintro x11 ⟨V11, rfl, hb11⟩
 rintro x12 ⟨V12, ⟨g, rfl, hg, hgl⟩, hb12⟩
 rintro x13 ⟨V13, rfl, hb13⟩
 rintro x14 ⟨V14, rfl, hb14⟩
 rintro x15 ⟨V15, he, hb15⟩
 rintro x16 ⟨V16, ⟨g, p, c, rfl, hna⟩, hb16⟩
 rintro x17 ⟨V17, ⟨B, g, p, c, rfl, hB, hBl, hna⟩, hb17⟩
 intro K hK
 go_simp
 refine hK _ _ ?_
 have HN1 := Lib.hid (hna.next hb17)
 have HB1 := Lib.hid ((hb17.block _ (Array.getElem?_eq_some_iff.1 hB).1).trans hB)
 have HBL := Lib.hid hBl
 have HV1 := Lib.hid hV
 clear hK hV hna hB hBl
 go_upto_region 2 with (fail)
 have HC23 : Hid (∀ W, Below VV.heap.size VV W → W.cell? ⟨B, 23, none⟩ = some (.slice (some ⟨g, 0, none⟩) 8192 8192)) := Lib.hid fun W hW => Lib.cell_of_heap ((hW.block _ (Array.getElem?_eq_some_iff.1 HB1.out).1).trans HB1.out) 23
 have HSN : Hid (∀ W, Below VV.heap.size VV W → W.cell? ⟨w.heap.size + 1 + 1, 16, none⟩ = some (.string S)) := Lib.hid fun W hW => by
  have h9 := (below_next HV1.out hW).block _ (Array.getElem?_eq_some_iff.1 HS0.out).1
  have h8 := Lib.cell_of_heap (h9.trans HS0.out) 16
  simpa using h8
 refine' wp_region_flowR [[], [(18, 0)], [(19, 1)], [(20, 2)], [], [(22, 4)], [(18, 0), (19, 1), (20, 2), (21, 3), (22, 4), (23, 5)]] (relL [eqV _, eqV _, eqV _, eqV _, eqV _, eqV _]) (by kernel_rfl) (by kernel_rfl) ?_
 rotate_left 6
 iterate 6
  refine FlowR.step ?_ ?_
  ·intro VV hV
   simp only [Dep, lQ]
   repeat rintro _ ⟨_, rfl, _⟩
   intro K hK
   obtain c23 := HC23.out _ hV
   obtain s16 := HSN.out _ hV
   go_simp
   refine hK _ _ ?_ (Below.refl _ _)
   simp only [lR]
   exact rfl
 refine FlowR.last ?_
 intro VV hV
 simp only [Dep, lQ]
 rintro x18 ⟨V18, rfl, hb18⟩
 rintro x19 ⟨V19, rfl, hb19⟩
 rintro x20 ⟨V20, rfl, hb20⟩
 rintro x21 ⟨V21, rfl, hb21⟩
 rintro x22 ⟨V22, rfl, hb22⟩
 rintro x23 ⟨V23, rfl, hb23⟩
 intro K hK
 have HG2 := Lib.hid ((hV.block _ (Array.getElem?_eq_some_iff.1 HN1.out.ram).1).trans HN1.out.ram)
 have HB2 := Lib.hid ((hV.block _ (Array.getElem?_eq_some_iff.1 HB1.out).1).trans HB1.out)
 have HO2 := Lib.hid (own_next HN1.out.out hV)
 have HV2 := Lib.hid (below_next HV1.out hV)
 refine (if_pos (by rfl)).mpr ?_
 refine wp_copy_cut _ _ 42 9 5 rfl g 8192 8192 S Z 5 rfl rfl Tryz.underlying42 info5s HG2.out (Nat.min S.size 8192) rfl (by rw [HZS.out]; exact Nat.min_le_right _ _) ?_
 refine hK _ _ ?_
 have hgB : B ≠ g := fun e => by
  have h1 := HB2.out
  rw [e, HG2.out] at h1
  simp at h1
 have hWg : w.heap.size ≤ g := Nat.le_trans HB0.out.size HN1.out.low
 have HR3 := Lib.hid (setRow_heap _ _ _ ((Lib.byteCells S.data.toList).take (Nat.min S.size 8192) ++ Z.toList.drop (Nat.min S.size 8192)).toArray _ _ HG2.out)
 have HB3 := Lib.hid ((setRow_other _ g B ((Lib.byteCells S.data.toList).take (Nat.min S.size 8192) ++ Z.toList.drop (Nat.min S.size 8192)).toArray hgB).trans HB2.out)
 have HO3 := Lib.hid (own_row (N := g) (C := ((Lib.byteCells S.data.toList).take (Nat.min S.size 8192) ++ Z.toList.drop (Nat.min S.size 8192)).toArray) HO2.out (fun e => by
  obtain ⟨_, c, f, hk⟩ := own_kind HO2.out _ e
  rw [HG2.out] at hk; simp at hk))
 have HV3 := Lib.hid (setRow_below (A := g) (C := ((Lib.byteCells S.data.toList).take (Nat.min S.size 8192) ++ Z.toList.drop (Nat.min S.size 8192)).toArray) (below_next HB0.out HV2.out) hWg)
 have HS3 := Lib.hid ((setRow_other _ g (w.heap.size + 1 + 1) ((Lib.byteCells S.data.toList).take (Nat.min S.size 8192) ++ Z.toList.drop (Nat.min S.size 8192)).toArray (fun e => by
  have h1 := HN1.out.low
  have h2 := (Array.getElem?_eq_some_iff.1 HS0.out).1
  omega)).trans ((HV2.out.block _ (Array.getElem?_eq_some_iff.1 HS0.out).1).trans HS0.out))
 have HZG : Hid (∀ j, j < 8192 → ((Lib.byteCells S.data.toList).take (Nat.min S.size 8192) ++ Z.toList.drop (Nat.min S.size 8192)).toArray[j]? = some (.int .u8 (byteI S j))) := Lib.hid fun j hj => by
  rw [List.getElem?_toArray]
  exact copy_get S Z.toList _ 8192 rfl HZ.out j hj
 have HZL : Hid (((Lib.byteCells S.data.toList).take (Nat.min S.size 8192) ++ Z.toList.drop (Nat.min S.size 8192)).toArray.size = 8192) := Lib.hid (by
  have h1 : Nat.min S.size 8192 ≤ S.size := Nat.min_le_left _ _
  have h2 : Nat.min S.size 8192 ≤ 8192 := Nat.min_le_right _ _
  have h3 := HZS.out
  generalize Nat.min S.size 8192 = q at *
  rw [List.size_toArray, List.length_append, List.length_take, List.length_drop, Lib.byteCells_length, ← Lib.size_eq, Array.length_toList]
  omega)
 generalize ((Lib.byteCells S.data.toList).take (Nat.min S.size 8192) ++ Z.toList.drop (Nat.min S.size 8192)).toArray = Y at *
 clear hK hV hgB
 simp only [lQ]
 generalize World.setRow _ _ _ = V2 at *
 have HM : Hid (MachAt { E with B := B, ramB := g, base := w.heap.size } V2 { m with ram := fun j => byteI S j, st := [] } (.slice none 0 0) (.slice p m.out.length c)) := Lib.hid (by
  have hk : Keeps w.heap.size w V2 := Keeps.of_below HV3.out
  obtain ⟨a1, a2, a3, a4, a5, a6, a7, a8, a9, a10, a11, a12, a13, a14⟩ := H.out.ok
  exact ⟨HB3.out, ⟨Y, HR3.out, HZL.out, HZG.out⟩, World.ownsRow_nil _ _ _ _, own_low HO3.out HB0.out.size, H.out.strs.keeps hk, H.out.inp.keeps hk, H.out.irq.keeps hk,
   ⟨a1, a2, H.out.spk, a4, a5, a6, a7, a8, a9, a10, (by intro x hx; cases hx), Nat.zero_le _, a13, a14⟩, ⟨H.out.banks, H.out.entry, H.out.vector, H.out.tin, H.out.tirq, H.out.tinv, H.out.tirqv, Nat.le_trans HB0.out.size HBL.out, hWg⟩⟩)
 have HSL := Lib.hid (SliceAt.kept H.out.st HV3.out)
 clear HR3 HB3 HO3 HZG HZL HG2 HB2 HO2 HV2 HN1 HB1 HBL HV1 HSN HC23 HI0 HT0 HS0 hWg HZS HZ HMK
 have s17 : V2.cell? ⟨w.heap.size + 1 + 1, 17, none⟩ = some (.slice ps l.length cs) := by
  have h8 := Lib.cell_of_heap HS3.out 17
  simpa using h8
 have HCL : Hid (∀ W, Below V2.heap.size V2 W → Calls Tryz.prog 22 #[.slice ps (l.take 4096).length cs] W fun e w' => ∃ v, e = .returned v ∧ w'.ownsRow W.heap.size 22 1 v (l.take 4096).length ((l.take 4096).map (Value.int .u16)) ∧ Below W.heap.size W w') := Lib.hid fun W hW => by
  refine clone_words ps cs (l.take 4096) W (by rw [List.length_take]; omega) ?_
  have h1 := HSL.out.kept hW
  rcases h1 with ⟨_, h0⟩ | ⟨g', e', hg', hc'⟩
  ·exact .inl (by rw [List.length_take]; omega)
  ·refine .inr ⟨g', e', hg', fun j u hu => hc' j u ?_⟩
   rw [List.map_take, List.getElem?_take] at hu
   split at hu
   ·exact hu
   ·cases hu
 have HL4 : Hid ((l.take 4096).length = min 4096 l.length) := Lib.hid List.length_take
 have HFIN : Hid (∀ W v, Below V2.heap.size V2 W → W.ownsRow w.heap.size 22 1 v (l.take 4096).length ((l.take 4096).map (Value.int .u16)) → MachAt { E with B := B, ramB := g, base := w.heap.size } (W.setCell ⟨B, 24, none⟩ v) { m with ram := fun j => byteI S j, st := l.take 4096 } v (.slice p m.out.length c)) := Lib.hid fun W v hW hv => by
  have hM := HM.out.next hW
  obtain ⟨a1, a2, a3, a4, a5, a6, a7, a8, a9, a10, a11, a12, a13, a14⟩ := H.out.ok
  exact hM.put 24 v rfl rfl hv hM.out ⟨a1, a2, H.out.spk, a4, a5, a6, a7, a8, a9, a10, a11, a12, a13, a14⟩
 have HWB : Hid (w.heap.size ≤ B) := Lib.hid (HM.out.env.lowB)
 have HLOW : Hid (w.heap.size ≤ V2.heap.size) := Lib.hid HV3.out.size
 have HOKN := Lib.hid H.out.ok.sp
 have z24 := HM.out.frz 24
 have y24 := HM.out.cell 24 _ rfl
 dsimp only at z24 y24
 have KM : Hid (∀ W, Below V2.heap.size V2 W → W.cell? ⟨B, 24, none⟩ = some (.slice none 0 0) ∧ W.frozen? ⟨B, 24, none⟩ = false) := Lib.hid fun W hW => ⟨(HM.out.next hW).cell 24 _ rfl, (HM.out.next hW).frz 24⟩
 rcases HSL.out with ⟨rfl, h0⟩ | ⟨g', rfl, _, _⟩
 ·have m1 : ¬ (4096 : Int) < (l.length : Int) := by omega
  have m2 : ¬ 4096 < l.length := by omega
  have m3 : (l.length : Int) ≤ (cs : Int) := by have := HCS.out; omega
  have m4 : l.length ≤ cs := HCS.out
  have HLE : Hid ((l.take 4096).length = l.length) := Lib.hid (by rw [List.length_take]; omega)
  have HCL2 := Lib.hid (HLE.out ▸ HCL.out V2 (Below.refl _ _))
  clear y24 z24 h0
  go_wp2_with fail
  refine HCL2.out.mono ?_
  rintro e w9 ⟨v9, rfl, ho9, h9⟩
  have HM9 := Lib.hid (HFIN.out w9 v9 h9 (own_low (by rw [HLE.out]; exact ho9) HLOW.out))
  have HV9 := Lib.hid ((below_next HV3.out h9).setCell (p := ⟨B, 24, none⟩) HWB.out v9)
  obtain ⟨y24, z24⟩ := KM.out _ h9
  obtain ⟨q4, hq4⟩ : ∃ q : Nat, (l.take 4096).length = q := ⟨_, rfl⟩
  have HQ4 := Lib.hid hq4
  have hq5 : q4 ≤ 4096 := by rw [← hq4, List.length_take]; omega
  have HQ5 := Lib.hid hq5
  have hv9 : ∃ p9 c9, v9 = .slice p9 q4 c9 := by
   have h1 := own_slice2 HM9.out.st
   dsimp only at h1
   rw [hq4] at h1
   exact h1
  obtain ⟨p9, c9, rfl⟩ := hv9
  clear hq4 hq5
  clear ho9 h9
  go_upto_region 4 with (fail)
  clear y24 z24
  generalize w9.setCell _ _ = W4 at *
  have y24 : W4.cell? ⟨B, 24, none⟩ = some (.slice p9 q4 c9) := by
   exact HM9.out.cell 24 _ rfl
  have x1 : IntKind.u16.wrap (q4 : Int) = q4 := by rw [IntKind.wrap_u16]; have := HQ5.out; omega
  have z16 := HM9.out.frz 16
  have y16 := HM9.out.cell 16 _ rfl
  dsimp only at z16 y16
  go_wp2_with fail
  have hfin := HM9.out.setSp (x := (q4 : Int)) (by have := HQ5.out; unfold OkU16; omega)
  have hsp : (q4 : Int) = ((min l.length 4096 : Nat) : Int) := by rw [← HQ4.out, List.length_take, Nat.min_comm]
  have hme : ({ ({ m with ram := fun j => byteI S j, st := l.take 4096 } : Mach) with sp := (q4 : Int) } : Mach) = normM m S l := by unfold normM; rw [hsp]
  rw [hme] at hfin
  refine ends (v := .pointer (some ⟨B, 0, none⟩)) ?_ rfl ?_
  ·simp [results, Tryz.results14, go_sem]
  ·exact ⟨B, g, _, _, rfl, HV9.out.setCell (p := ⟨B, 16, none⟩) HWB.out _, hfin⟩
 ·by_cases hle : l.length ≤ 4096
  ·have m1 : ¬ (4096 : Int) < (l.length : Int) := by omega
   have m2 : ¬ 4096 < l.length := by omega
   have m3 : (l.length : Int) ≤ (cs : Int) := by have := HCS.out; omega
   have m4 : l.length ≤ cs := HCS.out
   have HLE : Hid ((l.take 4096).length = l.length) := Lib.hid (by rw [List.length_take]; omega)
   have HCL2 := Lib.hid (HLE.out ▸ HCL.out V2 (Below.refl _ _))
   clear hle y24 z24
   go_wp2_with fail
   refine HCL2.out.mono ?_
   rintro e w9 ⟨v9, rfl, ho9, h9⟩
   have HM9 := Lib.hid (HFIN.out w9 v9 h9 (own_low (by rw [HLE.out]; exact ho9) HLOW.out))
   have HV9 := Lib.hid ((below_next HV3.out h9).setCell (p := ⟨B, 24, none⟩) HWB.out v9)
   obtain ⟨y24, z24⟩ := KM.out _ h9
   obtain ⟨q4, hq4⟩ : ∃ q : Nat, (l.take 4096).length = q := ⟨_, rfl⟩
   have HQ4 := Lib.hid hq4
   have hq5 : q4 ≤ 4096 := by rw [← hq4, List.length_take]; omega
   have HQ5 := Lib.hid hq5
   have hv9 : ∃ p9 c9, v9 = .slice p9 q4 c9 := by
    have h1 := own_slice2 HM9.out.st
    dsimp only at h1
    rw [hq4] at h1
    exact h1
   obtain ⟨p9, c9, rfl⟩ := hv9
   clear hq4 hq5
   clear ho9 h9
   go_upto_region 4 with (fail)
   clear y24 z24
   generalize w9.setCell _ _ = W4 at *
   have y24 : W4.cell? ⟨B, 24, none⟩ = some (.slice p9 q4 c9) := by
    exact HM9.out.cell 24 _ rfl
   have x1 : IntKind.u16.wrap (q4 : Int) = q4 := by rw [IntKind.wrap_u16]; have := HQ5.out; omega
   have z16 := HM9.out.frz 16
   have y16 := HM9.out.cell 16 _ rfl
   dsimp only at z16 y16
   go_wp2_with fail
   have hfin := HM9.out.setSp (x := (q4 : Int)) (by have := HQ5.out; unfold OkU16; omega)
   have hsp : (q4 : Int) = ((min l.length 4096 : Nat) : Int) := by rw [← HQ4.out, List.length_take, Nat.min_comm]
   have hme : ({ ({ m with ram := fun j => byteI S j, st := l.take 4096 } : Mach) with sp := (q4 : Int) } : Mach) = normM m S l := by unfold normM; rw [hsp]
   rw [hme] at hfin
   refine ends (v := .pointer (some ⟨B, 0, none⟩)) ?_ rfl ?_
   ·simp [results, Tryz.results14, go_sem]
   ·exact ⟨B, g, _, _, rfl, HV9.out.setCell (p := ⟨B, 16, none⟩) HWB.out _, hfin⟩
  ·have m1 : (4096 : Int) < (l.length : Int) := by omega
   have m2 : 4096 < l.length := by omega
   have m3 : (4096 : Int) ≤ (cs : Int) := by have := HCS.out; omega
   have m4 : 4096 ≤ cs := by have := HCS.out; omega
   have HLE : Hid ((l.take 4096).length = 4096) := Lib.hid (by rw [List.length_take]; omega)
   have HCL2 := Lib.hid (HLE.out ▸ HCL.out V2 (Below.refl _ _))
   clear hle y24 z24
   go_wp2_with fail
   refine HCL2.out.mono ?_
   rintro e w9 ⟨v9, rfl, ho9, h9⟩
   have HM9 := Lib.hid (HFIN.out w9 v9 h9 (own_low (by rw [HLE.out]; exact ho9) HLOW.out))
   have HV9 := Lib.hid ((below_next HV3.out h9).setCell (p := ⟨B, 24, none⟩) HWB.out v9)
   obtain ⟨y24, z24⟩ := KM.out _ h9
   obtain ⟨q4, hq4⟩ : ∃ q : Nat, (l.take 4096).length = q := ⟨_, rfl⟩
   have HQ4 := Lib.hid hq4
   have hq5 : q4 ≤ 4096 := by rw [← hq4, List.length_take]; omega
   have HQ5 := Lib.hid hq5
   have hv9 : ∃ p9 c9, v9 = .slice p9 q4 c9 := by
    have h1 := own_slice2 HM9.out.st
    dsimp only at h1
    rw [hq4] at h1
    exact h1
   obtain ⟨p9, c9, rfl⟩ := hv9
   clear hq4 hq5
   clear ho9 h9
   go_upto_region 4 with (fail)
   clear y24 z24
   generalize w9.setCell _ _ = W4 at *
   have y24 : W4.cell? ⟨B, 24, none⟩ = some (.slice p9 q4 c9) := by
    exact HM9.out.cell 24 _ rfl
   have x1 : IntKind.u16.wrap (q4 : Int) = q4 := by rw [IntKind.wrap_u16]; have := HQ5.out; omega
   have z16 := HM9.out.frz 16
   have y16 := HM9.out.cell 16 _ rfl
   dsimp only at z16 y16
   go_wp2_with fail
   have hfin := HM9.out.setSp (x := (q4 : Int)) (by have := HQ5.out; unfold OkU16; omega)
   have hsp : (q4 : Int) = ((min l.length 4096 : Nat) : Int) := by rw [← HQ4.out, List.length_take, Nat.min_comm]
   have hme : ({ ({ m with ram := fun j => byteI S j, st := l.take 4096 } : Mach) with sp := (q4 : Int) } : Mach) = normM m S l := by unfold normM; rw [hsp]
   rw [hme] at hfin
   refine ends (v := .pointer (some ⟨B, 0, none⟩)) ?_ rfl ?_
   ·simp [results, Tryz.results14, go_sem]
   ·exact ⟨B, g, _, _, rfl, HV9.out.setCell (p := ⟨B, 16, none⟩) HWB.out _, hfin⟩
end Go.Proofs.YtieaicdihingkaaGreat
