/- The machine in memory: what lies where, and what a method leaves. -/
import Derived.Test.YtieaicdihingkaaC9
import Derived.Test.YtieaicdihingkaaK0
namespace Go.Proofs.Ytieaicdihingkaa
set_option linter.unusedVariables false
set_option linter.unusedSimpArgs false
open Go.RowKit
structure Mach where
 R : Nat → Int
 pc : Int
 sp : Int
 fp : Int
 f : Int
 bank : Int
 steps : Int
 inputs : Int
 polls : Int
 ram : Nat → Int
 st : List Int
 out : List (Int × Int)
structure Env where
 B : Nat
 base : Nat
 ramB : Nat
 pb : Option Addr
 cb : Nat
 banks : List ByteArray
 entry : Int
 vector : Int
 pd : Option Addr
 nd : Nat
 cd : Nat
 pr : Option Addr
 nr : Nat
 cr : Nat
 pin : Option Addr
 cin : Nat
 tin : List Int
 pirq : Option Addr
 cirq : Nat
 tirq : List Int
def mcells (E : Env) (m : Mach) (sv ov : Value) : List Value :=
 [.slice E.pb E.banks.length E.cb, .int .u16 E.entry, .int .u16 E.vector, .slice E.pd E.nd E.cd, .slice E.pr E.nr E.cr, .slice E.pin E.tin.length E.cin, .slice E.pirq E.tirq.length E.cirq,
  .int .u16 (m.R 0), .int .u16 (m.R 1), .int .u16 (m.R 2), .int .u16 (m.R 3), .int .u16 (m.R 4), .int .u16 (m.R 5), .int .u16 (m.R 6), .int .u16 (m.R 7),
  .int .u16 m.pc, .int .u16 m.sp, .int .u16 m.fp, .int .u16 m.f, .int .i64 m.bank, .int .i64 m.steps, .int .i64 m.inputs, .int .i64 m.polls,
  .slice (some ⟨E.ramB, 0, none⟩) 8192 8192, sv, ov]
def outC (l : List (Int × Int)) : List Value := l.flatMap fun e => [.int .u16 e.1, .int .u16 e.2]
theorem outC_length (l : List (Int × Int)) : (outC l).length = l.length * 2 := by
 induction l with
 | nil => rfl
 | cons a l ih => unfold outC at *; rw [List.flatMap_cons, List.length_append, ih]; simp; omega
structure Mach.Ok (m : Mach) : Prop where
 R : ∀ k, OkU16 (m.R k)
 pc : OkU16 m.pc
 sp : OkU16 m.sp
 fp : OkU16 m.fp
 f : OkU16 m.f
 bank : OkI64 m.bank
 steps : OkI64 m.steps
 inputs : OkI64 m.inputs
 polls : OkI64 m.polls
 ram : ∀ j, 0 ≤ m.ram j ∧ m.ram j < 256
 st : ∀ x ∈ m.st, OkU16 x
 len : m.st.length ≤ 4096
 out : m.out.length ≤ 1000000000000
 outs : ∀ e ∈ m.out, OkU16 e.1 ∧ OkU16 e.2
structure Env.Ok (E : Env) : Prop where
 banks : E.banks.length ≤ maxLen
 entry : OkU16 E.entry
 vector : OkU16 E.vector
 tin : E.tin.length ≤ maxLen
 tirq : E.tirq.length ≤ maxLen
 tinv : ∀ x ∈ E.tin, OkU16 x
 tirqv : ∀ x ∈ E.tirq, 0 ≤ x ∧ x < 256
 lowB : E.base ≤ E.B
 lowR : E.base ≤ E.ramB
def StrsLow (base : Nat) (w : World) (a : Option Addr) (l : List ByteArray) : Prop :=
 ∀ k s, l[k]? = some s → ∃ B, a = some ⟨B, 0, none⟩ ∧ B < base ∧ w.cell? ⟨B, k, none⟩ = some (.string s) ∧ s.size ≤ maxLen
def RowLow (base : Nat) (w : World) (a : Option Addr) (kd : IntKind) (l : List Int) : Prop :=
 ∀ k n, l[k]? = some n → ∃ B off, a = some ⟨B, off, none⟩ ∧ B < base ∧ w.cell? ⟨B, off + k, none⟩ = some (.int kd n)
structure MachAt (E : Env) (V : World) (m : Mach) (sv ov : Value) : Prop where
 blk : V.heap[E.B]? = some (.cells (mcells E m sv ov).toArray 96 (0, 0))
 ram : ∃ cur, V.heap[E.ramB]? = some (.cells cur 5 (0, 0)) ∧ cur.size = 8192 ∧ ∀ j, j < 8192 → cur[j]? = some (.int .u8 (m.ram j))
 st : V.ownsRow E.base 22 1 sv m.st.length (m.st.map (Value.int .u16))
 out : V.ownsRow E.base 54 2 ov m.out.length (outC m.out)
 bnk : StrsLow E.base V E.pb E.banks
 inp : RowLow E.base V E.pin .u16 E.tin
 irq : RowLow E.base V E.pirq .u8 E.tirq
 ok : m.Ok
 env : E.Ok
/-- What stays: all below 'base', and every block of another kind than the machine's own. -/
structure Keeps (base : Nat) (V V' : World) : Prop where
 os : V'.os = V.os
 tape : V'.tape = V.tape
 output : V'.output = V.output
 size : V.heap.size ≤ V'.heap.size
 blk : ∀ k o, V.heap[k]? = some o → (k < base ∨ ∃ c t f, o = .cells c t f ∧ t ≠ 96 ∧ t ≠ 5 ∧ t ≠ 22 ∧ t ≠ 54) → V'.heap[k]? = some o
theorem Keeps.refl (base : Nat) (V : World) : Keeps base V V := ⟨rfl, rfl, rfl, Nat.le_refl _, fun k o h _ => h⟩
theorem Keeps.trans {base : Nat} {V V' V'' : World} (h : Keeps base V V') (k : Keeps base V' V'') : Keeps base V V'' :=
 ⟨k.os.trans h.os, k.tape.trans h.tape, k.output.trans h.output, Nat.le_trans h.size k.size, fun i o h1 h2 => k.blk i o (h.blk i o h1 h2) h2⟩
theorem Keeps.of_below {base : Nat} {V V' : World} (h : Below V.heap.size V V') : Keeps base V V' :=
 ⟨h.os, h.tape, h.output, h.size, fun k o h1 _ => (h.block k (Array.getElem?_eq_some_iff.1 h1).1).trans h1⟩
theorem Keeps.below {base : Nat} {V V' : World} (h : Keeps base V V') (hb : base ≤ V.heap.size) : Below base V V' :=
 ⟨h.os, h.tape, h.output, h.size, fun k hk => by
  have hs : V.heap[k]? = some (V.heap[k]'(by omega)) := Array.getElem?_eq_getElem (by omega)
  rw [hs]; exact h.blk k _ hs (.inl hk)⟩
theorem Keeps.set {base : Nat} {V : World} {N k : Nat} {v : Value} {c : Array Value} {t : TypeId} {f : Nat × Nat} (hN : V.heap[N]? = some (.cells c t f)) (hb : base ≤ N) (ht : t = 96 ∨ t = 5 ∨ t = 22 ∨ t = 54) : Keeps base V (V.setCell ⟨N, k, none⟩ v) := by
 refine ⟨rfl, rfl, rfl, by simp, fun i o h1 h2 => ?_⟩
 have hne : i ≠ N := by
  rintro rfl
  rw [hN] at h1
  simp only [Option.some.injEq] at h1
  subst h1
  rcases h2 with h2 | ⟨c', t', f', e, h96, h5, h22, h54⟩
  ·omega
  ·simp only [Obj.cells.injEq] at e
   obtain ⟨_, rfl, _⟩ := e
   rcases ht with h | h | h | h <;> simp_all
 exact (Below.heap_setCell _ _ _ _ (fun e => hne e)).trans h1
theorem Keeps.grown {base : Nat} {V V' : World} {row : Option Nat} (g : V.grownBy V' row) (hr : ∀ k, row = some k → base ≤ k ∧ ∃ c t f, V.heap[k]? = some (.cells c t f) ∧ (t = 96 ∨ t = 5 ∨ t = 22 ∨ t = 54)) : Keeps base V V' := by
 refine ⟨g.os, g.tape, g.output, g.size, fun i o h1 h2 => ?_⟩
 refine (g.5 i (Array.getElem?_eq_some_iff.1 h1).1 (fun e => ?_)).trans h1
 obtain ⟨hb, c, t, f, hk, ht⟩ := hr i e.symm
 rw [hk] at h1
 simp only [Option.some.injEq] at h1
 subst h1
 rcases h2 with h2 | ⟨c', t', f', e, h96, h5, h22, h54⟩
 ·omega
 ·simp only [Obj.cells.injEq] at e
  obtain ⟨_, rfl, _⟩ := e
  rcases ht with h | h | h | h <;> simp_all
theorem own_kind {V : World} {base e size n : Nat} {v : Value} {xs : List Value} (h : V.ownsRow base e size v n xs) : ∀ k, v.ownBlock = some k → base ≤ k ∧ ∃ c f, V.heap[k]? = some (.cells c e f) := by
 intro k hk
 rcases h.2 with ⟨rfl, _⟩ | ⟨g, cap, cur, rfl, hb, hg, _⟩
 ·simp [Value.ownBlock] at hk
 ·simp [Value.ownBlock] at hk
  subst hk
  exact ⟨hb, cur, _, hg⟩
theorem low_keeps {base : Nat} {V V' : World} (h : Keeps base V V') {B : Nat} (hB : B < base) {k : Nat} {v : Value} (hc : V.cell? ⟨B, k, none⟩ = some v) : V'.cell? ⟨B, k, none⟩ = some v := by
 have hs : ∃ o, V.heap[B]? = some o := by
  cases e : V.heap[B]? with
  | none => simp [World.cell?, e] at hc
  | some o => exact ⟨o, rfl⟩
 obtain ⟨o, hs⟩ := hs
 have h2 := h.blk B o hs (.inl hB)
 unfold World.cell? at *
 rw [h2]
 rw [hs] at hc
 exact hc
theorem StrsLow.keeps {base : Nat} {V V' : World} {a : Option Addr} {l : List ByteArray} (h : StrsLow base V a l) (k : Keeps base V V') : StrsLow base V' a l := by
 intro j s hj
 obtain ⟨B, e, hB, hc, hs⟩ := h j s hj
 exact ⟨B, e, hB, low_keeps k hB hc, hs⟩
theorem RowLow.keeps {base : Nat} {V V' : World} {a : Option Addr} {kd : IntKind} {l : List Int} (h : RowLow base V a kd l) (k : Keeps base V V') : RowLow base V' a kd l := by
 intro j s hj
 obtain ⟨B, off, e, hB, hc⟩ := h j s hj
 exact ⟨B, off, e, hB, low_keeps k hB hc⟩
theorem MachAt.lt {E : Env} {V : World} {m : Mach} {sv ov : Value} (h : MachAt E V m sv ov) : E.B < V.heap.size := (Array.getElem?_eq_some_iff.1 h.blk).1
theorem MachAt.base {E : Env} {V : World} {m : Mach} {sv ov : Value} (h : MachAt E V m sv ov) : E.base ≤ V.heap.size := Nat.le_trans h.env.lowB (Nat.le_of_lt h.lt)
theorem MachAt.next {E : Env} {V V' : World} {m : Mach} {sv ov : Value} (h : MachAt E V m sv ov) (hb : Below V.heap.size V V') : MachAt E V' m sv ov := by
 have hk : Keeps E.base V V' := Keeps.of_below hb
 obtain ⟨cur, hr, hs, hc⟩ := h.ram
 exact ⟨(hb.block _ h.lt).trans h.blk, ⟨cur, (hb.block _ (Array.getElem?_eq_some_iff.1 hr).1).trans hr, hs, hc⟩, own_next h.st hb, own_next h.out hb, h.bnk.keeps hk, h.inp.keeps hk, h.irq.keeps hk, h.ok, h.env⟩
theorem MachAt.strs {E : Env} {V : World} {m : Mach} {sv ov : Value} (h : MachAt E V m sv ov) : StrsAt V E.pb E.banks := by
 intro k s hk
 obtain ⟨B, e, hB, hc, hs⟩ := h.bnk k s hk
 exact ⟨B, e, Nat.lt_of_lt_of_le hB h.base, hc, hs⟩
theorem MachAt.cell {E : Env} {V : World} {m : Mach} {sv ov : Value} (h : MachAt E V m sv ov) (k : Nat) (v : Value) (hk : (mcells E m sv ov)[k]? = some v) : V.cell? ⟨E.B, k, none⟩ = some v := by
 rw [Lib.cell_of_heap h.blk k]; simpa using hk
theorem MachAt.frz {E : Env} {V : World} {m : Mach} {sv ov : Value} (h : MachAt E V m sv ov) (k : Nat) : V.frozen? ⟨E.B, k, none⟩ = false := by
 unfold World.frozen?; rw [show V.heap[E.B]? = _ from h.blk]; simp
theorem setCell_blk {V : World} {B k : Nat} {c : Array Value} {t : TypeId} {f : Nat × Nat} {v : Value} (h : V.heap[B]? = some (.cells c t f)) : (V.setCell ⟨B, k, none⟩ v).heap[B]? = some (.cells (c.setIfInBounds k v) t f) := by
 unfold World.setCell
 simp only [Array.getElem?_modify, h]
 simp
theorem own_set' {w : World} {base e size n N j : Nat} {v u : Value} {xs : List Value} {c : Array Value} {t : TypeId} {f : Nat × Nat} (h : w.ownsRow base e size v n xs) (hN : w.heap[N]? = some (.cells c t f)) (ht : t ≠ e) : (w.setCell ⟨N, j, none⟩ u).ownsRow base e size v n xs := by
 refine h.kept (row := some N) ⟨rfl, rfl, rfl, by simp, fun k hk hne => Below.heap_setCell _ _ _ _ (fun e => hne (by rw [e]))⟩ ?_
 cases hv : v.ownBlock with
 | none => exact .inl rfl
 | some k =>
  refine .inr (fun e => ?_)
  simp only [Option.some.injEq] at e
  subst e
  obtain ⟨_, c', f', h'⟩ := own_kind h _ hv
  rw [hN] at h'
  simp only [Option.some.injEq, Obj.cells.injEq] at h'
  exact ht h'.2.1
/-- A store into the machine's own block. -/
theorem MachAt.put {E : Env} {V : World} {m m' : Mach} {sv ov sv' ov' : Value} (h : MachAt E V m sv ov) (k : Nat) (v : Value) (hc : mcells E m' sv' ov' = (mcells E m sv ov).set k v) (hr : m'.ram = m.ram)
  (hs : V.ownsRow E.base 22 1 sv' m'.st.length (m'.st.map (Value.int .u16))) (ho : V.ownsRow E.base 54 2 ov' m'.out.length (outC m'.out)) (ok : m'.Ok) : MachAt E (V.setCell ⟨E.B, k, none⟩ v) m' sv' ov' := by
 have hk : Keeps E.base V (V.setCell ⟨E.B, k, none⟩ v) := Keeps.set h.blk h.env.lowB (.inl rfl)
 obtain ⟨cur, hrr, hrs, hrc⟩ := h.ram
 refine ⟨?_, ⟨cur, ?_, hrs, by rw [hr]; exact hrc⟩, own_set' hs h.blk (by decide), own_set' ho h.blk (by decide), h.bnk.keeps hk, h.inp.keeps hk, h.irq.keeps hk, ok, h.env⟩
 ·rw [setCell_blk h.blk, hc]; simp
 ·refine (Below.heap_setCell _ _ _ _ (fun e => ?_)).trans hrr
  have := h.blk
  simp only at e
  rw [← e, hrr] at this
  simp at this
theorem MachAt.putK {E : Env} {V : World} {m : Mach} {sv ov : Value} (h : MachAt E V m sv ov) (k : Nat) (v : Value) : Keeps E.base V (V.setCell ⟨E.B, k, none⟩ v) := Keeps.set h.blk h.env.lowB (.inl rfl)
/-- A store into RAM. -/
def setRam (r : Nat → Int) (j : Nat) (v : Int) : Nat → Int := fun i => if i = j then v else r i
theorem MachAt.poke {E : Env} {V : World} {m : Mach} {sv ov : Value} (h : MachAt E V m sv ov) (j : Nat) (v : Int) (hj : j < 8192) (h0 : 0 ≤ v) (h1 : v < 256) : MachAt E (V.setCell ⟨E.ramB, j, none⟩ (.int .u8 v)) { m with ram := setRam m.ram j v } sv ov := by
 obtain ⟨cur, hrr, hrs, hrc⟩ := h.ram
 have hk : Keeps E.base V (V.setCell ⟨E.ramB, j, none⟩ (.int .u8 v)) := Keeps.set hrr h.env.lowR (.inr (.inl rfl))
 refine ⟨?_, ⟨cur.setIfInBounds j (.int .u8 v), setCell_blk hrr, by simpa using hrs, fun i hi => ?_⟩, own_set' h.st hrr (by decide), own_set' h.out hrr (by decide), h.bnk.keeps hk, h.inp.keeps hk, h.irq.keeps hk, ?_, h.env⟩
 ·refine (Below.heap_setCell _ _ _ _ (fun e => ?_)).trans h.blk
  simp only at e
  rw [← e, h.blk] at hrr
  simp at hrr
 ·rw [Array.getElem?_setIfInBounds]
  unfold setRam
  by_cases e : j = i
  ·subst e
   rw [if_pos rfl, if_pos (by omega)]
   simp
  ·rw [if_neg e, hrc i hi]
   simp [show ¬ i = j from fun q => e q.symm]
 ·obtain ⟨a1, a2, a3, a4, a5, a6, a7, a8, a9, a10, a11, a12, a13, a14⟩ := h.ok
  refine ⟨a1, a2, a3, a4, a5, a6, a7, a8, a9, fun i => ?_, a11, a12, a13, a14⟩
  dsimp only [setRam]
  split
  ·exact ⟨h0, h1⟩
  ·exact a10 i
theorem MachAt.pokeK {E : Env} {V : World} {m : Mach} {sv ov : Value} (h : MachAt E V m sv ov) (j : Nat) (v : Value) : Keeps E.base V (V.setCell ⟨E.ramB, j, none⟩ v) := by
 obtain ⟨cur, hrr, hrs, hrc⟩ := h.ram
 exact Keeps.set hrr h.env.lowR (.inr (.inl rfl))
theorem MachAt.ramC {E : Env} {V : World} {m : Mach} {sv ov : Value} (h : MachAt E V m sv ov) (j : Nat) (hj : j < 8192) : V.cell? ⟨E.ramB, j, none⟩ = some (.int .u8 (m.ram j)) ∧ V.frozen? ⟨E.ramB, j, none⟩ = false := by
 obtain ⟨cur, hrr, hrs, hrc⟩ := h.ram
 refine ⟨by rw [Lib.cell_of_heap hrr j]; exact hrc j hj, ?_⟩
 unfold World.frozen?; rw [show V.heap[E.ramB]? = _ from hrr]; simp
end Go.Proofs.Ytieaicdihingkaa
