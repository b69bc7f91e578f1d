/- Plain mathematics of images: no program in sight. -/
import Derived.WalkKit
import Derived.Lib.Hide
import Derived.Deep.QuietTactic
namespace Go.Proofs.Ytgdiaaoekkdibaa
set_option linter.unusedVariables false
open Go.RowKit
structure ObjI where
  bank : Int
  addr : Int
  size : Int
structure RelI where
  bank : Int
  off : Int
structure Img where
  banks : List ByteArray
  entry : Int
  vector : Int
  data : List ObjI
  relocs : List RelI
def OkI64 (n : Int) : Prop := -9223372036854775808 ≤ n ∧ n ≤ 9223372036854775807
def OkU16 (n : Int) : Prop := 0 ≤ n ∧ n < 65536
def ObjI.ok (o : ObjI) : Prop := OkI64 o.bank ∧ OkU16 o.addr ∧ OkU16 o.size
def RelI.ok (r : RelI) : Prop := OkI64 r.bank ∧ OkU16 r.off
def ObjI.cells (o : ObjI) : List Value := [.int .i64 o.bank, .int .u16 o.addr, .int .u16 o.size]
def RelI.cells (r : RelI) : List Value := [.int .i64 r.bank, .int .u16 r.off]
def ObjI.val (o : ObjI) : Value := .agg #[.int .i64 o.bank, .int .u16 o.addr, .int .u16 o.size]
def RelI.val (r : RelI) : Value := .agg #[.int .i64 r.bank, .int .u16 r.off]

/-- A slice value's elements in memory: objects, relocations, strings. -/
def ObjsAt (w : World) (a : Option Addr) (l : List ObjI) : Prop :=
  ∀ k o, l[k]? = some o → ∃ B, a = some ⟨B, 0, none⟩ ∧ B < w.heap.size ∧ w.cell? ⟨B, k * 3, none⟩ = some (.int .i64 o.bank) ∧ w.cell? ⟨B, k * 3 + 1, none⟩ = some (.int .u16 o.addr) ∧ w.cell? ⟨B, k * 3 + 2, none⟩ = some (.int .u16 o.size) ∧ o.ok
def RelsAt (w : World) (a : Option Addr) (l : List RelI) : Prop :=
  ∀ k o, l[k]? = some o → ∃ B, a = some ⟨B, 0, none⟩ ∧ B < w.heap.size ∧ w.cell? ⟨B, k * 2, none⟩ = some (.int .i64 o.bank) ∧ w.cell? ⟨B, k * 2 + 1, none⟩ = some (.int .u16 o.off) ∧ o.ok
def StrsAt (w : World) (a : Option Addr) (l : List ByteArray) : Prop :=
  ∀ k s, l[k]? = some s → ∃ B, a = some ⟨B, 0, none⟩ ∧ B < w.heap.size ∧ w.cell? ⟨B, k, none⟩ = some (.string s) ∧ s.size ≤ maxLen
def IntsAt (w : World) (a : Option Addr) (l : List Int) : Prop :=
  ∀ k n, l[k]? = some n → ∃ B off, a = some ⟨B, off, none⟩ ∧ B < w.heap.size ∧ w.cell? ⟨B, off + k, none⟩ = some (.int .i64 n) ∧ OkI64 n
theorem ObjsAt.kept {w w' : World} {a : Option Addr} {l : List ObjI} (h : ObjsAt w a l) (hb : Below w.heap.size w w') : ObjsAt w' a l := by
  intro k o hk
  obtain ⟨B, e, hB, c0, c1, c2, ok⟩ := h k o hk
  exact ⟨B, e, Nat.lt_of_lt_of_le hB hb.size, (hb.cell hB).trans c0, (hb.cell hB).trans c1, (hb.cell hB).trans c2, ok⟩
theorem RelsAt.kept {w w' : World} {a : Option Addr} {l : List RelI} (h : RelsAt w a l) (hb : Below w.heap.size w w') : RelsAt w' a l := by
  intro k o hk
  obtain ⟨B, e, hB, c0, c1, ok⟩ := h k o hk
  exact ⟨B, e, Nat.lt_of_lt_of_le hB hb.size, (hb.cell hB).trans c0, (hb.cell hB).trans c1, ok⟩
theorem StrsAt.kept {w w' : World} {a : Option Addr} {l : List ByteArray} (h : StrsAt w a l) (hb : Below w.heap.size w w') : StrsAt w' a l := by
  intro k o hk
  obtain ⟨B, e, hB, c0, ok⟩ := h k o hk
  exact ⟨B, e, Nat.lt_of_lt_of_le hB hb.size, (hb.cell hB).trans c0, ok⟩
theorem IntsAt.kept {w w' : World} {a : Option Addr} {l : List Int} (h : IntsAt w a l) (hb : Below w.heap.size w w') : IntsAt w' a l := by
  intro k o hk
  obtain ⟨B, off, e, hB, c0, ok⟩ := h k o hk
  exact ⟨B, off, e, Nat.lt_of_lt_of_le hB hb.size, (hb.cell hB).trans c0, ok⟩

theorem ret_int {k : IntKind} {a b : Int} (h : a = b) : Ending.returned (.int k a) = .returned (.int k b) := by rw [h]
theorem ret_bool {a b : Bool} (h : a = b) : Ending.returned (.bool a) = .returned (.bool b) := by rw [h]
theorem wrap_in (n : Int) (h0 : 0 ≤ n) (h1 : n < 65536) : IntKind.u16.wrap n = n := by rw [IntKind.wrap_u16]; omega
theorem dec_true {P : Prop} [Decidable P] (h : P) : true = decide P := (decide_eq_true h).symm
theorem dec_false {P : Prop} [Decidable P] (h : ¬ P) : false = decide P := (decide_eq_false h).symm
theorem below_drewN {B : Nat} {a w : World} (h : Below B a w) (n : Nat) : Below B a (w.drewN n) := ⟨h.os, h.tape, h.output, h.size, h.block⟩
theorem below1 (w : World) (a : Obj) : Below w.heap.size w (w.alloc a) := (Below.refl _ _).alloc (Nat.le_refl _) _
theorem below_next {w w1 w2 : World} (h : Below w.heap.size w w1) (k : Below w1.heap.size w1 w2) : Below w.heap.size w w2 := h.trans (k.mono h.size)
theorem below_alloc {w w1 : World} (h : Below w.heap.size w w1) (o : Obj) : Below w.heap.size w (w1.alloc o) := h.alloc h.size o

/-- The object that contains a byte. -/
def ObjI.has (o : ObjI) (bank a : Int) : Bool := decide (o.bank = bank ∧ o.addr ≤ a ∧ a < o.addr + o.size)
def objFind (bank a : Int) : List ObjI → Nat → Int × Int × Bool
  | [], _ => (0, 0, false)
  | o :: l, n => if o.has bank a then (n, a - o.addr, true) else objFind bank a l (n + 1)
theorem drop_at {α : Type} (l : List α) (k : Nat) (o : α) (h : l[k]? = some o) : l.drop k = o :: l.drop (k + 1) := by
  obtain ⟨hk, e⟩ := List.getElem?_eq_some_iff.1 h
  rw [List.drop_eq_getElem_cons hk, e]
theorem at_some {α : Type} (l : List α) (k : Nat) (h : k < l.length) : ∃ o, l[k]? = some o := ⟨l[k], List.getElem?_eq_getElem h⟩
theorem objFind_hit (bank a : Int) (l : List ObjI) (k : Nat) (o : ObjI) (h : l[k]? = some o) (hh : o.has bank a = true) : objFind bank a (l.drop k) k = ((k : Int), a - o.addr, true) := by
  rw [drop_at l k o h]; simp [objFind, hh]
theorem objFind_miss (bank a : Int) (l : List ObjI) (k : Nat) (o : ObjI) (h : l[k]? = some o) (hh : o.has bank a = false) : objFind bank a (l.drop k) k = objFind bank a (l.drop (k + 1)) (k + 1) := by
  rw [drop_at l k o h]; simp [objFind, hh]
theorem objFind_end (bank a : Int) (l : List ObjI) : objFind bank a (l.drop l.length) l.length = (0, 0, false) := by simp [objFind]
def trio (t : Int × Int × Bool) : Value := .tuple #[.int .i64 t.1, .int .u16 t.2.1, .bool t.2.2]

/-- What is wrong with an object by itself, and behind another one. -/
def ObjI.bad0 (o : ObjI) (banks : Int) : Prop :=
  o.size = 0 ∨ o.bank < -1 ∨ banks ≤ o.bank ∨ (o.bank < 0 ∧ (o.addr < 16384 ∨ 24576 < o.addr + o.size)) ∨ (0 ≤ o.bank ∧ 4096 < o.addr + o.size)
def ObjI.after (p o : ObjI) : Prop := o.bank < p.bank ∨ (p.bank = o.bank ∧ o.addr < p.addr + p.size)
instance (o : ObjI) (b : Int) : Decidable (o.bad0 b) := by unfold ObjI.bad0; infer_instance
instance (p o : ObjI) : Decidable (p.after o) := by unfold ObjI.after; infer_instance
def objWrong (banks : Int) (p : Option ObjI) (o : ObjI) : Bool :=
  match p with
  | none => decide (o.bad0 banks)
  | some p => decide (o.bad0 banks ∨ p.after o)
def prevAt {α : Type} (l : List α) (k : Nat) : Option α := if k = 0 then none else l[k - 1]?
/-- The first wrong object, or -1. -/
def firstObj (banks : Int) : Option ObjI → List ObjI → Nat → Int
  | _, [], _ => -1
  | p, o :: l, n => if objWrong banks p o then n else firstObj banks (some o) l (n + 1)
theorem prev_next {α : Type} (l : List α) (k : Nat) : prevAt l (k + 1) = l[k]? := by unfold prevAt; rw [if_neg (by omega)]; rfl
theorem firstObj_hit (banks : Int) (l : List ObjI) (k : Nat) (o : ObjI) (p : Option ObjI) (h : l[k]? = some o) (hh : objWrong banks p o = true) : firstObj banks p (l.drop k) k = k := by
  rw [drop_at l k o h]; simp [firstObj, hh]
theorem firstObj_miss (banks : Int) (l : List ObjI) (k : Nat) (o : ObjI) (p : Option ObjI) (h : l[k]? = some o) (hh : objWrong banks p o = false) : firstObj banks p (l.drop k) k = firstObj banks (prevAt l (k + 1)) (l.drop (k + 1)) (k + 1) := by
  rw [drop_at l k o h, prev_next, h]; simp [firstObj, hh]
theorem firstObj_end (banks : Int) (l : List ObjI) (p : Option ObjI) : firstObj banks p (l.drop l.length) l.length = -1 := by simp [firstObj]
def cmpI (a b : Int) : Int := if a < b then -1 else if b < a then 1 else 0
end Go.Proofs.Ytgdiaaoekkdibaa
