/- Plain mathematics of relocations and of images. No program in sight. -/
import Derived.Test.YtgdiaaoekkdibaaP0
import Derived.Test.YtgdiaaoekkdibaaW2
namespace Go.Proofs.Ytgdiaaoekkdibaa
set_option linter.unusedVariables false
open Go.RowKit
def RelI.bad0 (r : RelI) (banks : Int) : Prop := r.bank < 0 ∨ banks ≤ r.bank ∨ 4094 < r.off
def RelI.after (p r : RelI) : Prop := r.bank < p.bank ∨ (p.bank = r.bank ∧ r.off < p.off + 2)
instance (o : RelI) (b : Int) : Decidable (o.bad0 b) := by unfold RelI.bad0; infer_instance
instance (p o : RelI) : Decidable (p.after o) := by unfold RelI.after; infer_instance
def RelI.late (p : Option RelI) (r : RelI) : Prop := match p with | none => False | some p => p.after r
instance (p : Option RelI) (r : RelI) : Decidable (RelI.late p r) := by unfold RelI.late; split <;> infer_instance
def bankOf (banks : List ByteArray) (r : RelI) : ByteArray := (banks[r.bank.toNat]?).getD ⟨#[]⟩
/-- The word at a relocation. -/
def relWord (banks : List ByteArray) (r : RelI) : Int := getI ((bankOf banks r).extract r.off.toNat (bankOf banks r).size)
def relMeets (banks : List ByteArray) (data : List ObjI) (r : RelI) : Bool := (objFind (-1) (relWord banks r) data 0).2.2
def relWrong (banks : List ByteArray) (data : List ObjI) (p : Option RelI) (r : RelI) : Bool :=
  decide (r.bad0 banks.length ∨ RelI.late p r) || !relMeets banks data r
def firstRel (banks : List ByteArray) (data : List ObjI) : Option RelI → List RelI → Nat → Int
  | _, [], _ => -1
  | p, r :: l, n => if relWrong banks data p r then n else firstRel banks data (some r) l (n + 1)
theorem firstRel_hit (banks : List ByteArray) (data : List ObjI) (l : List RelI) (k : Nat) (o : RelI) (p : Option RelI) (h : l[k]? = some o) (hh : relWrong banks data p o = true) : firstRel banks data p (l.drop k) k = k := by
  rw [drop_at l k o h]; simp [firstRel, hh]
theorem firstRel_miss (banks : List ByteArray) (data : List ObjI) (l : List RelI) (k : Nat) (o : RelI) (p : Option RelI) (h : l[k]? = some o) (hh : relWrong banks data p o = false) : firstRel banks data p (l.drop k) k = firstRel banks data (prevAt l (k + 1)) (l.drop (k + 1)) (k + 1) := by
  rw [drop_at l k o h, prev_next, h]; simp [firstRel, hh]
theorem firstRel_end (banks : List ByteArray) (data : List ObjI) (l : List RelI) (p : Option RelI) : firstRel banks data p (l.drop l.length) l.length = -1 := by simp [firstRel]
theorem getI_bd (s : ByteArray) : OkU16 (getI s) := by
  have h0 := byteI_bd s 0
  have h1 := byteI_bd s 1
  unfold OkU16 getI; omega
/-- An image value, and what it says of memory. -/
def imgV (p1 : Option Addr) (c1 : Nat) (p2 : Option Addr) (c2 : Nat) (p3 : Option Addr) (c3 : Nat) (I : Img) : Value :=
  .agg #[.slice p1 I.banks.length c1, .int .u16 I.entry, .int .u16 I.vector, .slice p2 I.data.length c2, .slice p3 I.relocs.length c3]
structure ImgAt (w : World) (p1 p2 p3 : Option Addr) (I : Img) : Prop where
  banks : StrsAt w p1 I.banks
  data : ObjsAt w p2 I.data
  relocs : RelsAt w p3 I.relocs
  entry : OkU16 I.entry
  vector : OkU16 I.vector
  l1 : I.banks.length ≤ maxLen
  l2 : I.data.length ≤ maxLen
  l3 : I.relocs.length ≤ maxLen
theorem ImgAt.kept {w w' : World} {p1 p2 p3 : Option Addr} {I : Img} (h : ImgAt w p1 p2 p3 I) (hb : Below w.heap.size w w') : ImgAt w' p1 p2 p3 I :=
  ⟨h.banks.kept hb, h.data.kept hb, h.relocs.kept hb, h.entry, h.vector, h.l1, h.l2, h.l3⟩
def Full (l : List ByteArray) : Prop := ∀ s ∈ l, s.size = 4096
/-- P3.1. -/
def checkI (I : Img) : Int :=
  if I.banks.length < 1 ∨ 64 < I.banks.length ∨ ¬ (∀ s ∈ I.banks, s.size = 4096) then 22
  else if 512 < I.data.length ∨ 20000 < I.relocs.length then 2
  else if 4096 ≤ I.entry ∨ 4096 ≤ I.vector ∨ 0 ≤ firstObj I.banks.length none I.data 0 ∨ 0 ≤ firstRel I.banks I.data none I.relocs 0 then 37 else 0
end Go.Proofs.Ytgdiaaoekkdibaa
