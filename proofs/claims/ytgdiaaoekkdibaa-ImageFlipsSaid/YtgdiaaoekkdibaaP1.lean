/- Plain mathematics of relocations and of images. No program in sight. -/
import Derived.Test.YtgdiaaoekkdibaaP0
import Derived.Test.YtgdiaaoekkdibaaW1
namespace Go.Proofs.Ytgdiaaoekkdibaa
set_option linter.unusedVariables false
open Go.RowKit
def RelI.bad0 (r : RelI) (banks : Int) : Prop := r.bank < 0 ∨ banks ≤ r.bank ∨ 4094 < r.off
def RelI.after (p r : RelI) : Prop := r.bank < p.bank ∨ (p.bank = r.bank ∧ r.off < p.off + 2)
instance (o : RelI) (b : Int) : Decidable (o.bad0 b) := by unfold RelI.bad0; infer_instance
instance (p o : RelI) : Decidable (p.after o) := by unfold RelI.after; infer_instance
def RelI.late (p : Option RelI) (r : RelI) : Prop := match p with | none => False | some p => p.after r
instance (p : Option RelI) (r : RelI) : Decidable (RelI.late p r) := by unfold RelI.late; split <;> infer_instance
def bankOf (banks : List ByteArray) (r : RelI) : ByteArray := (banks[r.bank.toNat]?).getD ⟨#[]⟩
/-- The word at a relocation. -/
def relWord (banks : List ByteArray) (r : RelI) : Int := getI ((bankOf banks r).extract r.off.toNat (bankOf banks r).size)
def relMeets (banks : List ByteArray) (data : List ObjI) (r : RelI) : Bool := (objFind (-1) (relWord banks r) data 0).2.2
def relWrong (banks : List ByteArray) (data : List ObjI) (p : Option RelI) (r : RelI) : Bool :=
  decide (r.bad0 banks.length ∨ RelI.late p r) || !relMeets banks data r
def firstRel (banks : List ByteArray) (data : List ObjI) : Option RelI → List RelI → Nat → Int
  | _, [], _ => -1
  | p, r :: l, n => if relWrong banks data p r then n else firstRel banks data (some r) l (n + 1)
theorem firstRel_hit (banks : List ByteArray) (data : List ObjI) (l : List RelI) (k : Nat) (o : RelI) (p : Option RelI) (h : l[k]? = some o) (hh : relWrong banks data p o = true) : firstRel banks data p (l.drop k) k = k := by
  rw [drop_at l k o h]; simp [firstRel, hh]
theorem firstRel_miss (banks : List ByteArray) (data : List ObjI) (l : List RelI) (k : Nat) (o : RelI) (p : Option RelI) (h : l[k]? = some o) (hh : relWrong banks data p o = false) : firstRel banks data p (l.drop k) k = firstRel banks data (prevAt l (k + 1)) (l.drop (k + 1)) (k + 1) := by
  rw [drop_at l k o h, prev_next, h]; simp [firstRel, hh]
theorem firstRel_end (banks : List ByteArray) (data : List ObjI) (l : List RelI) (p : Option RelI) : firstRel banks data p (l.drop l.length) l.length = -1 := by simp [firstRel]
theorem getI_bd (s : ByteArray) : OkU16 (getI s) := by
  have h0 := byteI_bd s 0
  have h1 := byteI_bd s 1
  unfold OkU16 getI; omega
/-- An image value, and what it says of memory. -/
def imgV (p1 : Option Addr) (c1 : Nat) (p2 : Option Addr) (c2 : Nat) (p3 : Option Addr) (c3 : Nat) (I : Img) : Value :=
  .agg #[.slice p1 I.banks.length c1, .int .u16 I.entry, .int .u16 I.vector, .slice p2 I.data.length c2, .slice p3 I.relocs.length c3]
structure ImgAt (w : World) (p1 p2 p3 : Option Addr) (I : Img) : Prop where
  banks : StrsAt w p1 I.banks
  data : ObjsAt w p2 I.data
  relocs : RelsAt w p3 I.relocs
  entry : OkU16 I.entry
  vector : OkU16 I.vector
  l1 : I.banks.length ≤ maxLen
  l2 : I.data.length ≤ maxLen
  l3 : I.relocs.length ≤ maxLen
theorem ImgAt.kept {w w' : World} {p1 p2 p3 : Option Addr} {I : Img} (h : ImgAt w p1 p2 p3 I) (hb : Below w.heap.size w w') : ImgAt w' p1 p2 p3 I :=
  ⟨h.banks.kept hb, h.data.kept hb, h.relocs.kept hb, h.entry, h.vector, h.l1, h.l2, h.l3⟩
def Full (l : List ByteArray) : Prop := ∀ s ∈ l, s.size = 4096
/-- P3.1. -/
def checkI (I : Img) : Int :=
  if I.banks.length < 1 ∨ 64 < I.banks.length ∨ ¬ (∀ s ∈ I.banks, s.size = 4096) then 22
  else if 512 < I.data.length ∨ 20000 < I.relocs.length then 2
  else if 4096 ≤ I.entry ∨ 4096 ≤ I.vector ∨ 0 ≤ firstObj I.banks.length none I.data 0 ∨ 0 ≤ firstRel I.banks I.data none I.relocs 0 then 37 else 0
end Go.Proofs.Ytgdiaaoekkdibaa
namespace Go.Proofs.Ytgdiaaoekkdibaa
set_option linter.unusedVariables false
open Go.RowKit
/-- The word at an offset of a string. -/
def wordAt (s : ByteArray) (k : Nat) : Int := getI (s.extract k s.size)
theorem byteI_drop (s : ByteArray) (k j : Nat) : byteI (s.extract k s.size) j = byteI s (k + j) := by
  unfold byteI
  have : (s.extract k s.size).data.toList = s.data.toList.drop k := by
    rw [ByteArray.data_extract, Array.toList_extract, List.extract_eq_take_drop]
    exact List.take_of_length_le (by rw [List.length_drop]; exact Nat.le_refl _)
  rw [this, List.getElem?_drop]
theorem wordAt_eq (s : ByteArray) (k : Nat) : wordAt s k = byteI s k + byteI s (k + 1) * 256 := by
  unfold wordAt getI; rw [byteI_drop, byteI_drop]; rfl
theorem wordAt_bd (s : ByteArray) (k : Nat) : 0 ≤ wordAt s k ∧ wordAt s k < 65536 := getI_bd _
def isVelm (s : ByteArray) : Bool := (s.extract 0 4).toList == [86, 69, 76, 77]
def nO (s : ByteArray) : Nat := (wordAt s 10).toNat
def nR (s : ByteArray) : Nat := (wordAt s 12).toNat
def nB (s : ByteArray) : Nat := (wordAt s 4).toNat
def firstA (s : ByteArray) : Nat := 14 + 5 * nO s
def startA (s : ByteArray) : Nat := firstA s + 3 * nR s
def stopA (s : ByteArray) : Nat := startA s + 4096 * nB s
theorem nO_cast (s : ByteArray) : (nO s : Int) = wordAt s 10 := by have := wordAt_bd s 10; unfold nO; omega
theorem nR_cast (s : ByteArray) : (nR s : Int) = wordAt s 12 := by have := wordAt_bd s 12; unfold nR; omega
theorem nB_cast (s : ByteArray) : (nB s : Int) = wordAt s 4 := by have := wordAt_bd s 4; unfold nB; omega
/-- The error of the head of a file: its offset, and its number. -/
def headE (s : ByteArray) : Int × Int :=
  if s.size < 4 then (s.size, 10)
  else if isVelm s = false then (0, 20)
  else if s.size < 14 then (s.size, 10)
  else if wordAt s 4 < 1 ∨ 64 < wordAt s 4 then (4, 22)
  else if 512 < wordAt s 10 then (10, 2)
  else if 20000 < wordAt s 12 then (12, 2)
  else if 4096 ≤ wordAt s 6 then (6, 37)
  else if 4096 ≤ wordAt s 8 then (8, 37)
  else (0, 0)
theorem headE_ok (s : ByteArray) (h : (headE s).2 = 0) : 14 ≤ s.size ∧ isVelm s = true ∧ 1 ≤ wordAt s 4 ∧ wordAt s 4 ≤ 64 ∧ wordAt s 10 ≤ 512 ∧ wordAt s 12 ≤ 20000 ∧ wordAt s 6 < 4096 ∧ wordAt s 8 < 4096 := by
  unfold headE at h
  by_cases h1 : s.size < 4
  · rw [if_pos h1] at h; simp at h
  rw [if_neg h1] at h
  by_cases h2 : isVelm s = false
  · rw [if_pos h2] at h; simp at h
  rw [if_neg h2] at h
  by_cases h3 : s.size < 14
  · rw [if_pos h3] at h; simp at h
  rw [if_neg h3] at h
  by_cases h4 : wordAt s 4 < 1 ∨ 64 < wordAt s 4
  · rw [if_pos h4] at h; simp at h
  rw [if_neg h4] at h
  by_cases h5 : 512 < wordAt s 10
  · rw [if_pos h5] at h; simp at h
  rw [if_neg h5] at h
  by_cases h6 : 20000 < wordAt s 12
  · rw [if_pos h6] at h; simp at h
  rw [if_neg h6] at h
  by_cases h7 : 4096 ≤ wordAt s 6
  · rw [if_pos h7] at h; simp at h
  rw [if_neg h7] at h
  by_cases h8 : 4096 ≤ wordAt s 8
  · rw [if_pos h8] at h; simp at h
  exact ⟨by omega, by simpa using h2, by omega, by omega, by omega, by omega, by omega, by omega⟩
theorem headE_0 (s : ByteArray)  (h : s.size < 4) : headE s = ((s.size : Int), 10) := by
  unfold headE; rw [if_pos h]
theorem headE_1 (s : ByteArray) (h0 : ¬ s.size < 4) (h : isVelm s = false) : headE s = (0, 20) := by
  unfold headE; rw [if_neg h0, if_pos h]
theorem headE_2 (s : ByteArray) (h0 : ¬ s.size < 4) (h1 : ¬ isVelm s = false) (h : s.size < 14) : headE s = ((s.size : Int), 10) := by
  unfold headE; rw [if_neg h0, if_neg h1, if_pos h]
theorem headE_3 (s : ByteArray) (h0 : ¬ s.size < 4) (h1 : ¬ isVelm s = false) (h2 : ¬ s.size < 14) (h : (wordAt s 4 < 1 ∨ 64 < wordAt s 4)) : headE s = (4, 22) := by
  unfold headE; rw [if_neg h0, if_neg h1, if_neg h2, if_pos h]
theorem headE_4 (s : ByteArray) (h0 : ¬ s.size < 4) (h1 : ¬ isVelm s = false) (h2 : ¬ s.size < 14) (h3 : ¬ (wordAt s 4 < 1 ∨ 64 < wordAt s 4)) (h : 512 < wordAt s 10) : headE s = (10, 2) := by
  unfold headE; rw [if_neg h0, if_neg h1, if_neg h2, if_neg h3, if_pos h]
theorem headE_5 (s : ByteArray) (h0 : ¬ s.size < 4) (h1 : ¬ isVelm s = false) (h2 : ¬ s.size < 14) (h3 : ¬ (wordAt s 4 < 1 ∨ 64 < wordAt s 4)) (h4 : ¬ 512 < wordAt s 10) (h : 20000 < wordAt s 12) : headE s = (12, 2) := by
  unfold headE; rw [if_neg h0, if_neg h1, if_neg h2, if_neg h3, if_neg h4, if_pos h]
theorem headE_6 (s : ByteArray) (h0 : ¬ s.size < 4) (h1 : ¬ isVelm s = false) (h2 : ¬ s.size < 14) (h3 : ¬ (wordAt s 4 < 1 ∨ 64 < wordAt s 4)) (h4 : ¬ 512 < wordAt s 10) (h5 : ¬ 20000 < wordAt s 12) (h : 4096 ≤ wordAt s 6) : headE s = (6, 37) := by
  unfold headE; rw [if_neg h0, if_neg h1, if_neg h2, if_neg h3, if_neg h4, if_neg h5, if_pos h]
theorem headE_7 (s : ByteArray) (h0 : ¬ s.size < 4) (h1 : ¬ isVelm s = false) (h2 : ¬ s.size < 14) (h3 : ¬ (wordAt s 4 < 1 ∨ 64 < wordAt s 4)) (h4 : ¬ 512 < wordAt s 10) (h5 : ¬ 20000 < wordAt s 12) (h6 : ¬ 4096 ≤ wordAt s 6) (h : 4096 ≤ wordAt s 8) : headE s = (8, 37) := by
  unfold headE; rw [if_neg h0, if_neg h1, if_neg h2, if_neg h3, if_neg h4, if_neg h5, if_neg h6, if_pos h]
theorem headE_8 (s : ByteArray) (h0 : ¬ s.size < 4) (h1 : ¬ isVelm s = false) (h2 : ¬ s.size < 14) (h3 : ¬ (wordAt s 4 < 1 ∨ 64 < wordAt s 4)) (h4 : ¬ 512 < wordAt s 10) (h5 : ¬ 20000 < wordAt s 12) (h6 : ¬ 4096 ≤ wordAt s 6) (h7 : ¬ 4096 ≤ wordAt s 8) : headE s = (0, 0) := by
  unfold headE; rw [if_neg h0, if_neg h1, if_neg h2, if_neg h3, if_neg h4, if_neg h5, if_neg h6, if_neg h7]
def objAt (s : ByteArray) (n : Nat) : ObjI := ⟨if byteI s (14 + 5 * n) = 255 then -1 else byteI s (14 + 5 * n), wordAt s (14 + 5 * n + 1), wordAt s (14 + 5 * n + 3)⟩
def relAt (s : ByteArray) (n : Nat) : RelI := ⟨byteI s (firstA s + 3 * n), wordAt s (firstA s + 3 * n + 1)⟩
def bankS (s : ByteArray) (n : Nat) : ByteArray := s.extract (startA s + n * 4096) (startA s + (n + 1) * 4096)
/-- The image that a file describes. -/
def imgOf (s : ByteArray) : Img :=
  { banks := (List.range (nB s)).map (bankS s), entry := wordAt s 6, vector := wordAt s 8, data := (List.range (nO s)).map (objAt s), relocs := (List.range (nR s)).map (relAt s) }
def emptyI : Img := ⟨[], 0, 0, [], []⟩
/-- The error of the whole file. -/
def readE (s : ByteArray) : Int × Int :=
  if (headE s).2 ≠ 0 then headE s
  else if s.size < stopA s + 2 then (s.size, 10)
  else if stopA s + 2 < s.size then (stopA s + 2, 20)
  else if wordAt s (stopA s) ≠ sumI (s.extract 0 (stopA s)) (stopA s) then (stopA s, 21)
  else if 0 ≤ firstObj (nB s) none (imgOf s).data 0 then (14 + 5 * firstObj (nB s) none (imgOf s).data 0, 37)
  else if 0 ≤ firstRel (imgOf s).banks (imgOf s).data none (imgOf s).relocs 0 then (firstA s + 3 * firstRel (imgOf s).banks (imgOf s).data none (imgOf s).relocs 0, 37)
  else (0, 0)
def readI (s : ByteArray) : Img := if (readE s).2 = 0 then imgOf s else emptyI
end Go.Proofs.Ytgdiaaoekkdibaa
