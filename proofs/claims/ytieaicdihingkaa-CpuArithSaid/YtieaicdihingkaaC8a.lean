/- Plain facts of the encoding of an instruction. -/
import Derived.Test.YtieaicdihingkaaC7
import Derived.Test.YtieaicdihingkaaC5
import Derived.Test.YtieaicdihingkaaJ0
namespace Go.Proofs.Ytieaicdihingkaa
set_option linter.unusedVariables false
set_option linter.unusedSimpArgs false
open Go.RowKit
def bytesI (l : List Int) : List UInt8 := l.map fun x => UInt8.ofNat x.toNat
theorem byte_one (x : Int) (h0 : 0 ≤ x) (h1 : x < 256) : ((UInt8.ofNat x.toNat).toNat : Int) = x := by
 rw [UInt8.toNat_ofNat']; simp only [Nat.reducePow]; omega
theorem bytesI_cells : ∀ (l : List Int), (∀ x ∈ l, 0 ≤ x ∧ x < 256) → Lib.byteCells (bytesI l) = l.map (Value.int .u8)
 | [], _ => rfl
 | x :: l, h => by
  have hx := h x (by simp)
  have ih := bytesI_cells l (fun y hy => h y (by simp [hy]))
  unfold Lib.byteCells bytesI at *
  rw [List.map_cons, List.map_cons, ih, byte_one x hx.1 hx.2]
  rfl
def encL (i : InsI) (fs : List Int) : List Int := (i.op % 256) :: fs.flatMap (putL · i)
def encB (i : InsI) (fs : List Int) : ByteArray := ⟨(bytesI (encL i fs)).toArray⟩
def sameI (a b : InsI) : Bool := decide (a.op = b.op) && (decide (a.d = b.d) && (decide (a.s = b.s) && (decide (a.imm = b.imm) && (decide (a.aux = b.aux) && (decide (a.bank = b.bank) && decide (a.size = b.size))))))
def validI (i : InsI) : Bool :=
 match fmtOf i.op with
 | none => false
 | some fs => fs.all (fitI · i) && sameI (readI (encB i fs) fs) i
theorem putL_bd (f : Int) (i : InsI) (hi : i.Ok) (h : fitI f i = true) : ∀ x ∈ putL f i, 0 ≤ x ∧ x < 256 := by
 obtain ⟨u0, u1, v0, v1⟩ := hi
 intro x hx
 have hz : f = 1 ∨ f = 2 ∨ f = 3 ∨ f = 4 ∨ f = 5 ∨ f = 6 ∨ f = 7 ∨ f = 8 ∨ f = 9 ∨ putL f i = [] := by
  by_cases e : 1 ≤ f ∧ f ≤ 9
  ·omega
  ·have : putL f i = [] := by unfold putL; rw [if_neg (by omega), if_neg (by omega), if_neg (by omega), if_neg (by omega), if_neg (by omega), if_neg (by omega), if_neg (by omega)]
   simp [this]
 rcases hz with rfl | rfl | rfl | rfl | rfl | rfl | rfl | rfl | rfl | hz
 all_goals first | (rw [hz] at hx; cases hx; done) | (simp [putL, fitI, regI] at hx h; omega)
theorem putL_len (f : Int) (i : InsI) (h0 : 0 ≤ f) (h9 : f ≤ 9) : ((putL f i).length : Int) = widthI f := by
 rcases (show f = 0 ∨ f = 1 ∨ f = 2 ∨ f = 3 ∨ f = 4 ∨ f = 5 ∨ f = 6 ∨ f = 7 ∨ f = 8 ∨ f = 9 by omega) with rfl | rfl | rfl | rfl | rfl | rfl | rfl | rfl | rfl | rfl <;> rfl
theorem fmtFind_mem (op : Int) (fs : List Int) : ∀ l : List (Int × Int × List Int), fmtFind op l = some fs → ∃ a b, (a, b, fs) ∈ l ∧ a ≤ op ∧ op ≤ b
 | [], h => by cases h
 | (a, b, x) :: t, h => by
  unfold fmtFind at h
  split at h
  ·cases h; exact ⟨a, b, by simp, by assumption⟩
  ·obtain ⟨a', b', h1, h2⟩ := fmtFind_mem op fs t h
   exact ⟨a', b', by simp [h1], h2⟩
theorem formatL_bd : ∀ e ∈ formatL, 0 ≤ e.1 ∧ e.2.1 ≤ 255 ∧ ∀ f ∈ e.2.2, 0 ≤ f ∧ f ≤ 9 := by decide
theorem fmtOf_bd {op : Int} {fs : List Int} (h : fmtOf op = some fs) : (0 ≤ op ∧ op ≤ 255) ∧ ∀ f ∈ fs, 0 ≤ f ∧ f ≤ 9 := by
 obtain ⟨a, b, h1, h2⟩ := fmtFind_mem op fs _ h
 obtain ⟨h3, h4, h5⟩ := formatL_bd _ h1
 exact ⟨⟨by simp at h3; omega, by simp at h4; omega⟩, h5⟩
theorem encL_bd (i : InsI) (hi : i.Ok) (fs : List Int) (h : ∀ f ∈ fs, fitI f i = true) : ∀ x ∈ encL i fs, 0 ≤ x ∧ x < 256 := by
 intro x hx
 unfold encL at hx
 rw [List.mem_cons] at hx
 rcases hx with rfl | hx
 ·omega
 ·obtain ⟨f, hf, hx⟩ := List.mem_flatMap.1 hx
  exact putL_bd f i hi (h f hf) x hx
theorem encL_len (i : InsI) : ∀ (fs : List Int), (∀ f ∈ fs, 0 ≤ f ∧ f ≤ 9) → ((encL i fs).length : Int) = 1 + (fs.map widthI).sum
 | [], _ => rfl
 | f :: fs, h => by
  have ih := encL_len i fs (fun g hg => h g (by simp [hg]))
  have hf := h f (by simp)
  have := putL_len f i hf.1 hf.2
  unfold encL at *
  rw [List.flatMap_cons, List.length_cons, List.length_append]
  rw [List.length_cons] at ih
  rw [List.map_cons, List.sum_cons]
  push_cast at *
  omega
theorem encB_size (i : InsI) (fs : List Int) : (encB i fs).size = (encL i fs).length := by
 show (bytesI (encL i fs)).toArray.size = _
 simp [bytesI]
theorem encL_step (i : InsI) (fs : List Int) (k : Nat) (f : Int) (h : fs[k]? = some f) : encL i (fs.take (k + 1)) = encL i (fs.take k) ++ putL f i := by
 unfold encL
 rw [List.take_add_one, h]
 simp
theorem all_step (i : InsI) (fs : List Int) (k : Nat) (f : Int) (h : fs[k]? = some f) (hk : ∀ g ∈ fs.take k, fitI g i = true) (hf : fitI f i = true) : ∀ g ∈ fs.take (k + 1), fitI g i = true := by
 intro g hg
 rw [List.take_add_one, h] at hg
 simp at hg
 rcases hg with hg | rfl
 ·exact hk g hg
 ·exact hf
end Go.Proofs.Ytieaicdihingkaa
