/- Plain mathematics of an image's file. No program in sight. -/
import Derived.Test.YtgdiaaoekkdibaaB1
namespace Go.Proofs.Ytgdiaaoekkdibaa
set_option linter.unusedVariables false
open Go.RowKit
def objB (o : ObjI) : List UInt8 := [byteOf o.bank] ++ putL [o.addr, o.size]
def relB (r : RelI) : List UInt8 := [byteOf r.bank] ++ putL [r.off]
def strB (s : ByteArray) : List UInt8 := s.data.toList
def headL (I : Img) : List UInt8 := [86, 69, 76, 77] ++ putL [(I.banks.length : Int) % 65536, I.entry, I.vector, (I.data.length : Int) % 65536, (I.relocs.length : Int) % 65536]
def bodyL (I : Img) : List UInt8 := headL I ++ I.data.flatMap objB ++ I.relocs.flatMap relB ++ I.banks.flatMap strB
def bytesOf (l : List UInt8) : ByteArray := ⟨l.toArray⟩
theorem bytesOf_size (l : List UInt8) : (bytesOf l).size = l.length := rfl
def fileL (I : Img) : List UInt8 := bodyL I ++ putL [sumI (bytesOf (bodyL I)) (bodyL I).length]
def fileI (I : Img) : ByteArray := bytesOf (fileL I)
theorem flat_take {α : Type} (f : α → List UInt8) (l : List α) (k : Nat) (o : α) (h : l[k]? = some o) : (l.take (k + 1)).flatMap f = (l.take k).flatMap f ++ f o := by
  obtain ⟨hk, e⟩ := List.getElem?_eq_some_iff.1 h
  rw [List.take_succ_eq_append_getElem hk, e]
  simp [List.flatMap_append]
theorem flat_len {α : Type} (f : α → List UInt8) (c : Nat) (l : List α) (h : ∀ x ∈ l, (f x).length = c) : (l.flatMap f).length = c * l.length := by
  induction l with
  | nil => simp
  | cons x l ih =>
    rw [List.flatMap_cons, List.length_append, ih (fun y hy => h y (List.mem_cons_of_mem _ hy)), h x (List.mem_cons_self ..), List.length_cons, Nat.mul_succ]
    omega
theorem objB_len (o : ObjI) : (objB o).length = 5 := rfl
theorem relB_len (o : RelI) : (relB o).length = 3 := rfl
theorem strB_len (s : ByteArray) : (strB s).length = s.size := rfl
theorem headL_len (I : Img) : (headL I).length = 14 := rfl
theorem take_len {α : Type} (l : List α) (k : Nat) : (l.take k).length ≤ k := by rw [List.length_take]; omega
theorem bodyL_len (I : Img) (hF : Full I.banks) : (bodyL I).length = 14 + 5 * I.data.length + 3 * I.relocs.length + 4096 * I.banks.length := by
  unfold bodyL
  rw [List.length_append, List.length_append, List.length_append, headL_len, flat_len objB 5 _ (fun x _ => rfl), flat_len relB 3 _ (fun x _ => rfl), flat_len strB 4096 _ (fun x hx => hF x hx)]
theorem fileL_len (I : Img) (hF : Full I.banks) : (fileL I).length = 16 + 5 * I.data.length + 3 * I.relocs.length + 4096 * I.banks.length := by
  unfold fileL
  rw [List.length_append, bodyL_len I hF, putL_len]
  simp; omega
/-- What checkI = 0 says. -/
theorem check_valid (I : Img) (h : checkI I = 0) : 1 ≤ I.banks.length ∧ I.banks.length ≤ 64 ∧ Full I.banks ∧ I.data.length ≤ 512 ∧ I.relocs.length ≤ 20000 ∧ I.entry < 4096 ∧ I.vector < 4096 ∧ firstObj I.banks.length none I.data 0 < 0 ∧ firstRel I.banks I.data none I.relocs 0 < 0 := by
  unfold checkI at h
  split at h
  · omega
  · rename_i h1
    split at h
    · omega
    · rename_i h2
      split at h
      · omega
      · rename_i h3
        have hF : Full I.banks := Classical.byContradiction fun hn => h1 (.inr (.inr hn))
        refine ⟨by omega, by omega, hF, by omega, by omega, by omega, by omega, by omega, by omega⟩
end Go.Proofs.Ytgdiaaoekkdibaa
