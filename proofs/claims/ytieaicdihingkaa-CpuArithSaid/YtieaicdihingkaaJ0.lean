/- A conversion to bytes and back, in this claim's words. -/
import Derived.Test.YtieaicdihingkaaM0
import Derived.Test.YtieaicdihingkaaRR
namespace Go.Proofs.Ytieaicdihingkaa
set_option linter.unusedVariables false
set_option linter.unusedSimpArgs false
open Go.RowKit
/-- What a conversion of a string to bytes gives, and leaves. -/
def convV (w : World) (s : ByteArray) : Value := .slice (some ⟨w.heap.size, 0, none⟩) s.size (grownCap w s.size 0 5)
def convW (w : World) (s : ByteArray) : World := w.drew.alloc (.cells (bytesRow s (grownCap w s.size 0 5)) 5 ((bytesRow s (grownCap w s.size 0 5)).size, (bytesRow s (grownCap w s.size 0 5)).size + 1))
theorem conv_run (w : World) (s : ByteArray) : (convert 9 49 (.string s)).run Try.prog w = .ok (convV w s) (convW w s) :=
 run_bytes_of_string w 9 49 5 s Try.underlying9 Try.underlying49 Try.underlying5
theorem conv_below (w : World) (s : ByteArray) : Below w.heap.size w (convW w s) := ((Below.refl _ _).drew).alloc (Nat.le_refl _) _
theorem bytesRow_size (s : ByteArray) (cap : Nat) (h : s.size ≤ cap) : (bytesRow s cap).size = cap := by
 unfold bytesRow
 rw [Array.size_append, Array.size_map, Array.size_replicate]
 show s.size + (cap - s.size) = cap
 omega
theorem bytesRow_take (s : ByteArray) (cap : Nat) : (bytesRow s cap).toList.take s.size = Lib.byteCells s.data.toList := by
 unfold bytesRow Lib.byteCells
 rw [Array.toList_append, Array.toList_map]
 have : s.size = (s.data.toList.map (fun b => Value.int .u8 b.toNat)).length := by rw [List.length_map]; rfl
 rw [this]
 exact List.take_left
theorem conv_owns (w : World) (s : ByteArray) (B : Nat) (hB : B ≤ w.heap.size) (hs : s.size ≤ maxLen) : OwnsM (convW w s) B 5 1 (convV w s) s.size (Lib.byteCells s.data.toList) := by
 have hge := grownCap_ge w s.size 0 5
 have hcm := grownCap_le_maxLen w s.size 0 5 hs
 have hz := bytesRow_size s _ hge
 refine ⟨by rw [Lib.byteCells_length, Nat.mul_one]; rfl, .inr ⟨w.heap.size, _, _, _, rfl, hB, alloc_at w.drew _, .inr ?_, hge, hcm, ?_, ?_⟩⟩
 ·rw [hz]; simp
 ·rw [hz]; simp
 ·rw [Nat.mul_one]; exact bytesRow_take s _
/-- The way back. -/
theorem back_run (w : World) (v : Value) (l : List UInt8) (B n : Nat) (h : OwnsM w B 5 1 v n (Lib.byteCells l)) (h0 : l ≠ []) : (convert 49 9 v).run Try.prog w = .ok (.string ⟨l.toArray⟩) w := by
 have hl : l.length = n := by have := h.1; rw [Lib.byteCells_length] at this; omega
 rcases h.2 with ⟨rfl, hn⟩ | ⟨g, cap, cur, fz, rfl, _⟩
 ·subst hn; exact absurd (List.length_eq_zero_iff.1 hl) h0
 ·rw [← hl]
  refine run_convert_bytes_back (P := Try.prog) w 49 9 5 ⟨g, 0, none⟩ cap l Try.underlying49 Try.underlying5 Try.underlying9 ?_
  intro j hj
  have := OwnsM.cells h (g := g) rfl j (Value.int .u8 (l[j]).toNat) (by unfold Lib.byteCells; rw [List.getElem?_map, List.getElem?_eq_getElem hj]; rfl)
  rw [this]
end Go.Proofs.Ytieaicdihingkaa
