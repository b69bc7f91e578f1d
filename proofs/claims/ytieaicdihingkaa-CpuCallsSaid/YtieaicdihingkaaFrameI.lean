/- Lemmas for the frames of the Cpu laws: a slice of words or bytes. -/
import Derived.Test.YtieaicdihingkaaFrame
import Derived.Test.YtieaicdihingkaaK1
import Derived.WideShapes
import Derived.OpenShut
namespace Go.Proofs.Ytieaicdihingkaa
set_option linter.unusedVariables false
open Go.ChangeShapes Go.WideShapes Go.ChangeAt Go.RowKit
theorem lt_of_cell {w : World} {a : Addr} {v : Value} (h : w.cell? a = some v) : a.block < w.heap.size := by
 unfold World.cell? at h
 split at h
 ·rename_i c e f hb
  exact (Array.getElem?_eq_some_iff.1 hb).1
 ·simp at h
section
variable {H : Type} {enc : TypeId × Value → H} {P : Program} {w : World} {base b0 : Nat} {spare : Nat → Bool} {held : Bool} {r : Reach}
theorem open_words {t e : TypeId} {k : IntKind} {v : Value} {d : DataW H} {ps : List MemPlace} (ht : P.underlying t = some (.slice e)) (he : P.underlying e = some (.int k)) (hc : P.cellsOf e = 1)
  (hv : Value.okWide P w r b0 t v) (h : DataW.Trod enc P w base (fun _ => true) held t v d ps) :
  ∃ (p : Option Addr) (cap : Nat) (L : List Int), v = .slice p L.length cap ∧ L.length ≤ 9223372036854775807 ∧ L.length ≤ cap ∧ RowLow w.heap.size w p k L ∧ ∀ n ∈ L, (Lit.int k n).wf = true := by
 obtain ⟨a0, len, cap, rfl⟩ := okWide_slice ht hv
 obtain ⟨fuel, hf⟩ := h
 rcases Go.ChangeShapes.open_ints ht he hc hf with ⟨hcs, hx⟩ | ⟨a, len', cap', zs, hcs, _, hle, hmax, hall, hx, hcell, hwf⟩
 ·simp [Value.cells] at hcs
  obtain ⟨rfl, rfl, rfl⟩ := hcs
  exact ⟨none, 0, [], rfl, by decide, Nat.le_refl _, (fun k n hk => by simp at hk), fun n hn => by cases hn⟩
 ·simp [Value.cells] at hcs
  obtain ⟨rfl, rfl, rfl⟩ := hcs
  simp only [if_true] at hall
  have hlen : (zs.take len).length = len := by rw [List.length_take]; omega
  refine ⟨some a, cap, zs.take len, by rw [hlen], by rw [hlen]; unfold maxLen at hmax; omega, by rw [hlen]; omega, fun k n hk => ?_, fun n hn => hwf n (List.mem_of_mem_take hn)⟩
  have hk1 : k < len := by
   have := (List.getElem?_eq_some_iff.1 hk).1
   omega
  rw [List.getElem?_take_of_lt hk1] at hk
  obtain ⟨b, off, rfl, hc2⟩ := Go.ints_at hcell (by omega)
  have h1 := hc2 k (by omega)
  have h2 : zs.getD k 0 = n := by rw [List.getD_eq_getElem?_getD, hk]; rfl
  rw [h2] at h1
  exact ⟨b, off, rfl, lt_of_cell h1, h1⟩
end
end Go.Proofs.Ytieaicdihingkaa
