/- Lemmas for the frames of the image laws: a slice of numbers; an array of three numbers. -/
import Derived.Test.YtgdiaaoekkdibaaFrame
import Derived.Test.YtgdiaaoekkdibaaP0
import Derived.WideShapes
import Derived.OpenShut
namespace Go.Proofs.Ytgdiaaoekkdibaa
set_option linter.unusedVariables false
open Go.ChangeShapes Go.WideShapes Go.ChangeAt Go.RowKit
theorem lt_of_cell {w : World} {a : Addr} {v : Value} (h : w.cell? a = some v) : a.block < w.heap.size := by
  unfold World.cell? at h
  split at h
  · rename_i c e f hb
    exact (Array.getElem?_eq_some_iff.1 hb).1
  · simp at h
section
variable {H : Type} {enc : TypeId × Value → H} {P : Program} {w : World} {base b0 : Nat} {spare : Nat → Bool} {held : Bool} {r : Reach}
theorem open_intsI {t e : TypeId} {v : Value} {d : DataW H} {ps : List MemPlace} (ht : P.underlying t = some (.slice e)) (he : P.underlying e = some (.int .i64)) (hc : P.cellsOf e = 1)
    (hv : Value.okWide P w r b0 t v) (h : DataW.Trod enc P w base (fun _ => true) held t v d ps) :
    ∃ (p : Option Addr) (cap : Nat) (L : List Int), v = .slice p L.length cap ∧ IntsAt w p L ∧ L.length ≤ 9223372036854775807 := by
  obtain ⟨a0, len, cap, rfl⟩ := okWide_slice ht hv
  obtain ⟨fuel, hf⟩ := h
  rcases Go.ChangeShapes.open_ints ht he hc hf with ⟨hcs, hx⟩ | ⟨a, len', cap', zs, hcs, _, hle, hmax, hall, hx, hcell, hwf⟩
  · simp [Value.cells] at hcs
    obtain ⟨rfl, rfl, rfl⟩ := hcs
    exact ⟨none, 0, [], rfl, (fun k n hk => by simp at hk), by decide⟩
  · simp [Value.cells] at hcs
    obtain ⟨rfl, rfl, rfl⟩ := hcs
    simp only [if_true] at hall
    have hlen : (zs.take len).length = len := by rw [List.length_take]; omega
    refine ⟨some a, cap, zs.take len, by rw [hlen], fun k n hk => ?_, by rw [hlen]; unfold maxLen at hmax; omega⟩
    have hk1 : k < len := by
      have := (List.getElem?_eq_some_iff.1 hk).1
      omega
    rw [List.getElem?_take_of_lt hk1] at hk
    obtain ⟨b, off, rfl, hc2⟩ := Go.ints_at hcell (by omega)
    have h1 := hc2 k (by omega)
    have h2 : zs.getD k 0 = n := by rw [List.getD_eq_getElem?_getD, hk]; rfl
    rw [h2] at h1
    exact ⟨b, off, rfl, lt_of_cell h1, h1, bd_i64 (hwf n (List.mem_of_getElem? hk))⟩
theorem open_arr3 {t e : TypeId} {k : IntKind} {v : Value} {d : DataW H} {ps : List MemPlace} (ht : P.underlying t = some (.array 3 e)) (he : P.underlying e = some (.int k))
    (hc : P.cellsOf t = 3) (hce : P.cellsOf e = 1) (hv : Value.okWide P w r b0 t v) (h : DataW.Trod enc P w base spare held t v d ps) :
    ∃ x y z, v = .agg #[.int k x, .int k y, .int k z] ∧ (Lit.int k x).wf = true ∧ (Lit.int k y).wf = true ∧ (Lit.int k z).wf = true := by
  simp only [Value.okWide, ht] at hv
  obtain ⟨cs, rfl, hsz, _⟩ := hv
  have h3 := hsz.trans hc
  obtain ⟨l⟩ := cs
  obtain ⟨c0, c1, c2, rfl⟩ : ∃ c0 c1 c2, l = [c0, c1, c2] := by
    match l, h3 with
    | [a, b, c], _ => exact ⟨a, b, c, rfl⟩
  obtain ⟨fuel, hf⟩ := h
  obtain ⟨xs, m, _, _, _, hl, hi⟩ := DataW.trod_array ht hf
  have h0 := hi 0 (by omega)
  have h1 := hi 1 (by omega)
  have h2 := hi 2 (by omega)
  rw [List.getElem?_eq_getElem (by omega)] at h0 h1 h2
  simp only [hce, Value.cells] at h0 h1 h2
  obtain ⟨x, ex, _, wx⟩ := DataW.trod_int he h0
  obtain ⟨y, ey, _, wy⟩ := DataW.trod_int he h1
  obtain ⟨z, ez, _, wz⟩ := DataW.trod_int he h2
  simp at ex ey ez
  exact ⟨x, y, z, by rw [ex, ey, ez], wx, wy, wz⟩
end
end Go.Proofs.Ytgdiaaoekkdibaa
