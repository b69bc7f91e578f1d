/- Lemmas for the frames of the Cpu laws: an array of eight words. -/
import Derived.Test.YtieaicdihingkaaFrameI
namespace Go.Proofs.Ytieaicdihingkaa
set_option linter.unusedVariables false
open Go.ChangeShapes Go.WideShapes Go.ChangeAt Go.RowKit
section
variable {H : Type} {enc : TypeId × Value → H} {P : Program} {w : World} {base b0 : Nat} {spare : Nat → Bool} {held : Bool} {r : Reach}
theorem open_arr8 {t e : TypeId} {v : Value} {d : DataW H} {ps : List MemPlace} (ht : P.underlying t = some (.array 8 e)) (he : P.underlying e = some (.int .u16))
    (hc : P.cellsOf t = 8) (hce : P.cellsOf e = 1) (hv : Value.okWide P w r b0 t v) (h : DataW.Trod enc P w base spare held t v d ps) :
    ∃ R : Nat → Int, (∀ j, OkU16 (R j)) ∧ v = .agg #[.int .u16 (R 0), .int .u16 (R 1), .int .u16 (R 2), .int .u16 (R 3), .int .u16 (R 4), .int .u16 (R 5), .int .u16 (R 6), .int .u16 (R 7)] := by
  simp only [Value.okWide, ht] at hv
  obtain ⟨cs, rfl, hsz, _⟩ := hv
  have h3 := hsz.trans hc
  obtain ⟨l⟩ := cs
  obtain ⟨c0, c1, c2, c3, c4, c5, c6, c7, rfl⟩ : ∃ c0 c1 c2 c3 c4 c5 c6 c7, l = [c0, c1, c2, c3, c4, c5, c6, c7] := by
    match l, h3 with
    | [a0, a1, a2, a3, a4, a5, a6, a7], _ => exact ⟨a0, a1, a2, a3, a4, a5, a6, a7, rfl⟩
  obtain ⟨fuel, hf⟩ := h
  obtain ⟨xs, m, _, _, _, hl, hi⟩ := DataW.trod_array ht hf
  have h0 := hi 0 (by omega)
  have h1 := hi 1 (by omega)
  have h2 := hi 2 (by omega)
  have h3 := hi 3 (by omega)
  have h4 := hi 4 (by omega)
  have h5 := hi 5 (by omega)
  have h6 := hi 6 (by omega)
  have h7 := hi 7 (by omega)
  rw [List.getElem?_eq_getElem (by omega)] at h0 h1 h2 h3 h4 h5 h6 h7
  simp only [hce, Value.cells] at h0 h1 h2 h3 h4 h5 h6 h7
  obtain ⟨x0, e0, _, w0⟩ := DataW.trod_int he h0
  obtain ⟨x1, e1, _, w1⟩ := DataW.trod_int he h1
  obtain ⟨x2, e2, _, w2⟩ := DataW.trod_int he h2
  obtain ⟨x3, e3, _, w3⟩ := DataW.trod_int he h3
  obtain ⟨x4, e4, _, w4⟩ := DataW.trod_int he h4
  obtain ⟨x5, e5, _, w5⟩ := DataW.trod_int he h5
  obtain ⟨x6, e6, _, w6⟩ := DataW.trod_int he h6
  obtain ⟨x7, e7, _, w7⟩ := DataW.trod_int he h7
  simp at e0 e1 e2 e3 e4 e5 e6 e7
  refine ⟨fun j => [x0, x1, x2, x3, x4, x5, x6, x7].getD j 0, fun j => ?_, by rw [e0, e1, e2, e3, e4, e5, e6, e7]; rfl⟩
  match j with
  | 0 => exact bd_u16 w0
  | 1 => exact bd_u16 w1
  | 2 => exact bd_u16 w2
  | 3 => exact bd_u16 w3
  | 4 => exact bd_u16 w4
  | 5 => exact bd_u16 w5
  | 6 => exact bd_u16 w6
  | 7 => exact bd_u16 w7
  | j + 8 => exact (⟨by decide, by decide⟩ : OkU16 0)
end
end Go.Proofs.Ytieaicdihingkaa
