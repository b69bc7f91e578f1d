/- Lemmas for the frames of the laws: bounds of a number that fits its kind; an array of two numbers. -/
import Derived.WalkKit
import Derived.ProofKit
import Derived.OpenShut
import Derived.ShutString
import Derived.ChangeOld
import Derived.Below
import Derived.Lib.SmallJoins
import Derived.Test.YtieaicdihingkaaK0
import Derived.WideShapes
namespace Go.Proofs.Ytieaicdihingkaa
open Go.ChangeShapes Go.WideShapes Go.ChangeAt Go.RowKit
theorem bd_u8 {n : Int} (h : (Lit.int .u8 n).wf = true) : 0 ≤ n ∧ n < 256 := by
 simp [Lit.wf, IntKind.min, IntKind.max, IntKind.signed, IntKind.bits] at h; omega
theorem bd_u16 {n : Int} (h : (Lit.int .u16 n).wf = true) : 0 ≤ n ∧ n < 65536 := by
 simp [Lit.wf, IntKind.min, IntKind.max, IntKind.signed, IntKind.bits] at h; omega
theorem bd_u32 {n : Int} (h : (Lit.int .u32 n).wf = true) : 0 ≤ n ∧ n < 4294967296 := by
 simp [Lit.wf, IntKind.min, IntKind.max, IntKind.signed, IntKind.bits] at h; omega
theorem bd_i64 {n : Int} (h : (Lit.int .i64 n).wf = true) : -9223372036854775808 ≤ n ∧ n ≤ 9223372036854775807 := by
 simp [Lit.wf, IntKind.min, IntKind.max, IntKind.signed, IntKind.bits] at h; omega
section
variable {H : Type} {enc : TypeId × Value → H} {P : Program} {w : World} {base b0 : Nat} {spare : Nat → Bool} {held : Bool} {r : Reach}
theorem open_arr2 {t e : TypeId} {k : IntKind} {v : Value} {d : DataW H} {ps : List MemPlace} (ht : P.underlying t = some (.array 2 e)) (he : P.underlying e = some (.int k))
  (hc : P.cellsOf t = 2) (hce : P.cellsOf e = 1) (hv : Value.okWide P w r b0 t v) (h : DataW.Trod enc P w base spare held t v d ps) :
  ∃ x y, v = .agg #[.int k x, .int k y] ∧ (Lit.int k x).wf = true ∧ (Lit.int k y).wf = true := by
 simp only [Value.okWide, ht] at hv
 obtain ⟨cs, rfl, hsz, _⟩ := hv
 obtain ⟨c0, c1, rfl⟩ := Joins.array2 (hsz.trans hc)
 obtain ⟨fuel, hf⟩ := h
 obtain ⟨xs, m, _, _, _, hl, hi⟩ := DataW.trod_array ht hf
 have h0 := hi 0 (by omega)
 have h1 := hi 1 (by omega)
 rw [List.getElem?_eq_getElem (by omega)] at h0 h1
 simp only [hce, Value.cells] at h0 h1
 obtain ⟨x, ex, _, wx⟩ := DataW.trod_int he h0
 obtain ⟨y, ey, _, wy⟩ := DataW.trod_int he h1
 simp at ex ey
 exact ⟨x, y, by rw [ex, ey], wx, wy⟩
end
end Go.Proofs.Ytieaicdihingkaa
namespace Go.Proofs.Ytieaicdihingkaa
set_option linter.unusedVariables false
open Go.ChangeShapes Go.WideShapes Go.ChangeAt Go.RowKit
theorem lt_of_cell {w : World} {a : Addr} {v : Value} (h : w.cell? a = some v) : a.block < w.heap.size := by
 unfold World.cell? at h
 split at h
 ·rename_i c e f hb
  exact (Array.getElem?_eq_some_iff.1 hb).1
 ·simp at h
section
variable {H : Type} {enc : TypeId × Value → H} {P : Program} {w : World} {base b0 : Nat} {spare : Nat → Bool} {held : Bool} {r : Reach}
theorem open_words {t e : TypeId} {k : IntKind} {v : Value} {d : DataW H} {ps : List MemPlace} (ht : P.underlying t = some (.slice e)) (he : P.underlying e = some (.int k)) (hc : P.cellsOf e = 1)
  (hv : Value.okWide P w r b0 t v) (h : DataW.Trod enc P w base (fun _ => true) held t v d ps) :
  ∃ (p : Option Addr) (cap : Nat) (L : List Int), v = .slice p L.length cap ∧ L.length ≤ 9223372036854775807 ∧ L.length ≤ cap ∧ RowLow w.heap.size w p k L ∧ ∀ n ∈ L, (Lit.int k n).wf = true := by
 obtain ⟨a0, len, cap, rfl⟩ := okWide_slice ht hv
 obtain ⟨fuel, hf⟩ := h
 rcases Go.ChangeShapes.open_ints ht he hc hf with ⟨hcs, hx⟩ | ⟨a, len', cap', zs, hcs, _, hle, hmax, hall, hx, hcell, hwf⟩
 ·simp [Value.cells] at hcs
  obtain ⟨rfl, rfl, rfl⟩ := hcs
  exact ⟨none, 0, [], rfl, by decide, Nat.le_refl _, (fun k n hk => by simp at hk), fun n hn => by cases hn⟩
 ·simp [Value.cells] at hcs
  obtain ⟨rfl, rfl, rfl⟩ := hcs
  simp only [if_true] at hall
  have hlen : (zs.take len).length = len := by rw [List.length_take]; omega
  refine ⟨some a, cap, zs.take len, by rw [hlen], by rw [hlen]; unfold maxLen at hmax; omega, by rw [hlen]; omega, fun k n hk => ?_, fun n hn => hwf n (List.mem_of_mem_take hn)⟩
  have hk1 : k < len := by
   have := (List.getElem?_eq_some_iff.1 hk).1
   omega
  rw [List.getElem?_take_of_lt hk1] at hk
  obtain ⟨b, off, rfl, hc2⟩ := Go.ints_at hcell (by omega)
  have h1 := hc2 k (by omega)
  have h2 : zs.getD k 0 = n := by rw [List.getD_eq_getElem?_getD, hk]; rfl
  rw [h2] at h1
  exact ⟨b, off, rfl, lt_of_cell h1, h1⟩
end
end Go.Proofs.Ytieaicdihingkaa
