/- The frame of the laws that take a setup: a struct of a slice of fives, four numbers and a slice of numbers. -/
import Derived.Test.YtieaicdihingkaaFrame
import Derived.Test.YtieaicdihingkaaV4
import Derived.Deep.Strs
import Derived.Deep.Slices
import Derived.Laws.IdiomArrays
namespace Go.Proofs.Ytieaicdihingkaa
set_option linter.unusedVariables false
open Go.ChangeShapes Go.WideShapes Go.ChangeAt Go.RowKit
theorem cells_get {w : World} {base : Nat} {a : Addr} {n : Nat} {cs : List Value} (h : w.cells? base a n = some cs) : cs.length = n ∧ ∀ i, i < n → w.cell? (a.add i) = cs[i]? := by
 unfold World.cells? at h
 split at h
 ·have h1 : ∀ (l : List Nat) (cs : List Value), l.mapM (fun i => w.cell? (a.add i)) = some cs → cs.length = l.length ∧ ∀ i k : Nat, l[i]? = some k → w.cell? (a.add k) = cs[i]? := by
   intro l
   induction l with
   | nil => intro cs h; simp at h; subst h; exact ⟨rfl, fun i k hk => by simp at hk⟩
   | cons x l ih =>
    intro cs h
    rw [List.mapM_cons] at h
    cases hx : w.cell? (a.add x) with
    | none => rw [hx] at h; simp at h
    | some v =>
     rw [hx] at h
     cases hl : l.mapM (fun i => w.cell? (a.add i)) with
     | none => rw [hl] at h; simp at h
     | some vs =>
      rw [hl] at h
      simp at h
      subst h
      obtain ⟨q1, q2⟩ := ih vs hl
      refine ⟨by simp [q1], fun i k hk => ?_⟩
      cases i with
      | zero => simp at hk; subst hk; simpa using hx
      | succ i => simpa using q2 i k (by simpa using hk)
  obtain ⟨q1, q2⟩ := h1 _ _ h
  refine ⟨by simpa using q1, fun i hi => q2 i i (by simp [List.getElem?_range hi])⟩
 ·cases h

section
variable {H : Type} {enc : TypeId × Value → H} {P : Program} {w : World} {base b0 : Nat} {held : Bool} {r : Reach}
theorem open_setup {t ea e : TypeId} {f0 f1 f2 : Field} {v : Value} {d : DataW H} {ps : List MemPlace} (ht : P.underlying t = some (.struct #[f0, f1, f2])) (o0 : f0.offset = 0) (o1 : f1.offset = 1) (o2 : f2.offset = 5)
  (h0 : P.underlying f0.type = some (.slice ea)) (ha : P.underlying ea = some (.array 5 e)) (he : P.underlying e = some (.int .i64)) (h1 : P.underlying f1.type = some (.array 4 e)) (h2 : P.underlying f2.type = some (.slice e))
  (hca : P.cellsOf ea = 5) (hce : P.cellsOf e = 1) (hc0 : P.cellsOf f0.type = 1) (hc1 : P.cellsOf f1.type = 4) (hc2 : P.cellsOf f2.type = 1) (hc : P.cellsOf t = 6)
  (hv : Value.okWide P w r b0 t v) (h : DataW.Trod enc P w base (fun _ => true) held t v d ps) :
  ∃ (p : Option Addr) (n cap : Nat) (n0 n1 n2 n3 : Int) (pt : Option Addr) (capt : Nat) (L : List Int), v = .agg #[.slice p n cap, .int .i64 n0, .int .i64 n1, .int .i64 n2, .int .i64 n3, .slice pt L.length capt]
   ∧ FivesAt w.heap.size w p n ∧ n ≤ cap ∧ n ≤ 9223372036854775807 ∧ RowLow w.heap.size w pt .i64 L ∧ L.length ≤ 9223372036854775807 := by
 simp only [Value.okWide, ht] at hv
 obtain ⟨cs, rfl, hsz, _⟩ := hv
 have h3 := hsz.trans hc
 obtain ⟨l⟩ := cs
 obtain ⟨c0, c1, c2, c3, c4, c5, rfl⟩ : ∃ c0 c1 c2 c3 c4 c5, l = [c0, c1, c2, c3, c4, c5] := by
  match l, h3 with
  | [a0, a1, a2, a3, a4, a5], _ => exact ⟨a0, a1, a2, a3, a4, a5, rfl⟩
 obtain ⟨fuel, hf⟩ := h
 obtain ⟨y0, y1, y2, m, _, _, g0, g1, g2⟩ := Go.Deep.trod_struct3 ht hf
 simp only [o0, o1, o2, hc0, hc1, hc2, Value.cells, List.drop, List.take] at g0 g1 g2
 obtain ⟨z0, z1, z2, z3, m1, _, i0, i1, i2, i3⟩ := trod_array4 h1 hce g1
 obtain ⟨n0, x0, _, _⟩ := DataW.trod_int he i0
 obtain ⟨n1, x1, _, _⟩ := DataW.trod_int he i1
 obtain ⟨n2, x2, _, _⟩ := DataW.trod_int he i2
 obtain ⟨n3, x3, _, _⟩ := DataW.trod_int he i3
 simp only [List.cons.injEq, and_true] at x0 x1 x2 x3
 subst x0; subst x1; subst x2; subst x3
 have hs : ∃ (pt : Option Addr) (capt : Nat) (L : List Int), c5 = .slice pt L.length capt ∧ RowLow w.heap.size w pt .i64 L ∧ L.length ≤ 9223372036854775807 := by
  rcases Go.ChangeShapes.open_ints h2 he hce g2 with ⟨hcs, hx⟩ | ⟨a, len', cap', zs, hcs, _, hle, hmax, hall, hx, hcell, hwf⟩
  ·simp only [List.cons.injEq, and_true] at hcs
   exact ⟨none, 0, [], hcs, (fun k n hk => by simp at hk), by decide⟩
  ·simp only [List.cons.injEq, and_true] at hcs
   simp only [if_true] at hall
   have hlen : (zs.take len').length = len' := by rw [List.length_take]; omega
   refine ⟨some a, cap', zs.take len', by rw [hlen]; exact hcs, fun k n hk => ?_, by rw [hlen]; unfold maxLen at hmax; omega⟩
   have hk1 : k < len' := by
    have := (List.getElem?_eq_some_iff.1 hk).1
    omega
   rw [List.getElem?_take_of_lt hk1] at hk
   obtain ⟨b, off, rfl, hc2⟩ := Go.ints_at hcell (by omega)
   have h1 := hc2 k (by omega)
   have h2 : zs.getD k 0 = n := by rw [List.getD_eq_getElem?_getD, hk]; rfl
   rw [h2] at h1
   exact ⟨b, off, rfl, lt_of_cell h1, h1⟩
 obtain ⟨pt, capt, L, rfl, hr, hl⟩ := hs
 rcases Go.Deep.open_slice h0 g0 with ⟨hcs, _⟩ | ⟨a, len, cap, mm, nn, D, Pl, hcs, _, hle, hmax, hmm, _, hel⟩
 ·simp only [List.cons.injEq, and_true] at hcs
  subst hcs
  exact ⟨none, 0, 0, n0, n1, n2, n3, pt, capt, L, rfl, .inl rfl, Nat.le_refl _, by decide, hr, hl⟩
 ·simp only [List.cons.injEq, and_true] at hcs
  subst hcs
  simp only [if_true] at hmm
  subst hmm
  refine ⟨some a, len, mm, n0, n1, n2, n3, pt, capt, L, rfl, ?_, hle, by unfold maxLen at hmax; omega, hr, hl⟩
  by_cases hz : len = 0
  ·exact .inl hz
  have each : ∀ k, k < len → ∃ q0 q1 q2 q3 q4 : Int, ∀ j, j < 5 → w.cell? (a.add (k * 5 + j)) = some (.int .i64 ([q0, q1, q2, q3, q4].getD j 0)) := by
   intro k hk
   obtain ⟨cs', e1, e2⟩ := hel k (by omega)
   rw [hca] at e1
   obtain ⟨len5, get5⟩ := cells_get e1
   obtain ⟨c0, c1, c2, c3, c4, rfl⟩ : ∃ c0 c1 c2 c3 c4, cs' = [c0, c1, c2, c3, c4] := by
    match cs', len5 with
    | [a0, a1, a2, a3, a4], _ => exact ⟨a0, a1, a2, a3, a4, rfl⟩
   obtain ⟨xs, m, _, _, _, hl5, hi⟩ := DataW.trod_array ha e2
   have k0 := hi 0 (by omega)
   have k1 := hi 1 (by omega)
   have k2 := hi 2 (by omega)
   have k3 := hi 3 (by omega)
   have k4 := hi 4 (by omega)
   rw [List.getElem?_eq_getElem (by omega)] at k0 k1 k2 k3 k4
   simp only [hce] at k0 k1 k2 k3 k4
   obtain ⟨q0, r0, _, _⟩ := DataW.trod_int he k0
   obtain ⟨q1, r1, _, _⟩ := DataW.trod_int he k1
   obtain ⟨q2, r2, _, _⟩ := DataW.trod_int he k2
   obtain ⟨q3, r3, _, _⟩ := DataW.trod_int he k3
   obtain ⟨q4, r4, _, _⟩ := DataW.trod_int he k4
   simp at r0 r1 r2 r3 r4
   refine ⟨q0, q1, q2, q3, q4, fun j hj => ?_⟩
   have hg := get5 j hj
   have ad : (a.add (k * 5)).add j = a.add (k * 5 + j) := by
    unfold Addr.add
    by_cases hk0 : k * 5 = 0
    ·simp [hk0]
    ·by_cases hj0 : j = 0
     ·simp [hk0, hj0]
     ·have : ¬ (k * 5 + j = 0) := by omega
      simp [hk0, hj0, Nat.add_assoc]
   rw [ad] at hg
   rw [hg, r0, r1, r2, r3, r4]
   match j, hj with
   | 0, _ => rfl
   | 1, _ => rfl
   | 2, _ => rfl
   | 3, _ => rfl
   | 4, _ => rfl
  obtain ⟨_, _, _, _, _, z⟩ := each 0 (by omega)
  obtain ⟨b, off, spot⟩ := a
  have hspot : spot = none := by simpa [Addr.add] using World.cell?_spot (z 0 (by decide))
  subst hspot
  have hpl : ∀ i, (Addr.mk b off none).add i = ⟨b, off + i, none⟩ := fun i => Go.WideShapes.add_plain b off i
  simp only [hpl] at z each
  refine .inr ⟨b, off, rfl, lt_of_cell (z 0 (by decide)), fun k hk => ?_⟩
  obtain ⟨q0, q1, q2, q3, q4, hq⟩ := each k hk
  simp only [← Nat.add_assoc] at hq
  exact ⟨q0, q1, q2, q3, q4, hq 0 (by decide), hq 1 (by decide), hq 2 (by decide), hq 3 (by decide), hq 4 (by decide)⟩
end
end Go.Proofs.Ytieaicdihingkaa
