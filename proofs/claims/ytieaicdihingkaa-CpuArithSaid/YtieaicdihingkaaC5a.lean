/- What isa.read keeps in memory. -/
import Derived.Test.YtieaicdihingkaaC1
import Derived.Test.YtieaicdihingkaaRR
namespace Go.Proofs.Ytieaicdihingkaa
set_option linter.unusedVariables false
set_option linter.unusedSimpArgs false
open Go.RowKit
structure InsI where
 op : Int
 d : Int
 s : Int
 imm : Int
 aux : Int
 bank : Int
 size : Int
def InsI.cells (i : InsI) : List Value := [.int .i64 i.op, .int .i64 i.d, .int .i64 i.s, .int .u16 i.imm, .int .u16 i.aux, .int .i64 i.bank, .int .i64 i.size]
structure RdM (w : World) (t : ByteArray) (f0 f1 f2 f3 : Int) (N A C : Nat) (V : World) (n : Nat) (i : InsI) : Prop where
 str : V.cell? ⟨w.heap.size, 0, none⟩ = some (.string t)
 res : V.heap[w.heap.size + 2]? = some (.cells #[.int .i64 0, .int .i64 0, .int .i64 0, .int .u16 0, .int .u16 0, .int .i64 0, .int .i64 0] 26 (0, 0))
 ins : ∀ k u, i.cells[k]? = some u → V.cell? ⟨N, k, none⟩ = some u
 insF : ∀ k, V.frozen? ⟨N, k, none⟩ = false
 at' : V.cell? ⟨A, 0, none⟩ = some (.int .i64 (n : Int))
 atF : V.frozen? ⟨A, 0, none⟩ = false
 fn : V.cell? ⟨C, 0, none⟩ = some (.func (.func 90) #[] #[.pointer (some ⟨A, 0, none⟩), .pointer (some ⟨w.heap.size, 0, none⟩)])
 lt0 : w.heap.size + 2 < N
 lt1 : N < A
 lt2 : A < C
 lt3 : C < V.heap.size
 below : Below w.heap.size w V
theorem RdM.setAt {w V : World} {t : ByteArray} {f0 f1 f2 f3 : Int} {N A C n : Nat} {i : InsI} (h : RdM w t f0 f1 f2 f3 N A C V n i) (m : Nat) (v : Int) (hv : v = (m : Int)) : RdM w t f0 f1 f2 f3 N A C (V.setCell ⟨A, 0, none⟩ (.int .i64 v)) m i := by
 subst hv
 obtain ⟨a, b, c, d, e, f, g, l0, l1, l2, l3, hb⟩ := h
 have o : ∀ (X k : Nat), X ≠ A → (V.setCell ⟨A, 0, none⟩ (.int .i64 (m : Int))).cell? ⟨X, k, none⟩ = V.cell? ⟨X, k, none⟩ := fun X k hX => World.cell?_setCell_other _ _ _ _ (by intro e; injection e with e1; exact hX e1.symm)
 refine ⟨(o _ _ (by omega)).trans a, (Below.heap_setCell _ _ _ _ (by simp; omega)).trans b, fun k u hk => (o _ _ (by omega)).trans (c k u hk), fun k => (frozen_set' _ _ _ _).trans (d k), World.cell?_setCell_same _ _ _ e, (frozen_set' _ _ _ _).trans f, (o _ _ (by omega)).trans g, l0, l1, l2, by simpa using l3, hb.setCell (by simp; omega) _⟩
theorem RdM.setIns {w V : World} {t : ByteArray} {f0 f1 f2 f3 : Int} {N A C n : Nat} {i j : InsI} (h : RdM w t f0 f1 f2 f3 N A C V n i) (k : Nat) (v : Value) (hk : k < 7) (hj : j.cells = i.cells.set k v) : RdM w t f0 f1 f2 f3 N A C (V.setCell ⟨N, k, none⟩ v) n j := by
 obtain ⟨a, b, c, d, e, f, g, l0, l1, l2, l3, hb⟩ := h
 have o : ∀ (X q : Nat), X ≠ N → (V.setCell ⟨N, k, none⟩ v).cell? ⟨X, q, none⟩ = V.cell? ⟨X, q, none⟩ := fun X q hX => World.cell?_setCell_other _ _ _ _ (by intro e; injection e with e1; exact hX e1.symm)
 have hl : i.cells.length = 7 := rfl
 refine ⟨(o _ _ (by omega)).trans a, (Below.heap_setCell _ _ _ _ (by simp; omega)).trans b, fun q u hq => ?_, fun q => (frozen_set' _ _ _ _).trans (d q), (o _ _ (by omega)).trans e, (frozen_set' _ _ _ _).trans f, (o _ _ (by omega)).trans g, l0, l1, l2, by simpa using l3, hb.setCell (by simp; omega) _⟩
 rw [hj] at hq
 by_cases e : q = k
 ·subst e
  rw [List.getElem?_set_self (by omega)] at hq
  simp only [Option.some.injEq] at hq
  subst hq
  exact World.cell?_setCell_same _ _ _ (c q _ (List.getElem?_eq_getElem (by omega)))
 ·rw [List.getElem?_set_ne (fun h => e h.symm)] at hq
  exact (World.cell?_setCell_other _ _ _ _ (by intro e2; injection e2 with _ e3; exact e e3.symm)).trans (c q u hq)
end Go.Proofs.Ytieaicdihingkaa
