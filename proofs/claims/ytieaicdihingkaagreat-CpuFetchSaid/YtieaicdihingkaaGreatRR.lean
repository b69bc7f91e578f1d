/- Relations for regions that draw their order; blocks that a region makes. -/
import Derived.Test.YtieaicdihingkaaGreatFlowU
namespace Go.Proofs.YtieaicdihingkaaGreat
set_option linter.unusedVariables false
set_option linter.unusedSimpArgs false
open Go.RowKit
theorem alloc_at (w : World) (o : Obj) : (w.alloc o).heap[w.heap.size]? = some o := by
 show (w.heap.push o)[w.heap.size]? = some o
 simp
theorem frozen_set' (W : World) (p a : Addr) (v : Value) : (W.setCell p v).frozen? a = W.frozen? a := by simp
def relL : List (Value → World → Prop) → Nat → Value → World → Prop
 | [], _, _, _ => True
 | R :: _, 0, v, V => R v V
 | _ :: l, i + 1, v, V => relL l i v V
def eqV (u v : Value) (_ : World) : Prop := v = u
theorem lR : (∀ (R : Value → World → Prop) (l : List (Value → World → Prop)) (v : Value) (V : World), relL (R :: l) 0 v V = R v V) ∧ (∀ (R : Value → World → Prop) (l : List (Value → World → Prop)) (i : Nat) (v : Value) (V : World), relL (R :: l) (i + 1) v V = relL l i v V) ∧ (∀ (u v : Value) (V : World), eqV u v V = (v = u)) :=
  ⟨fun _ _ _ _ => rfl, fun _ _ _ _ _ => rfl, fun _ _ _ => rfl⟩
def ptrTo (Z : Obj) (W : World) (v : Value) (V : World) : Prop := ∃ W9 : World, v = .pointer (some ⟨W9.heap.size, 0, none⟩) ∧ V = W9.alloc Z ∧ Below W.heap.size W W9
theorem ptr_at {Z : Obj} {W V : World} (h : Below W.heap.size W V) : ptrTo Z W (.pointer (some ⟨V.heap.size, 0, none⟩)) (V.alloc Z) := ⟨V, rfl, rfl, h⟩
/-- The cells of a block that was just made. -/
theorem made_cells {W9 V : World} {cs : Array Value} {t : TypeId} (h : Below (W9.alloc (Obj.cells cs t)).heap.size (W9.alloc (Obj.cells cs t)) V) (k : Nat) (u : Value) (hk : cs[k]? = some u) :
  V.cell? ⟨W9.heap.size, k, none⟩ = some u ∧ V.frozen? ⟨W9.heap.size, k, none⟩ = false := by
 have g : W9.heap.size < (W9.alloc (Obj.cells cs t)).heap.size := by simp
 refine ⟨(h.cell (p := ⟨W9.heap.size, k, none⟩) g).trans ?_, (h.frozen (p := ⟨W9.heap.size, k, none⟩) g).trans (by simp [go_sem])⟩
 simp [go_sem, hk]
/-- Stores into a block that was made in the region. -/
def setAll (b : Nat) : List Value → Nat → World → World
 | [], _, w => w
 | v :: vs, k, w => setAll b vs (k + 1) (w.setCell ⟨b, k, none⟩ v)
theorem setAll_size (b : Nat) : ∀ (vs : List Value) (k : Nat) (w : World), (setAll b vs k w).heap.size = w.heap.size
 | [], _, _ => rfl
 | v :: vs, k, w => by rw [setAll, setAll_size b vs]; simp
theorem setAll_below {B b : Nat} {a : World} (hb : B ≤ b) : ∀ (vs : List Value) (k : Nat) (w : World), Below B a w → Below B a (setAll b vs k w)
 | [], _, _, h => h
 | v :: vs, k, w, h => setAll_below hb vs (k + 1) _ (h.setCell (p := ⟨b, k, none⟩) hb v)
theorem setAll_early {b j : Nat} : ∀ (vs : List Value) (k : Nat) (w : World), j < k → (setAll b vs k w).cell? ⟨b, j, none⟩ = w.cell? ⟨b, j, none⟩
 | [], _, _, _ => rfl
 | v :: vs, k, w, h => by
  rw [setAll, setAll_early vs (k + 1) _ (by omega), World.cell?_setCell_other]
  intro e; injection e with _ e2; omega
theorem setAll_at {b j : Nat} {u : Value} : ∀ (vs : List Value) (k : Nat) (w : World), vs[j]? = some u → (∀ i, i < vs.length → ∃ z, w.cell? ⟨b, k + i, none⟩ = some z) → (setAll b vs k w).cell? ⟨b, k + j, none⟩ = some u
 | [], _, _, h, _ => by simp at h
 | v :: vs, k, w, h, hz => by
  cases j with
  | zero =>
   simp at h; subst h
   rw [setAll, Nat.add_zero, setAll_early vs (k + 1) _ (by omega)]
   obtain ⟨z, hz0⟩ := hz 0 (by simp)
   exact World.cell?_setCell_same _ _ _ hz0
  | succ j =>
   have := setAll_at (b := b) (j := j) (u := u) vs (k + 1) (w.setCell ⟨b, k, none⟩ v) (by simpa using h) (fun i hi => by
    obtain ⟨z, hz1⟩ := hz (i + 1) (by simpa using hi)
    have e : k + 1 + i = k + (i + 1) := by omega
    refine ⟨z, ?_⟩
    rw [e, World.cell?_setCell_other]
    ·exact hz1
    ·intro e; injection e with _ e2; omega)
   rw [setAll]
   rw [show k + (j + 1) = k + 1 + j by omega]
   exact this
theorem made_any {W9 V : World} {cs : Array Value} {t : TypeId} (h : Below (W9.alloc (Obj.cells cs t)).heap.size (W9.alloc (Obj.cells cs t)) V) (k : Nat) : V.cell? ⟨W9.heap.size, k, none⟩ = cs[k]? := by
 have g : W9.heap.size < (W9.alloc (Obj.cells cs t)).heap.size := by simp
 rw [h.cell (p := ⟨W9.heap.size, k, none⟩) g, Lib.cell_of_heap (alloc_at W9 _)]
/-- The store of a list of values into the new block: what it leaves. -/
theorem stored {W W9 V : World} {cs : Array Value} {t : TypeId} (h : Below (W9.alloc (Obj.cells cs t)).heap.size (W9.alloc (Obj.cells cs t)) V) (hW : Below W.heap.size W W9) (vs : List Value) (hl : vs.length = cs.size) :
  Below W.heap.size W (setAll W9.heap.size vs 0 V) ∧ ∀ U, Below (setAll W9.heap.size vs 0 V).heap.size (setAll W9.heap.size vs 0 V) U → ∀ k u, vs[k]? = some u → U.cell? ⟨W9.heap.size, k, none⟩ = some u := by
 have hb : Below W.heap.size W V := (below_alloc hW _).trans (h.mono (below_alloc hW (Obj.cells cs t)).size)
 have hlt : W9.heap.size < V.heap.size := by have := h.size; simp at this; omega
 refine ⟨setAll_below hW.size vs 0 V hb, fun U hU k u hk => ?_⟩
 have hsz := setAll_size W9.heap.size vs 0 V
 rw [hU.cell (p := ⟨W9.heap.size, k, none⟩) (by rw [hsz]; exact hlt)]
 have := setAll_at (b := W9.heap.size) (j := k) (u := u) vs 0 V hk (fun i hi => by
  rw [Nat.zero_add, made_any h i]
  exact ⟨cs[i]'(by omega), Array.getElem?_eq_getElem (by omega)⟩)
 rw [Nat.zero_add] at this
 exact this
theorem news_at {W9 V : World} {cs : Array Value} {t : TypeId} (h : Below (W9.alloc (Obj.cells cs t)).heap.size (W9.alloc (Obj.cells cs t)) V) (l : List Value) (hl : cs.toList = l) : ∀ j u, l[j]? = some u → V.cell? ((⟨W9.heap.size, 0, none⟩ : Addr).add j) = some u := by
 intro j u hu
 rw [show (⟨W9.heap.size, 0, none⟩ : Addr).add j = ⟨W9.heap.size, j, none⟩ from by unfold Addr.add; split <;> simp_all]
 refine (made_cells h j u ?_).1
 subst hl
 simpa using hu