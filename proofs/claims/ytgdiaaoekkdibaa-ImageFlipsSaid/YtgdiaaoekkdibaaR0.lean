/- Relations for regions walked by wp_region_flowR; an image stored into a block of its own. -/
import Derived.Test.YtgdiaaoekkdibaaL0
namespace Go.Proofs.Ytgdiaaoekkdibaa
set_option linter.unusedVariables false
set_option linter.unusedSimpArgs false
open Go.RowKit
def relL : List (Value → World → Prop) → Nat → Value → World → Prop
  | [], _, _, _ => True
  | R :: _, 0, v, V => R v V
  | _ :: l, i + 1, v, V => relL l i v V
def eqV (u v : Value) (_ : World) : Prop := v = u
def ptrTo (Z : Obj) (W : World) (v : Value) (V : World) : Prop := ∃ W9 : World, v = .pointer (some ⟨W9.heap.size, 0, none⟩) ∧ V = W9.alloc Z ∧ Below W.heap.size W W9
theorem ptr_at {Z : Obj} {W V : World} (h : Below W.heap.size W V) : ptrTo Z W (.pointer (some ⟨V.heap.size, 0, none⟩)) (V.alloc Z) := ⟨V, rfl, rfl, h⟩
/-- The cells of a block that was just made. -/
theorem made_cells {W9 V : World} {cs : Array Value} {t : TypeId} (h : Below (W9.alloc (Obj.cells cs t)).heap.size (W9.alloc (Obj.cells cs t)) V) (k : Nat) (u : Value) (hk : cs[k]? = some u) :
    V.cell? ⟨W9.heap.size, k, none⟩ = some u ∧ V.frozen? ⟨W9.heap.size, k, none⟩ = false := by
  have g : W9.heap.size < (W9.alloc (Obj.cells cs t)).heap.size := by simp
  refine ⟨(h.cell (p := ⟨W9.heap.size, k, none⟩) g).trans ?_, (h.frozen (p := ⟨W9.heap.size, k, none⟩) g).trans (by simp [go_sem])⟩
  simp [go_sem, hk]
/-- Stores into a block that was made in the region. -/
def setAll (b : Nat) : List Value → Nat → World → World
  | [], _, w => w
  | v :: vs, k, w => setAll b vs (k + 1) (w.setCell ⟨b, k, none⟩ v)
theorem setAll_size (b : Nat) : ∀ (vs : List Value) (k : Nat) (w : World), (setAll b vs k w).heap.size = w.heap.size
  | [], _, _ => rfl
  | v :: vs, k, w => by rw [setAll, setAll_size b vs]; simp
theorem setAll_below {B b : Nat} {a : World} (hb : B ≤ b) : ∀ (vs : List Value) (k : Nat) (w : World), Below B a w → Below B a (setAll b vs k w)
  | [], _, _, h => h
  | v :: vs, k, w, h => setAll_below hb vs (k + 1) _ (h.setCell (p := ⟨b, k, none⟩) hb v)
theorem setAll_other {b : Nat} {p : Addr} (hp : p.block ≠ b) : ∀ (vs : List Value) (k : Nat) (w : World), (setAll b vs k w).cell? p = w.cell? p
  | [], _, _ => rfl
  | v :: vs, k, w => by
    rw [setAll, setAll_other hp vs, World.cell?_setCell_other]
    intro e; exact hp (by rw [← e])
theorem setAll_early {b j : Nat} : ∀ (vs : List Value) (k : Nat) (w : World), j < k → (setAll b vs k w).cell? ⟨b, j, none⟩ = w.cell? ⟨b, j, none⟩
  | [], _, _, _ => rfl
  | v :: vs, k, w, h => by
    rw [setAll, setAll_early vs (k + 1) _ (by omega), World.cell?_setCell_other]
    intro e; injection e with _ e2; omega
theorem setAll_at {b j : Nat} {u : Value} : ∀ (vs : List Value) (k : Nat) (w : World), vs[j]? = some u → (∀ i, i < vs.length → ∃ z, w.cell? ⟨b, k + i, none⟩ = some z) → (setAll b vs k w).cell? ⟨b, k + j, none⟩ = some u
  | [], _, _, h, _ => by simp at h
  | v :: vs, k, w, h, hz => by
    cases j with
    | zero =>
      simp at h; subst h
      rw [setAll, Nat.add_zero, setAll_early vs (k + 1) _ (by omega)]
      obtain ⟨z, hz0⟩ := hz 0 (by simp)
      exact World.cell?_setCell_same _ _ _ hz0
    | succ j =>
      have := setAll_at (b := b) (j := j) (u := u) vs (k + 1) (w.setCell ⟨b, k, none⟩ v) (by simpa using h) (fun i hi => by
        obtain ⟨z, hz1⟩ := hz (i + 1) (by simpa using hi)
        have e : k + 1 + i = k + (i + 1) := by omega
        refine ⟨z, ?_⟩
        rw [e, World.cell?_setCell_other]
        · exact hz1
        · intro e; injection e with _ e2; omega)
      rw [setAll]
      rw [show k + (j + 1) = k + 1 + j by omega]
      exact this
theorem one_box_3 (w : World) (a0 a1 a2 : Int) : ∀ V : World, Below (w.alloc (Obj.cells #[.int .i64 a0, .int .i64 a1, .int .i64 a2] 23)).heap.size (w.alloc (Obj.cells #[.int .i64 a0, .int .i64 a1, .int .i64 a2] 23)) V → (V.cell? ⟨w.heap.size, 0, none⟩ = some (.int .i64 a0) ∧ V.cell? ⟨w.heap.size, 1, none⟩ = some (.int .i64 a1) ∧ V.cell? ⟨w.heap.size, 2, none⟩ = some (.int .i64 a2)) := by
  intro V h
  have g0 : w.heap.size < (w.alloc (Obj.cells #[.int .i64 a0, .int .i64 a1, .int .i64 a2] 23)).heap.size := by simp
  exact ⟨(h.cell (p := ⟨w.heap.size, 0, none⟩) g0).trans (by simp [go_sem]), (h.cell (p := ⟨w.heap.size, 1, none⟩) g0).trans (by simp [go_sem]), (h.cell (p := ⟨w.heap.size, 2, none⟩) g0).trans (by simp [go_sem])⟩
theorem one_box_2 (w : World) (a0 a1 : Int) : ∀ V : World, Below (w.alloc (Obj.cells #[.int .i64 a0, .int .i64 a1] 49)).heap.size (w.alloc (Obj.cells #[.int .i64 a0, .int .i64 a1] 49)) V → (V.cell? ⟨w.heap.size, 0, none⟩ = some (.int .i64 a0) ∧ V.cell? ⟨w.heap.size, 1, none⟩ = some (.int .i64 a1)) := by
  intro V h
  have g0 : w.heap.size < (w.alloc (Obj.cells #[.int .i64 a0, .int .i64 a1] 49)).heap.size := by simp
  exact ⟨(h.cell (p := ⟨w.heap.size, 0, none⟩) g0).trans (by simp [go_sem]), (h.cell (p := ⟨w.heap.size, 1, none⟩) g0).trans (by simp [go_sem])⟩
theorem two_boxes_33 (w : World) (a0 a1 a2 b0 b1 b2 : Int) : ∀ V : World, Below ((w.alloc (Obj.cells #[.int .i64 a0, .int .i64 a1, .int .i64 a2] 23)).alloc (Obj.cells #[.int .i64 b0, .int .i64 b1, .int .i64 b2] 23)).heap.size ((w.alloc (Obj.cells #[.int .i64 a0, .int .i64 a1, .int .i64 a2] 23)).alloc (Obj.cells #[.int .i64 b0, .int .i64 b1, .int .i64 b2] 23)) V → (V.cell? ⟨w.heap.size, 0, none⟩ = some (.int .i64 a0) ∧ V.cell? ⟨w.heap.size, 1, none⟩ = some (.int .i64 a1) ∧ V.cell? ⟨w.heap.size, 2, none⟩ = some (.int .i64 a2)) ∧ (V.cell? ⟨w.heap.size + 1, 0, none⟩ = some (.int .i64 b0) ∧ V.cell? ⟨w.heap.size + 1, 1, none⟩ = some (.int .i64 b1) ∧ V.cell? ⟨w.heap.size + 1, 2, none⟩ = some (.int .i64 b2)) := by
  intro V h
  have g0 : w.heap.size < ((w.alloc (Obj.cells #[.int .i64 a0, .int .i64 a1, .int .i64 a2] 23)).alloc (Obj.cells #[.int .i64 b0, .int .i64 b1, .int .i64 b2] 23)).heap.size := by simp; omega
  have g1 : w.heap.size + 1 < ((w.alloc (Obj.cells #[.int .i64 a0, .int .i64 a1, .int .i64 a2] 23)).alloc (Obj.cells #[.int .i64 b0, .int .i64 b1, .int .i64 b2] 23)).heap.size := by simp
  exact ⟨⟨(h.cell (p := ⟨w.heap.size, 0, none⟩) g0).trans (by simp [go_sem]), (h.cell (p := ⟨w.heap.size, 1, none⟩) g0).trans (by simp [go_sem]), (h.cell (p := ⟨w.heap.size, 2, none⟩) g0).trans (by simp [go_sem])⟩, ⟨(h.cell (p := ⟨w.heap.size + 1, 0, none⟩) g1).trans (by simp [go_sem]), (h.cell (p := ⟨w.heap.size + 1, 1, none⟩) g1).trans (by simp [go_sem]), (h.cell (p := ⟨w.heap.size + 1, 2, none⟩) g1).trans (by simp [go_sem])⟩⟩
theorem two_boxes_32 (w : World) (a0 a1 a2 b0 b1 : Int) : ∀ V : World, Below ((w.alloc (Obj.cells #[.int .i64 a0, .int .i64 a1, .int .i64 a2] 23)).alloc (Obj.cells #[.int .i64 b0, .int .i64 b1] 49)).heap.size ((w.alloc (Obj.cells #[.int .i64 a0, .int .i64 a1, .int .i64 a2] 23)).alloc (Obj.cells #[.int .i64 b0, .int .i64 b1] 49)) V → (V.cell? ⟨w.heap.size, 0, none⟩ = some (.int .i64 a0) ∧ V.cell? ⟨w.heap.size, 1, none⟩ = some (.int .i64 a1) ∧ V.cell? ⟨w.heap.size, 2, none⟩ = some (.int .i64 a2)) ∧ (V.cell? ⟨w.heap.size + 1, 0, none⟩ = some (.int .i64 b0) ∧ V.cell? ⟨w.heap.size + 1, 1, none⟩ = some (.int .i64 b1)) := by
  intro V h
  have g0 : w.heap.size < ((w.alloc (Obj.cells #[.int .i64 a0, .int .i64 a1, .int .i64 a2] 23)).alloc (Obj.cells #[.int .i64 b0, .int .i64 b1] 49)).heap.size := by simp; omega
  have g1 : w.heap.size + 1 < ((w.alloc (Obj.cells #[.int .i64 a0, .int .i64 a1, .int .i64 a2] 23)).alloc (Obj.cells #[.int .i64 b0, .int .i64 b1] 49)).heap.size := by simp
  exact ⟨⟨(h.cell (p := ⟨w.heap.size, 0, none⟩) g0).trans (by simp [go_sem]), (h.cell (p := ⟨w.heap.size, 1, none⟩) g0).trans (by simp [go_sem]), (h.cell (p := ⟨w.heap.size, 2, none⟩) g0).trans (by simp [go_sem])⟩, ⟨(h.cell (p := ⟨w.heap.size + 1, 0, none⟩) g1).trans (by simp [go_sem]), (h.cell (p := ⟨w.heap.size + 1, 1, none⟩) g1).trans (by simp [go_sem])⟩⟩
end Go.Proofs.Ytgdiaaoekkdibaa
