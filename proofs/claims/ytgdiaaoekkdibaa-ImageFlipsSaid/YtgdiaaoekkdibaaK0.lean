/- Read's memory, its good end, and plain facts of a file's parts. -/
import Derived.Test.YtgdiaaoekkdibaaI15
import Derived.Test.YtgdiaaoekkdibaaA0
import Derived.Test.YtgdiaaoekkdibaaO0
import Derived.Test.YtgdiaaoekkdibaaFlowS
namespace Go.Proofs.Ytgdiaaoekkdibaa
set_option linter.unusedVariables false
set_option linter.unusedSimpArgs false
open Go.RowKit
structure RM (w w' : World) (I : Img) (v1 v2 v3 : Value) : Prop where
  m : Mk w.heap.size w.heap.size w w' I v1 v2 v3
  q : w'.heap[w.heap.size + 1]? = some (.cells #[.int .i64 0] 3 (0, 0))
  r : w'.heap[w.heap.size + 2]? = some (.cells #[.int .i64 0] 33 (0, 0))
  f1 : w'.frozen? ⟨w.heap.size, 1, none⟩ = false
  f2 : w'.frozen? ⟨w.heap.size, 2, none⟩ = false
  size : w.heap.size + 3 ≤ w'.heap.size
theorem RM.next {w w' w1 : World} {I : Img} {v1 v2 v3 : Value} (h : RM w w' I v1 v2 v3) (hb : Below w'.heap.size w' w1) : RM w w1 I v1 v2 v3 := by
  have hz := h.size
  exact ⟨h.m.next hb, (hb.block _ (by omega)).trans h.q, (hb.block _ (by omega)).trans h.r, (hb.frozen (by show w.heap.size < _; omega)).trans h.f1, (hb.frozen (by show w.heap.size < _; omega)).trans h.f2, Nat.le_trans hz hb.size⟩
theorem own_kind {w : World} {B E size n : Nat} {v : Value} {xs : List Value} (h : w.ownsRow B E size v n xs) {g : Nat} (hg : v.ownBlock = some g) : ∃ cur, w.heap[g]? = some (.cells cur E (0, 0)) := by
  rcases h.2 with ⟨rfl, _⟩ | ⟨g', cap, cur, rfl, _, k, _⟩
  · cases hg
  · simp only [Value.ownBlock, Option.some.injEq] at hg
    subst hg
    exact ⟨cur, k⟩
theorem RM.grow {w w' w1 : World} {I J : Img} {v1 v2 v3 u1 u2 u3 v u : Value} {B E size n k : Nat} {xs : List Value} (h : RM w w' I v1 v2 v3) (ho : w'.ownsRow B E size v n xs) (h3 : E ≠ 3) (h33 : E ≠ 33) (hB : w.heap.size + 1 ≤ B) (hg : w'.grownBy w1 v.ownBlock)
    (hm : Mk w.heap.size w.heap.size w (w1.setCell ⟨w.heap.size, k, none⟩ u) J u1 u2 u3) : RM w (w1.setCell ⟨w.heap.size, k, none⟩ u) J u1 u2 u3 := by
  have hz := h.size
  have ne : ∀ j t, t ≠ E → w'.heap[j]? = some (.cells #[.int .i64 0] t (0, 0)) → v.ownBlock ≠ some j := fun j t ht hj e => by
    obtain ⟨cur, hc⟩ := own_kind ho e
    rw [hj] at hc
    simp only [Option.some.injEq, Obj.cells.injEq] at hc
    exact ht hc.2.1
  have hb : Below (w.heap.size + 1) w' w1 := (Below.refl _ _).grown hg (by omega) (fun j e => Nat.le_trans hB (ho.lt j e).1)
  refine ⟨hm, ?_, ?_, (frozen_set' _ _ _ _).trans ((hb.frozen (p := ⟨w.heap.size, 1, none⟩) (Nat.lt_succ_self _)).trans h.f1), (frozen_set' _ _ _ _).trans ((hb.frozen (p := ⟨w.heap.size, 2, none⟩) (Nat.lt_succ_self _)).trans h.f2), by have := hg.size; simp; omega⟩
  · rw [Below.heap_setCell _ _ _ _ (by simp)]
    exact (hg.block _ (by omega) (fun e => ne _ 3 (Ne.symm h3) h.q (by rw [e]))).trans h.q
  · rw [Below.heap_setCell _ _ _ _ (by simp)]
    exact (hg.block _ (by omega) (fun e => ne _ 33 (Ne.symm h33) h.r (by rw [e]))).trans h.r
theorem rm_start (w w' : World) (x y : Int) (h : ReadMem w w' (.slice none 0 0) (.int .u16 x) (.int .u16 y) (.slice none 0 0) (.slice none 0 0))
    (hq : w'.heap[w.heap.size + 1]? = some (.cells #[.int .i64 0] 3 (0, 0))) (hr : w'.heap[w.heap.size + 2]? = some (.cells #[.int .i64 0] 33 (0, 0))) : RM w w' ⟨[], x, y, [], []⟩ (.slice none 0 0) (.slice none 0 0) (.slice none 0 0) :=
  ⟨⟨h.i0, h.i1, h.i2, h.i3, h.i4, h.f0, h.f3, h.f4, World.ownsRow_nil _ _ _ _, World.ownsRow_nil _ _ _ _, World.ownsRow_nil _ _ _ _, Nat.le_refl _, by have := h.size; omega, h.below⟩, hq, hr, h.f1, h.f2, h.size⟩
theorem RM.read {w w' : World} {I : Img} {v1 v2 v3 : Value} (h : RM w w' I v1 v2 v3) : ReadMem w w' v1 (.int .u16 I.entry) (.int .u16 I.vector) v2 v3 :=
  ⟨h.m.i0, h.m.i1, h.m.i2, h.m.i3, h.m.i4, by have := Lib.cell_of_heap h.q 0; rw [this]; rfl, by have := Lib.cell_of_heap h.r 0; rw [this]; rfl, h.m.f0, h.f1, h.f2, h.m.f3, h.m.f4, by
    unfold World.frozen?; simp [h.q], by unfold World.frozen?; simp [h.r], h.size, h.m.below⟩
theorem leaves_idle {w w' : World} {v0 v1 v2 v3 v4 x y : Value} {tmps : Array Value} {R : Ending → World → Prop}
    (c0 : w'.cell? ⟨w.heap.size, 0, none⟩ = some v0) (c1 : w'.cell? ⟨w.heap.size, 1, none⟩ = some v1) (c2 : w'.cell? ⟨w.heap.size, 2, none⟩ = some v2) (c3 : w'.cell? ⟨w.heap.size, 3, none⟩ = some v3) (c4 : w'.cell? ⟨w.heap.size, 4, none⟩ = some v4)
    (cq : w'.cell? ⟨w.heap.size + 1, 0, none⟩ = some x) (cr : w'.cell? ⟨w.heap.size + 2, 0, none⟩ = some y)
    (t2 : tmps[2]?.getD undef = .pointer (some ⟨w.heap.size, 0, none⟩)) (t3 : tmps[3]?.getD undef = .pointer (some ⟨w.heap.size + 1, 0, none⟩)) (t4 : tmps[4]?.getD undef = .pointer (some ⟨w.heap.size + 2, 0, none⟩))
    (hR : R (.returned (.tuple #[.agg #[v0, v1, v2, v3, v4], x, y])) w') :
    Leaves Try.prog Try.f25 tmps R [{ target := Target.fn (Fn.func 59) #[Value.pointer (some ⟨w.heap.size, 0, none⟩), Value.pointer (some ⟨w.heap.size + 1, 0, none⟩), Value.pointer (some ⟨w.heap.size + 2, 0, none⟩)], args := #[] }] .returning w' := by
  refine leaves_cons (f := 59) (args := #[.pointer (some ⟨w.heap.size, 0, none⟩), .pointer (some ⟨w.heap.size + 1, 0, none⟩), .pointer (some ⟨w.heap.size + 2, 0, none⟩)]) (by simp) (by simp [go_sem]) ?_
  refine (catch_idle _ _ _ _).mono ?_
  rintro e u' w2 ⟨rfl, rfl, rfl⟩
  simp [Leaves, settle, results, Try.results25, go_sem, t2, t3, t4, c0, c1, c2, c3, c4, cq, cr]
  exact hR
theorem range_map_succ {α : Type} (f : Nat → α) (k : Nat) : (List.range (k + 1)).map f = (List.range k).map f ++ [f k] := by
  rw [List.range_succ, List.map_append]; rfl
theorem readW_cells (w : World) : (readW w).heap[w.heap.size + 1]? = some (.cells #[.int .i64 0] 3 (0, 0)) ∧ (readW w).heap[w.heap.size + 2]? = some (.cells #[.int .i64 0] 33 (0, 0)) := by
  unfold readW
  generalize hA : w.alloc (Obj.cells #[Value.slice none 0 0, Value.int IntKind.u16 0, Value.int IntKind.u16 0, Value.slice none 0 0, Value.slice none 0 0] 30) = A
  have sA : A.heap.size = w.heap.size + 1 := by rw [← hA]; simp
  have e1 := alloc_at A (Obj.cells #[Value.int IntKind.i64 0] 3)
  have e2 := alloc_at (A.alloc (Obj.cells #[Value.int IntKind.i64 0] 3)) (Obj.cells #[Value.int IntKind.i64 0] 33)
  have sB : (A.alloc (Obj.cells #[Value.int IntKind.i64 0] 3)).heap.size = w.heap.size + 2 := by simp [sA]
  rw [sA] at e1
  rw [sB] at e2
  exact ⟨((below1 _ _).block _ (by rw [sB]; omega)).trans e1, e2⟩
end Go.Proofs.Ytgdiaaoekkdibaa
