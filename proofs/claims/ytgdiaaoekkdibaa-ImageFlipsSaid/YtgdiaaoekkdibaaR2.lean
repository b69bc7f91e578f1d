/- A value stored into a block that a region has made. -/
import Derived.Test.YtgdiaaoekkdibaaR0
namespace Go.Proofs.Ytgdiaaoekkdibaa
set_option linter.unusedVariables false
set_option linter.unusedSimpArgs false
open Go.RowKit
theorem made_any {W9 V : World} {cs : Array Value} {t : TypeId} (h : Below (W9.alloc (Obj.cells cs t)).heap.size (W9.alloc (Obj.cells cs t)) V) (k : Nat) : V.cell? ⟨W9.heap.size, k, none⟩ = cs[k]? := by
  have g : W9.heap.size < (W9.alloc (Obj.cells cs t)).heap.size := by simp
  rw [h.cell (p := ⟨W9.heap.size, k, none⟩) g, Lib.cell_of_heap (alloc_at W9 _)]
/-- The store of a list of values into the new block: what it leaves. -/
theorem stored {W W9 V : World} {cs : Array Value} {t : TypeId} (h : Below (W9.alloc (Obj.cells cs t)).heap.size (W9.alloc (Obj.cells cs t)) V) (hW : Below W.heap.size W W9) (vs : List Value) (hl : vs.length = cs.size) :
    Below W.heap.size W (setAll W9.heap.size vs 0 V) ∧ ∀ U, Below (setAll W9.heap.size vs 0 V).heap.size (setAll W9.heap.size vs 0 V) U → ∀ k u, vs[k]? = some u → U.cell? ⟨W9.heap.size, k, none⟩ = some u := by
  have hb : Below W.heap.size W V := (below_alloc hW _).trans (h.mono (below_alloc hW (Obj.cells cs t)).size)
  have hlt : W9.heap.size < V.heap.size := by have := h.size; simp at this; omega
  refine ⟨setAll_below hW.size vs 0 V hb, fun U hU k u hk => ?_⟩
  have hsz := setAll_size W9.heap.size vs 0 V
  rw [hU.cell (p := ⟨W9.heap.size, k, none⟩) (by rw [hsz]; exact hlt)]
  have := setAll_at (b := W9.heap.size) (j := k) (u := u) vs 0 V hk (fun i hi => by
    rw [Nat.zero_add, made_any h i]
    exact ⟨cs[i]'(by omega), Array.getElem?_eq_getElem (by omega)⟩)
  rw [Nat.zero_add] at this
  exact this
def zeroImg : Obj := Obj.cells #[Value.slice none 0 0, Value.int IntKind.u16 0, Value.int IntKind.u16 0, Value.slice none 0 0, Value.slice none 0 0] 30
theorem stored_img {W W9 V : World} (h : Below (W9.alloc (Obj.cells #[Value.slice none 0 0, Value.int IntKind.u16 0, Value.int IntKind.u16 0, Value.slice none 0 0, Value.slice none 0 0] 30)).heap.size (W9.alloc (Obj.cells #[Value.slice none 0 0, Value.int IntKind.u16 0, Value.int IntKind.u16 0, Value.slice none 0 0, Value.slice none 0 0] 30)) V)
    (hW : Below W.heap.size W W9) (q1 : Option Addr) (q4 : Nat) (q2 : Option Addr) (q5 : Nat) (q3 : Option Addr) (q6 : Nat) (J : Img) (hJ : ImgAt V q1 q2 q3 J) :
    ∃ W2 : World, W2 = (((((V.setCell ⟨W9.heap.size, 0, none⟩ (.slice q1 J.banks.length q4)).setCell ⟨W9.heap.size, 1, none⟩ (.int .u16 J.entry)).setCell ⟨W9.heap.size, 2, none⟩ (.int .u16 J.vector)).setCell ⟨W9.heap.size, 3, none⟩ (.slice q2 J.data.length q5)).setCell ⟨W9.heap.size, 4, none⟩ (.slice q3 J.relocs.length q6)) ∧
      Below W.heap.size W W2 ∧ (∀ U, Below W2.heap.size W2 U → U.cell? ⟨W9.heap.size, 0, none⟩ = some (.slice q1 J.banks.length q4) ∧ U.cell? ⟨W9.heap.size, 1, none⟩ = some (.int .u16 J.entry) ∧ U.cell? ⟨W9.heap.size, 2, none⟩ = some (.int .u16 J.vector) ∧ U.cell? ⟨W9.heap.size, 3, none⟩ = some (.slice q2 J.data.length q5) ∧ U.cell? ⟨W9.heap.size, 4, none⟩ = some (.slice q3 J.relocs.length q6)) ∧ ImgAt W2 q1 q2 q3 J := by
  have hs := stored h hW [.slice q1 J.banks.length q4, .int .u16 J.entry, .int .u16 J.vector, .slice q2 J.data.length q5, .slice q3 J.relocs.length q6] rfl
  refine ⟨_, rfl, hs.1, fun U hU => ⟨hs.2 U hU 0 _ rfl, hs.2 U hU 1 _ rfl, hs.2 U hU 2 _ rfl, hs.2 U hU 3 _ rfl, hs.2 U hU 4 _ rfl⟩, ?_⟩
  have other : ∀ p : Addr, p.block ≠ W9.heap.size → ((((((V.setCell ⟨W9.heap.size, 0, none⟩ (.slice q1 J.banks.length q4)).setCell ⟨W9.heap.size, 1, none⟩ (.int .u16 J.entry)).setCell ⟨W9.heap.size, 2, none⟩ (.int .u16 J.vector)).setCell ⟨W9.heap.size, 3, none⟩ (.slice q2 J.data.length q5)).setCell ⟨W9.heap.size, 4, none⟩ (.slice q3 J.relocs.length q6))).cell? p = V.cell? p :=
    fun p hp => setAll_other hp [.slice q1 J.banks.length q4, .int .u16 J.entry, .int .u16 J.vector, .slice q2 J.data.length q5, .slice q3 J.relocs.length q6] 0 V
  have size : ((((((V.setCell ⟨W9.heap.size, 0, none⟩ (.slice q1 J.banks.length q4)).setCell ⟨W9.heap.size, 1, none⟩ (.int .u16 J.entry)).setCell ⟨W9.heap.size, 2, none⟩ (.int .u16 J.vector)).setCell ⟨W9.heap.size, 3, none⟩ (.slice q2 J.data.length q5)).setCell ⟨W9.heap.size, 4, none⟩ (.slice q3 J.relocs.length q6))).heap.size = V.heap.size := by simp
  generalize (((((V.setCell ⟨W9.heap.size, 0, none⟩ (.slice q1 J.banks.length q4)).setCell ⟨W9.heap.size, 1, none⟩ (.int .u16 J.entry)).setCell ⟨W9.heap.size, 2, none⟩ (.int .u16 J.vector)).setCell ⟨W9.heap.size, 3, none⟩ (.slice q2 J.data.length q5)).setCell ⟨W9.heap.size, 4, none⟩ (.slice q3 J.relocs.length q6)) = W2 at *
  have cases5 : ∀ (k : Nat) (u : Value), V.cell? ⟨W9.heap.size, k, none⟩ = some u → u = .slice none 0 0 ∨ u = .int .u16 0 ∧ (k = 1 ∨ k = 2) := by
    intro k u hu
    rw [made_any h k] at hu
    match k with
    | 0 => simp at hu; exact .inl hu.symm
    | 1 => simp at hu; exact .inr ⟨hu.symm, .inl rfl⟩
    | 2 => simp at hu; exact .inr ⟨hu.symm, .inr rfl⟩
    | 3 => simp at hu; exact .inl hu.symm
    | 4 => simp at hu; exact .inl hu.symm
    | n + 5 => simp at hu
  obtain ⟨j1, j2, j3, je, jv, l1, l2, l3⟩ := hJ
  refine ⟨fun k s hk => ?_, fun k o hk => ?_, fun k r hk => ?_, je, jv, l1, l2, l3⟩
  · obtain ⟨B, e, hB, c0, z⟩ := j1 k s hk
    have hne : B ≠ W9.heap.size := fun e2 => by
      subst e2
      rcases cases5 _ _ c0 with h1 | ⟨h1, _⟩ <;> cases h1
    exact ⟨B, e, by rw [size]; exact hB, (other _ hne).trans c0, z⟩
  · obtain ⟨B, e, hB, c0, c1, c2, z⟩ := j2 k o hk
    have hne : B ≠ W9.heap.size := fun e2 => by
      subst e2
      rcases cases5 _ _ c0 with h1 | ⟨h1, _⟩ <;> cases h1
    exact ⟨B, e, by rw [size]; exact hB, (other _ hne).trans c0, (other _ hne).trans c1, (other _ hne).trans c2, z⟩
  · obtain ⟨B, e, hB, c0, c1, z⟩ := j3 k r hk
    have hne : B ≠ W9.heap.size := fun e2 => by
      subst e2
      rcases cases5 _ _ c0 with h1 | ⟨h1, _⟩ <;> cases h1
    exact ⟨B, e, by rw [size]; exact hB, (other _ hne).trans c0, (other _ hne).trans c1, z⟩
end Go.Proofs.Ytgdiaaoekkdibaa
