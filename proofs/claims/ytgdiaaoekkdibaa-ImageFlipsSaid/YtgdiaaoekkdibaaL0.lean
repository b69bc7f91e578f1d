/- Images in blocks of their own: what the laws' walks begin with. -/
import Derived.Test.YtgdiaaoekkdibaaO0
import Derived.Test.YtgdiaaoekkdibaaFlow
namespace Go.Proofs.Ytgdiaaoekkdibaa
set_option linter.unusedVariables false
set_option linter.unusedSimpArgs false
open Go.RowKit
theorem full_size {I : Img} (hc : checkI I = 0) : ∀ s ∈ I.banks, s.size ≤ 4096 := by
  obtain ⟨_, _, hF, _⟩ := check_valid I hc
  intro s hs
  have := hF s hs
  omega
theorem two_arrs (w : World) (x y z a b c : Int) : ∀ W' : World, Below ((w.alloc (Obj.cells #[.int .i64 x, .int .i64 y, .int .i64 z] 23)).alloc (Obj.cells #[.int .i64 a, .int .i64 b, .int .i64 c] 23)).heap.size ((w.alloc (Obj.cells #[.int .i64 x, .int .i64 y, .int .i64 z] 23)).alloc (Obj.cells #[.int .i64 a, .int .i64 b, .int .i64 c] 23)) W' → W'.cell? ⟨w.heap.size, 0, none⟩ = some (.int .i64 x) ∧ W'.cell? ⟨w.heap.size, 1, none⟩ = some (.int .i64 y) ∧ W'.cell? ⟨w.heap.size, 2, none⟩ = some (.int .i64 z) ∧ W'.cell? ⟨w.heap.size + 1, 0, none⟩ = some (.int .i64 a) ∧ W'.cell? ⟨w.heap.size + 1, 1, none⟩ = some (.int .i64 b) ∧ W'.cell? ⟨w.heap.size + 1, 2, none⟩ = some (.int .i64 c) := by
  intro W' h
  have g0 : w.heap.size < ((w.alloc (Obj.cells #[.int .i64 x, .int .i64 y, .int .i64 z] 23)).alloc (Obj.cells #[.int .i64 a, .int .i64 b, .int .i64 c] 23)).heap.size := by simp; omega
  have g1 : w.heap.size + 1 < ((w.alloc (Obj.cells #[.int .i64 x, .int .i64 y, .int .i64 z] 23)).alloc (Obj.cells #[.int .i64 a, .int .i64 b, .int .i64 c] 23)).heap.size := by simp
  exact ⟨(h.cell (p := ⟨w.heap.size, 0, none⟩) g0).trans (by simp [go_sem]), (h.cell (p := ⟨w.heap.size, 1, none⟩) g0).trans (by simp [go_sem]), (h.cell (p := ⟨w.heap.size, 2, none⟩) g0).trans (by simp [go_sem]), (h.cell (p := ⟨w.heap.size + 1, 0, none⟩) g1).trans (by simp [go_sem]), (h.cell (p := ⟨w.heap.size + 1, 1, none⟩) g1).trans (by simp [go_sem]), (h.cell (p := ⟨w.heap.size + 1, 2, none⟩) g1).trans (by simp [go_sem])⟩
theorem one_arr (w : World) (x y z : Int) : ∀ W' : World, Below (w.alloc (Obj.cells #[.int .i64 x, .int .i64 y, .int .i64 z] 23)).heap.size (w.alloc (Obj.cells #[.int .i64 x, .int .i64 y, .int .i64 z] 23)) W' → W'.cell? ⟨w.heap.size, 0, none⟩ = some (.int .i64 x) ∧ W'.cell? ⟨w.heap.size, 1, none⟩ = some (.int .i64 y) ∧ W'.cell? ⟨w.heap.size, 2, none⟩ = some (.int .i64 z) := by
  intro W' h
  have g0 : w.heap.size < (w.alloc (Obj.cells #[.int .i64 x, .int .i64 y, .int .i64 z] 23)).heap.size := by simp
  exact ⟨(h.cell (p := ⟨w.heap.size, 0, none⟩) g0).trans (by simp [go_sem]), (h.cell (p := ⟨w.heap.size, 1, none⟩) g0).trans (by simp [go_sem]), (h.cell (p := ⟨w.heap.size, 2, none⟩) g0).trans (by simp [go_sem])⟩
theorem laid_cells (W : World) (v0 v1 v2 v3 v4 : Value) : ∀ V : World, Below (W.alloc (Obj.cells #[v0, v1, v2, v3, v4] 30)).heap.size (W.alloc (Obj.cells #[v0, v1, v2, v3, v4] 30)) V →
    V.cell? ⟨W.heap.size, 0, none⟩ = some v0 ∧ V.cell? ⟨W.heap.size, 1, none⟩ = some v1 ∧ V.cell? ⟨W.heap.size, 2, none⟩ = some v2 ∧ V.cell? ⟨W.heap.size, 3, none⟩ = some v3 ∧ V.cell? ⟨W.heap.size, 4, none⟩ = some v4 := by
  intro V h
  have g : W.heap.size < (W.alloc (Obj.cells #[v0, v1, v2, v3, v4] 30)).heap.size := by simp
  exact ⟨(h.cell (p := ⟨W.heap.size, 0, none⟩) g).trans (by simp [go_sem]), (h.cell (p := ⟨W.heap.size, 1, none⟩) g).trans (by simp [go_sem]), (h.cell (p := ⟨W.heap.size, 2, none⟩) g).trans (by simp [go_sem]), (h.cell (p := ⟨W.heap.size, 3, none⟩) g).trans (by simp [go_sem]), (h.cell (p := ⟨W.heap.size, 4, none⟩) g).trans (by simp [go_sem])⟩
end Go.Proofs.Ytgdiaaoekkdibaa
