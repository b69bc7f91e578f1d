/- A row stored in a block, named by an equation. -/
import Derived.Test.YtieaicdihingkaaHK
namespace Go.Proofs.Ytieaicdihingkaa
set_option linter.unusedVariables false
set_option linter.unusedSimpArgs false
open Go.RowKit
theorem sr_blk {w W : World} {A : Nat} {C c : Array Value} {t : TypeId} {f : Nat × Nat} (h : w.heap[A]? = some (.cells c t f)) (e : w.setRow A C = W) : W.heap[A]? = some (.cells C t f) := e ▸ setRow_heap _ _ _ C _ _ h
theorem sr_oth {w W : World} {A B : Nat} {C : Array Value} {o : Obj} (hne : A ≠ B) (h : w.heap[B]? = some o) (e : w.setRow A C = W) : W.heap[B]? = some o := e ▸ (setRow_other w A B C (fun e => hne e.symm)).trans h
theorem sr_bel {w0 w W : World} {A : Nat} {C : Array Value} (h : Below w0.heap.size w0 w) (hA : w0.heap.size ≤ A) (e : w.setRow A C = W) : Below w0.heap.size w0 W := e ▸ setRow_below h hA
theorem sr_snap {W0 w W : World} {m : Mach} {vs vo : Value} {A : Nat} {c C : Array Value} {t : TypeId} (hs : SnapIn W0 w m vs vo) (ht : t ≠ 22 ∧ t ≠ 54) (h : w.heap[A]? = some (.cells c t (0, 0))) (e : w.setRow A C = W) : SnapIn W0 W m vs vo := e ▸ snap_row2 ht h hs
end Go.Proofs.Ytieaicdihingkaa
