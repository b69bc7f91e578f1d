/- The contracts of the closure that Read defers, and of need. -/
import Derived.Test.YtgdiaaoekkdibaaProg
import Derived.Test.YtgdiaaoekkdibaaP3
import Derived.RegionTactic
import Derived.ChangeAlike
import Derived.Defers
import Derived.Recover
import Derived.WalkLawsBesides
import Derived.BigRegion
namespace Go.Proofs.Ytgdiaaoekkdibaa
set_option linter.unusedVariables false
set_option linter.unusedSimpArgs false
open Go.RowKit
theorem wpS_hide {P : Program} {Q : Exit → Act → List Frame → World → Prop} {a : Act} {cs : List Frame} {w : World} {c : Code}
    (h : ∀ R : Exit → Act → World → Prop, Hid (∀ e a' w', Q e a' cs w' → R e a' w') → c.wp P R a w) : c.wpS P Q a cs w :=
  wpS_of_wp (h _ (fun _ _ _ h => h))
theorem catch_idle (p q r : Addr) (w : World) :
    CallsD Try.prog 59 #[.pointer (some p), .pointer (some q), .pointer (some r)] .returning w fun e u' w' => e = .returned (.tuple #[]) ∧ u' = .returning ∧ w' = w := by
  refine callsD_of_wpS Try.func59 rfl fun c₀ cs hu => ?_
  simp only [Try.ntmps59, List.size_toArray, List.length_cons, List.length_nil, Nat.reduceAdd, Nat.reduceSub, Array.replicate_succ, Array.replicate_zero, List.push_toArray, List.append_toArray, List.nil_append, List.cons_append]
  apply wpS_seq
  apply wpS_region
  simp [wpOpsS, go_sem, recoverD, hu, Exit.thenS]
  refine wpS_hide fun R HR => ?_
  go_wp2
  refine HR.out _ _ _ ?_
  cases c₀
  simp_all [bodyPostS, results, Try.results59, Exit.thenS]
/-- The world behind the closure that caught an error. -/
def caughtW (w : World) (B : Nat) (off e : Int) : World :=
  ((((((((w.alloc (Obj.cells #[Value.int IntKind.i64 off, Value.int IntKind.i64 e] 98)).setCell ⟨B, 0, none⟩ (.slice none 0 0)).setCell ⟨B, 1, none⟩ (.int .u16 0)).setCell ⟨B, 2, none⟩ (.int .u16 0)).setCell ⟨B, 3, none⟩ (.slice none 0 0)).setCell ⟨B, 4, none⟩ (.slice none 0 0)).setCell ⟨B + 1, 0, none⟩ (.int .i64 off)).setCell ⟨B + 2, 0, none⟩ (.int .i64 e)).drew
set_option maxRecDepth 20000 in
theorem catch_wrong (B : Nat) (c0 c1 c2 c3 c4 c5 c6 : Value) (off e : Int) (older : List PanicEntry) (w : World)
    (h0 : w.cell? ⟨B, 0, none⟩ = some c0) (h1 : w.cell? ⟨B, 1, none⟩ = some c1) (h2 : w.cell? ⟨B, 2, none⟩ = some c2) (h3 : w.cell? ⟨B, 3, none⟩ = some c3) (h4 : w.cell? ⟨B, 4, none⟩ = some c4)
    (h5 : w.cell? ⟨B + 1, 0, none⟩ = some c5) (h6 : w.cell? ⟨B + 2, 0, none⟩ = some c6) (hB : B + 2 < w.heap.size)
    (f0 : w.frozen? ⟨B, 0, none⟩ = false) (f1 : w.frozen? ⟨B, 1, none⟩ = false) (f2 : w.frozen? ⟨B, 2, none⟩ = false) (f3 : w.frozen? ⟨B, 3, none⟩ = false) (f4 : w.frozen? ⟨B, 4, none⟩ = false)
    (f5 : w.frozen? ⟨B + 1, 0, none⟩ = false) (f6 : w.frozen? ⟨B + 2, 0, none⟩ = false) :
    CallsD Try.prog 59 #[.pointer (some ⟨B, 0, none⟩), .pointer (some ⟨B + 1, 0, none⟩), .pointer (some ⟨B + 2, 0, none⟩)] (.panicking ({ v := .iface 98 (.agg #[.int .i64 off, .int .i64 e]), recovered := false } :: older)) w fun x u' w' =>
      x = .returned (.tuple #[]) ∧ u' = .panicking ({ v := .iface 98 (.agg #[.int .i64 off, .int .i64 e]), recovered := true } :: older) ∧ w' = caughtW w B off e := by
  have HCW : Hid (caughtW w B off e = ((((((((w.alloc (Obj.cells #[Value.int IntKind.i64 off, Value.int IntKind.i64 e] 98)).setCell ⟨B, 0, none⟩ (.slice none 0 0)).setCell ⟨B, 1, none⟩ (.int .u16 0)).setCell ⟨B, 2, none⟩ (.int .u16 0)).setCell ⟨B, 3, none⟩ (.slice none 0 0)).setCell ⟨B, 4, none⟩ (.slice none 0 0)).setCell ⟨B + 1, 0, none⟩ (.int .i64 off)).setCell ⟨B + 2, 0, none⟩ (.int .i64 e)).drew) := rfl
  have hta : ∀ w : World, (Instr.typeAssert (Value.iface 98 (Value.agg #[Value.int IntKind.i64 off, Value.int IntKind.i64 e])) 20 98 true).run Try.prog w = .ok (.tuple #[Value.agg #[Value.int IntKind.i64 off, Value.int IntKind.i64 e], .bool true]) w := fun _ => by kernel_rfl
  refine callsD_of_wpS Try.func59 rfl fun c₀ cs hu => ?_
  simp only [Try.ntmps59, List.size_toArray, List.length_cons, List.length_nil, Nat.reduceAdd, Nat.reduceSub, Array.replicate_succ, Array.replicate_zero, List.push_toArray, List.append_toArray, List.nil_append, List.cons_append]
  apply wpS_seq
  apply wpS_region
  simp [wpOpsS, go_sem, recoverD, hu, Exit.thenS]
  refine wpS_hide fun R HR => ?_
  have hb0 : B < w.heap.size := by omega
  have hb1 : B + 1 < w.heap.size := by omega
  have hb2 : B + 2 < w.heap.size := by omega
  have hBel := below1 w (Obj.cells #[Value.int IntKind.i64 off, Value.int IntKind.i64 e] 98)
  have y0 : (w.alloc (Obj.cells #[Value.int IntKind.i64 off, Value.int IntKind.i64 e] 98)).cell? ⟨B, 0, none⟩ = some c0 := (hBel.cell (p := ⟨B, 0, none⟩) hb0).trans h0
  have z0 : (w.alloc (Obj.cells #[Value.int IntKind.i64 off, Value.int IntKind.i64 e] 98)).frozen? ⟨B, 0, none⟩ = false := (hBel.frozen (p := ⟨B, 0, none⟩) hb0).trans f0
  have y1 : (w.alloc (Obj.cells #[Value.int IntKind.i64 off, Value.int IntKind.i64 e] 98)).cell? ⟨B, 1, none⟩ = some c1 := (hBel.cell (p := ⟨B, 1, none⟩) hb0).trans h1
  have z1 : (w.alloc (Obj.cells #[Value.int IntKind.i64 off, Value.int IntKind.i64 e] 98)).frozen? ⟨B, 1, none⟩ = false := (hBel.frozen (p := ⟨B, 1, none⟩) hb0).trans f1
  have y2 : (w.alloc (Obj.cells #[Value.int IntKind.i64 off, Value.int IntKind.i64 e] 98)).cell? ⟨B, 2, none⟩ = some c2 := (hBel.cell (p := ⟨B, 2, none⟩) hb0).trans h2
  have z2 : (w.alloc (Obj.cells #[Value.int IntKind.i64 off, Value.int IntKind.i64 e] 98)).frozen? ⟨B, 2, none⟩ = false := (hBel.frozen (p := ⟨B, 2, none⟩) hb0).trans f2
  have y3 : (w.alloc (Obj.cells #[Value.int IntKind.i64 off, Value.int IntKind.i64 e] 98)).cell? ⟨B, 3, none⟩ = some c3 := (hBel.cell (p := ⟨B, 3, none⟩) hb0).trans h3
  have z3 : (w.alloc (Obj.cells #[Value.int IntKind.i64 off, Value.int IntKind.i64 e] 98)).frozen? ⟨B, 3, none⟩ = false := (hBel.frozen (p := ⟨B, 3, none⟩) hb0).trans f3
  have y4 : (w.alloc (Obj.cells #[Value.int IntKind.i64 off, Value.int IntKind.i64 e] 98)).cell? ⟨B, 4, none⟩ = some c4 := (hBel.cell (p := ⟨B, 4, none⟩) hb0).trans h4
  have z4 : (w.alloc (Obj.cells #[Value.int IntKind.i64 off, Value.int IntKind.i64 e] 98)).frozen? ⟨B, 4, none⟩ = false := (hBel.frozen (p := ⟨B, 4, none⟩) hb0).trans f4
  have y5 : (w.alloc (Obj.cells #[Value.int IntKind.i64 off, Value.int IntKind.i64 e] 98)).cell? ⟨B + 1, 0, none⟩ = some c5 := (hBel.cell (p := ⟨B + 1, 0, none⟩) hb1).trans h5
  have z5 : (w.alloc (Obj.cells #[Value.int IntKind.i64 off, Value.int IntKind.i64 e] 98)).frozen? ⟨B + 1, 0, none⟩ = false := (hBel.frozen (p := ⟨B + 1, 0, none⟩) hb1).trans f5
  have y6 : (w.alloc (Obj.cells #[Value.int IntKind.i64 off, Value.int IntKind.i64 e] 98)).cell? ⟨B + 2, 0, none⟩ = some c6 := (hBel.cell (p := ⟨B + 2, 0, none⟩) hb2).trans h6
  have z6 : (w.alloc (Obj.cells #[Value.int IntKind.i64 off, Value.int IntKind.i64 e] 98)).frozen? ⟨B + 2, 0, none⟩ = false := (hBel.frozen (p := ⟨B + 2, 0, none⟩) hb2).trans f6
  have y7 : (w.alloc (Obj.cells #[Value.int IntKind.i64 off, Value.int IntKind.i64 e] 98)).cell? ⟨w.heap.size, 0, none⟩ = some (.int .i64 off) := by simp
  have y8 : (w.alloc (Obj.cells #[Value.int IntKind.i64 off, Value.int IntKind.i64 e] 98)).cell? ⟨w.heap.size, 1, none⟩ = some (.int .i64 e) := by simp
  go_wp2
  have hS : B + 2 < w.heap.size := hB
  clear hBel hb0 hb1 hb2 h0 h1 h2 h3 h4 h5 h6 f0 f1 f2 f3 f4 f5 f6
  generalize w.alloc (Obj.cells #[Value.int IntKind.i64 off, Value.int IntKind.i64 e] 98) = W1 at *
  generalize w.heap.size = N at *
  go_region
  simp only [Exit.inBlock]
  refine HR.out _ _ _ ?_
  cases c₀
  simp [bodyPostS, results, Try.results59]
  exact HCW.out.symm
def wrongV (off e : Int) : Value := .iface 98 (.agg #[.int .i64 off, .int .i64 e])
theorem need_yes (b : Bool) (off e : Int) (w : World) (hb : b = true) :
    Calls Try.prog 61 #[.bool b, .int .i64 off, .int .i64 e] w fun x w' => x = .returned (.tuple #[]) ∧ w = w' := by
  subst hb
  go_enter Try.func61, Try.ntmps61
  go_wp2
  go_end0
  exact ⟨rfl, rfl⟩
theorem need_no (b : Bool) (off e : Int) (w : World) (hb : b = false) :
    Calls Try.prog 61 #[.bool b, .int .i64 off, .int .i64 e] w fun x w' => x = .panicked [{ v := .iface 98 (.agg #[.int .i64 off, .int .i64 e]), recovered := false }] ∧ w = w' := by
  subst hb
  go_enter Try.func61, Try.ntmps61
  go_wp2
  exact ⟨rfl, rfl, rfl⟩
end Go.Proofs.Ytgdiaaoekkdibaa
