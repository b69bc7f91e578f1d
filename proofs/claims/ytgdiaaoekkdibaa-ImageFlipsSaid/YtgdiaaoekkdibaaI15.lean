/- The contracts of the closure that Read defers, and of need. -/
import Derived.Test.YtgdiaaoekkdibaaProg
import Derived.Test.YtgdiaaoekkdibaaP1
import Derived.RegionTactic
import Derived.ChangeAlike
import Derived.Defers
import Derived.Recover
import Derived.WalkLawsBesides
import Derived.BigRegion
import Derived.Test.YtgdiaaoekkdibaaI10
namespace Go.Proofs.Ytgdiaaoekkdibaa
set_option linter.unusedVariables false
set_option linter.unusedSimpArgs false
open Go.RowKit
theorem wpS_hide {P : Program} {Q : Exit → Act → List Frame → World → Prop} {a : Act} {cs : List Frame} {w : World} {c : Code}
    (h : ∀ R : Exit → Act → World → Prop, Hid (∀ e a' w', Q e a' cs w' → R e a' w') → c.wp P R a w) : c.wpS P Q a cs w :=
  wpS_of_wp (h _ (fun _ _ _ h => h))
theorem catch_idle (p q r : Addr) (w : World) :
    CallsD Try.prog 59 #[.pointer (some p), .pointer (some q), .pointer (some r)] .returning w fun e u' w' => e = .returned (.tuple #[]) ∧ u' = .returning ∧ w' = w := by
  refine callsD_of_wpS Try.func59 rfl fun c₀ cs hu => ?_
  simp only [Try.ntmps59, List.size_toArray, List.length_cons, List.length_nil, Nat.reduceAdd, Nat.reduceSub, Array.replicate_succ, Array.replicate_zero, List.push_toArray, List.append_toArray, List.nil_append, List.cons_append]
  apply wpS_seq
  apply wpS_region
  simp [wpOpsS, go_sem, recoverD, hu, Exit.thenS]
  refine wpS_hide fun R HR => ?_
  go_wp2
  refine HR.out _ _ _ ?_
  cases c₀
  simp_all [bodyPostS, results, Try.results59, Exit.thenS]
/-- The world behind the closure that caught an error. -/
def caughtW (w : World) (B : Nat) (off e : Int) : World :=
  ((((((((w.alloc (Obj.cells #[Value.int IntKind.i64 off, Value.int IntKind.i64 e] 98)).setCell ⟨B, 0, none⟩ (.slice none 0 0)).setCell ⟨B, 1, none⟩ (.int .u16 0)).setCell ⟨B, 2, none⟩ (.int .u16 0)).setCell ⟨B, 3, none⟩ (.slice none 0 0)).setCell ⟨B, 4, none⟩ (.slice none 0 0)).setCell ⟨B + 1, 0, none⟩ (.int .i64 off)).setCell ⟨B + 2, 0, none⟩ (.int .i64 e)).drew
set_option maxRecDepth 20000 in
theorem catch_wrong (B : Nat) (c0 c1 c2 c3 c4 c5 c6 : Value) (off e : Int) (older : List PanicEntry) (w : World)
    (h0 : w.cell? ⟨B, 0, none⟩ = some c0) (h1 : w.cell? ⟨B, 1, none⟩ = some c1) (h2 : w.cell? ⟨B, 2, none⟩ = some c2) (h3 : w.cell? ⟨B, 3, none⟩ = some c3) (h4 : w.cell? ⟨B, 4, none⟩ = some c4)
    (h5 : w.cell? ⟨B + 1, 0, none⟩ = some c5) (h6 : w.cell? ⟨B + 2, 0, none⟩ = some c6) (hB : B + 2 < w.heap.size)
    (f0 : w.frozen? ⟨B, 0, none⟩ = false) (f1 : w.frozen? ⟨B, 1, none⟩ = false) (f2 : w.frozen? ⟨B, 2, none⟩ = false) (f3 : w.frozen? ⟨B, 3, none⟩ = false) (f4 : w.frozen? ⟨B, 4, none⟩ = false)
    (f5 : w.frozen? ⟨B + 1, 0, none⟩ = false) (f6 : w.frozen? ⟨B + 2, 0, none⟩ = false) :
    CallsD Try.prog 59 #[.pointer (some ⟨B, 0, none⟩), .pointer (some ⟨B + 1, 0, none⟩), .pointer (some ⟨B + 2, 0, none⟩)] (.panicking ({ v := .iface 98 (.agg #[.int .i64 off, .int .i64 e]), recovered := false } :: older)) w fun x u' w' =>
      x = .returned (.tuple #[]) ∧ u' = .panicking ({ v := .iface 98 (.agg #[.int .i64 off, .int .i64 e]), recovered := true } :: older) ∧ w' = caughtW w B off e := by
  have HCW : Hid (caughtW w B off e = ((((((((w.alloc (Obj.cells #[Value.int IntKind.i64 off, Value.int IntKind.i64 e] 98)).setCell ⟨B, 0, none⟩ (.slice none 0 0)).setCell ⟨B, 1, none⟩ (.int .u16 0)).setCell ⟨B, 2, none⟩ (.int .u16 0)).setCell ⟨B, 3, none⟩ (.slice none 0 0)).setCell ⟨B, 4, none⟩ (.slice none 0 0)).setCell ⟨B + 1, 0, none⟩ (.int .i64 off)).setCell ⟨B + 2, 0, none⟩ (.int .i64 e)).drew) := rfl
  have hta : ∀ w : World, (Instr.typeAssert (Value.iface 98 (Value.agg #[Value.int IntKind.i64 off, Value.int IntKind.i64 e])) 20 98 true).run Try.prog w = .ok (.tuple #[Value.agg #[Value.int IntKind.i64 off, Value.int IntKind.i64 e], .bool true]) w := fun _ => by kernel_rfl
  refine callsD_of_wpS Try.func59 rfl fun c₀ cs hu => ?_
  simp only [Try.ntmps59, List.size_toArray, List.length_cons, List.length_nil, Nat.reduceAdd, Nat.reduceSub, Array.replicate_succ, Array.replicate_zero, List.push_toArray, List.append_toArray, List.nil_append, List.cons_append]
  apply wpS_seq
  apply wpS_region
  simp [wpOpsS, go_sem, recoverD, hu, Exit.thenS]
  refine wpS_hide fun R HR => ?_
  have hb0 : B < w.heap.size := by omega
  have hb1 : B + 1 < w.heap.size := by omega
  have hb2 : B + 2 < w.heap.size := by omega
  have hBel := below1 w (Obj.cells #[Value.int IntKind.i64 off, Value.int IntKind.i64 e] 98)
  have y0 : (w.alloc (Obj.cells #[Value.int IntKind.i64 off, Value.int IntKind.i64 e] 98)).cell? ⟨B, 0, none⟩ = some c0 := (hBel.cell (p := ⟨B, 0, none⟩) hb0).trans h0
  have z0 : (w.alloc (Obj.cells #[Value.int IntKind.i64 off, Value.int IntKind.i64 e] 98)).frozen? ⟨B, 0, none⟩ = false := (hBel.frozen (p := ⟨B, 0, none⟩) hb0).trans f0
  have y1 : (w.alloc (Obj.cells #[Value.int IntKind.i64 off, Value.int IntKind.i64 e] 98)).cell? ⟨B, 1, none⟩ = some c1 := (hBel.cell (p := ⟨B, 1, none⟩) hb0).trans h1
  have z1 : (w.alloc (Obj.cells #[Value.int IntKind.i64 off, Value.int IntKind.i64 e] 98)).frozen? ⟨B, 1, none⟩ = false := (hBel.frozen (p := ⟨B, 1, none⟩) hb0).trans f1
  have y2 : (w.alloc (Obj.cells #[Value.int IntKind.i64 off, Value.int IntKind.i64 e] 98)).cell? ⟨B, 2, none⟩ = some c2 := (hBel.cell (p := ⟨B, 2, none⟩) hb0).trans h2
  have z2 : (w.alloc (Obj.cells #[Value.int IntKind.i64 off, Value.int IntKind.i64 e] 98)).frozen? ⟨B, 2, none⟩ = false := (hBel.frozen (p := ⟨B, 2, none⟩) hb0).trans f2
  have y3 : (w.alloc (Obj.cells #[Value.int IntKind.i64 off, Value.int IntKind.i64 e] 98)).cell? ⟨B, 3, none⟩ = some c3 := (hBel.cell (p := ⟨B, 3, none⟩) hb0).trans h3
  have z3 : (w.alloc (Obj.cells #[Value.int IntKind.i64 off, Value.int IntKind.i64 e] 98)).frozen? ⟨B, 3, none⟩ = false := (hBel.frozen (p := ⟨B, 3, none⟩) hb0).trans f3
  have y4 : (w.alloc (Obj.cells #[Value.int IntKind.i64 off, Value.int IntKind.i64 e] 98)).cell? ⟨B, 4, none⟩ = some c4 := (hBel.cell (p := ⟨B, 4, none⟩) hb0).trans h4
  have z4 : (w.alloc (Obj.cells #[Value.int IntKind.i64 off, Value.int IntKind.i64 e] 98)).frozen? ⟨B, 4, none⟩ = false := (hBel.frozen (p := ⟨B, 4, none⟩) hb0).trans f4
  have y5 : (w.alloc (Obj.cells #[Value.int IntKind.i64 off, Value.int IntKind.i64 e] 98)).cell? ⟨B + 1, 0, none⟩ = some c5 := (hBel.cell (p := ⟨B + 1, 0, none⟩) hb1).trans h5
  have z5 : (w.alloc (Obj.cells #[Value.int IntKind.i64 off, Value.int IntKind.i64 e] 98)).frozen? ⟨B + 1, 0, none⟩ = false := (hBel.frozen (p := ⟨B + 1, 0, none⟩) hb1).trans f5
  have y6 : (w.alloc (Obj.cells #[Value.int IntKind.i64 off, Value.int IntKind.i64 e] 98)).cell? ⟨B + 2, 0, none⟩ = some c6 := (hBel.cell (p := ⟨B + 2, 0, none⟩) hb2).trans h6
  have z6 : (w.alloc (Obj.cells #[Value.int IntKind.i64 off, Value.int IntKind.i64 e] 98)).frozen? ⟨B + 2, 0, none⟩ = false := (hBel.frozen (p := ⟨B + 2, 0, none⟩) hb2).trans f6
  have y7 : (w.alloc (Obj.cells #[Value.int IntKind.i64 off, Value.int IntKind.i64 e] 98)).cell? ⟨w.heap.size, 0, none⟩ = some (.int .i64 off) := by simp
  have y8 : (w.alloc (Obj.cells #[Value.int IntKind.i64 off, Value.int IntKind.i64 e] 98)).cell? ⟨w.heap.size, 1, none⟩ = some (.int .i64 e) := by simp
  go_wp2
  have hS : B + 2 < w.heap.size := hB
  clear hBel hb0 hb1 hb2 h0 h1 h2 h3 h4 h5 h6 f0 f1 f2 f3 f4 f5 f6
  generalize w.alloc (Obj.cells #[Value.int IntKind.i64 off, Value.int IntKind.i64 e] 98) = W1 at *
  generalize w.heap.size = N at *
  go_region
  simp only [Exit.inBlock]
  refine HR.out _ _ _ ?_
  cases c₀
  simp [bodyPostS, results, Try.results59]
  exact HCW.out.symm
def wrongV (off e : Int) : Value := .iface 98 (.agg #[.int .i64 off, .int .i64 e])
theorem need_yes (b : Bool) (off e : Int) (w : World) (hb : b = true) :
    Calls Try.prog 61 #[.bool b, .int .i64 off, .int .i64 e] w fun x w' => x = .returned (.tuple #[]) ∧ w = w' := by
  subst hb
  go_enter Try.func61, Try.ntmps61
  go_wp2
  go_end0
  exact ⟨rfl, rfl⟩
theorem need_no (b : Bool) (off e : Int) (w : World) (hb : b = false) :
    Calls Try.prog 61 #[.bool b, .int .i64 off, .int .i64 e] w fun x w' => x = .panicked [{ v := .iface 98 (.agg #[.int .i64 off, .int .i64 e]), recovered := false }] ∧ w = w' := by
  subst hb
  go_enter Try.func61, Try.ntmps61
  go_wp2
  exact ⟨rfl, rfl, rfl⟩
end Go.Proofs.Ytgdiaaoekkdibaa
namespace Go.Proofs.Ytgdiaaoekkdibaa
set_option linter.unusedVariables false
set_option linter.unusedSimpArgs false
open Go.RowKit
theorem velm_any (s : ByteArray) (w : World) (hs : s.size ≤ maxLen) (h4 : 4 ≤ s.size) :
    Calls Try.prog 79 #[.string s, .string ⟨#[86, 69, 76, 77]⟩] w fun e w' => e = .returned (.bool (isVelm s)) ∧ w = w' := by
  unfold maxLen at hs
  go_enter Try.func79, Try.ntmps79
  go_wp2
  go_ret
  exact ⟨rfl, rfl⟩
theorem field_any (s : ByteArray) (m : Int) (n : Nat) (B : Nat) (w : World) (hm : m = n) (hs : s.size ≤ maxLen) (h14 : 14 ≤ s.size) (hn : n ≤ 4) (hc : w.cell? ⟨B, 0, none⟩ = some (.string s)) :
    Calls Try.prog 80 #[.int .i64 m, .pointer (some ⟨B, 0, none⟩)] w fun e w' => e = .returned (.int .i64 (wordAt s (4 + 2 * n))) ∧ Below w.heap.size w w' := by
  subst hm
  have hb := wordAt_bd s (4 + 2 * n)
  have hs0 := hs
  unfold maxLen at hs
  have w1 : IntKind.i64.wrap (2 * (n : Int)) = 2 * (n : Int) := IntWalk.i64_in _ (by omega)
  have w2 : IntKind.i64.wrap (4 + 2 * (n : Int)) = 4 + 2 * (n : Int) := IntWalk.i64_in _ (by omega)
  have HG := fun w : World => get_any (s.extract (4 + 2 * n) s.size) w (by unfold maxLen; rw [ByteArray.size_extract]; omega)
  have HH := Lib.hid HG
  clear HG
  have ht : (4 + 2 * (n : Int)).toNat = 4 + 2 * n := by omega
  have hle : 4 + 2 * (n : Int) ≤ s.size := by omega
  have hw : IntKind.i64.wrap (wordAt s (4 + 2 * n)) = wordAt s (4 + 2 * n) := IntWalk.i64_in _ (by omega)
  unfold wordAt at *
  go_enter Try.func80, Try.ntmps80
  go_wp2_with (go_at_call 62; refine (HH.out _).mono ?_; rintro e w' ⟨rfl, h1⟩)
  go_ret
  exact ⟨rfl, h1⟩
theorem headA_bad (s : ByteArray) (w : World) (hs : s.size ≤ maxLen) (hb : s.size < 4 ∨ isVelm s = false ∨ s.size < 14) :
    Calls Try.prog 60 #[.string s] w fun e w' => e = .panicked [{ v := .iface 98 (.agg #[.int .i64 (headE s).1, .int .i64 (headE s).2]), recovered := false }] ∧ Below w.heap.size w w' := by
  have hs0 := Lib.hid hs
  unfold maxLen at hs
  have HB := Lib.hid (below_alloc (below1 w (Obj.cells #[Value.string s] 9)) (Obj.cells #[Value.slice none 0 0, Value.int IntKind.u16 0, Value.int IntKind.u16 0, Value.slice none 0 0, Value.slice none 0 0] 30))
  by_cases h1 : s.size < 4
  · have HE := Lib.hid (headE_0 s h1)
    clear hb
    go_enter Try.func60, Try.ntmps60
    go_wp2_with fail
    refine (need_no _ _ _ _ (decide_eq_false (by omega))).mono ?_; rintro e w' ⟨rfl, rfl⟩
    go_wp2_with fail
    exact ⟨rfl, by rw [HE.out], HB.out⟩
  by_cases h2 : isVelm s = false
  · have HE := Lib.hid (headE_1 s h1 h2)
    have h4 : 4 ≤ s.size := by omega
    have H2 := Lib.hid h2
    clear hb h2
    go_enter Try.func60, Try.ntmps60
    go_wp2_with fail
    refine (need_yes _ _ _ _ (decide_eq_true (by omega))).mono ?_; rintro e w' ⟨rfl, rfl⟩
    go_wp2_with fail
    refine (velm_any _ _ hs0.out h4).mono ?_; rintro e w' ⟨rfl, rfl⟩
    go_wp2_with fail
    refine (need_no _ _ _ _ H2.out).mono ?_; rintro e w' ⟨rfl, rfl⟩
    go_wp2_with fail
    exact ⟨rfl, by rw [HE.out], HB.out⟩
  have h3 : s.size < 14 := by rcases hb with h | h | h; exact absurd h h1; exact absurd h h2; exact h
  · have HE := Lib.hid (headE_2 s h1 h2 h3)
    have h4 : 4 ≤ s.size := by omega
    have H2 : Hid (isVelm s = true) := by show _ = _; simpa using h2
    clear hb h2
    go_enter Try.func60, Try.ntmps60
    go_wp2_with fail
    refine (need_yes _ _ _ _ (decide_eq_true (by omega))).mono ?_; rintro e w' ⟨rfl, rfl⟩
    go_wp2_with fail
    refine (velm_any _ _ hs0.out h4).mono ?_; rintro e w' ⟨rfl, rfl⟩
    go_wp2_with fail
    refine (need_yes _ _ _ _ H2.out).mono ?_; rintro e w' ⟨rfl, rfl⟩
    go_wp2_with fail
    refine (need_no _ _ _ _ (decide_eq_false (by omega))).mono ?_; rintro e w' ⟨rfl, rfl⟩
    go_wp2_with fail
    exact ⟨rfl, by rw [HE.out], HB.out⟩
end Go.Proofs.Ytgdiaaoekkdibaa
namespace Go.Proofs.Ytgdiaaoekkdibaa
set_option linter.unusedVariables false
set_option linter.unusedSimpArgs false
open Go.RowKit
/-- What head keeps in memory while it reads. -/
structure HeadAt (w w' : World) (s : ByteArray) : Prop where
  c0 : w'.cell? ⟨w.heap.size, 0, none⟩ = some (.string s)
  i0 : w'.cell? ⟨w.heap.size + 1, 0, none⟩ = some (.slice none 0 0)
  i1 : w'.cell? ⟨w.heap.size + 1, 1, none⟩ = some (.int .u16 0)
  i2 : w'.cell? ⟨w.heap.size + 1, 2, none⟩ = some (.int .u16 0)
  i3 : w'.cell? ⟨w.heap.size + 1, 3, none⟩ = some (.slice none 0 0)
  i4 : w'.cell? ⟨w.heap.size + 1, 4, none⟩ = some (.slice none 0 0)
  f0 : w'.frozen? ⟨w.heap.size + 1, 0, none⟩ = false
  f1 : w'.frozen? ⟨w.heap.size + 1, 1, none⟩ = false
  f2 : w'.frozen? ⟨w.heap.size + 1, 2, none⟩ = false
  f3 : w'.frozen? ⟨w.heap.size + 1, 3, none⟩ = false
  f4 : w'.frozen? ⟨w.heap.size + 1, 4, none⟩ = false
  size : w.heap.size + 2 ≤ w'.heap.size
  below : Below w.heap.size w w'
theorem headAt_of (w w' : World) (s : ByteArray)
    (h : Below ((w.alloc (Obj.cells #[Value.string s] 9)).alloc (Obj.cells #[Value.slice none 0 0, Value.int IntKind.u16 0, Value.int IntKind.u16 0, Value.slice none 0 0, Value.slice none 0 0] 30)).heap.size ((w.alloc (Obj.cells #[Value.string s] 9)).alloc (Obj.cells #[Value.slice none 0 0, Value.int IntKind.u16 0, Value.int IntKind.u16 0, Value.slice none 0 0, Value.slice none 0 0] 30)) w') : HeadAt w w' s := by
  have hz : ((w.alloc (Obj.cells #[Value.string s] 9)).alloc (Obj.cells #[Value.slice none 0 0, Value.int IntKind.u16 0, Value.int IntKind.u16 0, Value.slice none 0 0, Value.slice none 0 0] 30)).heap.size = w.heap.size + 2 := by simp
  have hb := below_next (below_alloc (below1 w (Obj.cells #[Value.string s] 9)) (Obj.cells #[Value.slice none 0 0, Value.int IntKind.u16 0, Value.int IntKind.u16 0, Value.slice none 0 0, Value.slice none 0 0] 30)) h
  have hs := h.size
  refine ⟨(h.cell (by rw [hz]; simp)).trans (by simp), (h.cell (by rw [hz]; simp)).trans (by simp), (h.cell (by rw [hz]; simp)).trans (by simp), (h.cell (by rw [hz]; simp)).trans (by simp), (h.cell (by rw [hz]; simp)).trans (by simp), (h.cell (by rw [hz]; simp)).trans (by simp), (h.frozen (by rw [hz]; simp)).trans (by simp), (h.frozen (by rw [hz]; simp)).trans (by simp), (h.frozen (by rw [hz]; simp)).trans (by simp), (h.frozen (by rw [hz]; simp)).trans (by simp), (h.frozen (by rw [hz]; simp)).trans (by simp), by omega, hb⟩
/-- Five stores into one block, as they read afterwards. -/
theorem addr_ne (B i j : Nat) (h : i ≠ j) : (⟨B, i, none⟩ : Addr) ≠ ⟨B, j, none⟩ := fun e => h (by injection e)
theorem set5 (W : World) (B : Nat) (v0 v1 v2 v3 v4 u0 u1 u2 u3 u4 : Value) (i0 : W.cell? ⟨B, 0, none⟩ = some u0) (i1 : W.cell? ⟨B, 1, none⟩ = some u1) (i2 : W.cell? ⟨B, 2, none⟩ = some u2) (i3 : W.cell? ⟨B, 3, none⟩ = some u3) (i4 : W.cell? ⟨B, 4, none⟩ = some u4) :
    (((((W.setCell ⟨B, 0, none⟩ v0).setCell ⟨B, 1, none⟩ v1).setCell ⟨B, 2, none⟩ v2).setCell ⟨B, 3, none⟩ v3).setCell ⟨B, 4, none⟩ v4).cell? ⟨B, 0, none⟩ = some v0 ∧
    (((((W.setCell ⟨B, 0, none⟩ v0).setCell ⟨B, 1, none⟩ v1).setCell ⟨B, 2, none⟩ v2).setCell ⟨B, 3, none⟩ v3).setCell ⟨B, 4, none⟩ v4).cell? ⟨B, 1, none⟩ = some v1 ∧
    (((((W.setCell ⟨B, 0, none⟩ v0).setCell ⟨B, 1, none⟩ v1).setCell ⟨B, 2, none⟩ v2).setCell ⟨B, 3, none⟩ v3).setCell ⟨B, 4, none⟩ v4).cell? ⟨B, 2, none⟩ = some v2 ∧
    (((((W.setCell ⟨B, 0, none⟩ v0).setCell ⟨B, 1, none⟩ v1).setCell ⟨B, 2, none⟩ v2).setCell ⟨B, 3, none⟩ v3).setCell ⟨B, 4, none⟩ v4).cell? ⟨B, 3, none⟩ = some v3 ∧
    (((((W.setCell ⟨B, 0, none⟩ v0).setCell ⟨B, 1, none⟩ v1).setCell ⟨B, 2, none⟩ v2).setCell ⟨B, 3, none⟩ v3).setCell ⟨B, 4, none⟩ v4).cell? ⟨B, 4, none⟩ = some v4 := by
  refine ⟨?_, ?_, ?_, ?_, ?_⟩
  · rw [World.cell?_setCell_other _ _ _ _ (addr_ne B 4 0 (by decide)), World.cell?_setCell_other _ _ _ _ (addr_ne B 3 0 (by decide)), World.cell?_setCell_other _ _ _ _ (addr_ne B 2 0 (by decide)), World.cell?_setCell_other _ _ _ _ (addr_ne B 1 0 (by decide))]
    exact World.cell?_setCell_same _ _ _ i0
  · rw [World.cell?_setCell_other _ _ _ _ (addr_ne B 4 1 (by decide)), World.cell?_setCell_other _ _ _ _ (addr_ne B 3 1 (by decide)), World.cell?_setCell_other _ _ _ _ (addr_ne B 2 1 (by decide))]
    exact World.cell?_setCell_same _ _ _ ((World.cell?_setCell_other _ _ _ _ (addr_ne B 0 1 (by decide))).trans i1)
  · rw [World.cell?_setCell_other _ _ _ _ (addr_ne B 4 2 (by decide)), World.cell?_setCell_other _ _ _ _ (addr_ne B 3 2 (by decide))]
    exact World.cell?_setCell_same _ _ _ ((World.cell?_setCell_other _ _ _ _ (addr_ne B 1 2 (by decide))).trans ((World.cell?_setCell_other _ _ _ _ (addr_ne B 0 2 (by decide))).trans i2))
  · rw [World.cell?_setCell_other _ _ _ _ (addr_ne B 4 3 (by decide))]
    exact World.cell?_setCell_same _ _ _ ((World.cell?_setCell_other _ _ _ _ (addr_ne B 2 3 (by decide))).trans ((World.cell?_setCell_other _ _ _ _ (addr_ne B 1 3 (by decide))).trans ((World.cell?_setCell_other _ _ _ _ (addr_ne B 0 3 (by decide))).trans i3)))
  · exact World.cell?_setCell_same _ _ _ ((World.cell?_setCell_other _ _ _ _ (addr_ne B 3 4 (by decide))).trans ((World.cell?_setCell_other _ _ _ _ (addr_ne B 2 4 (by decide))).trans ((World.cell?_setCell_other _ _ _ _ (addr_ne B 1 4 (by decide))).trans ((World.cell?_setCell_other _ _ _ _ (addr_ne B 0 4 (by decide))).trans i4))))
theorem set2 (W : World) (B : Nat) (v1 v2 u0 u1 u2 u3 u4 : Value) (i0 : W.cell? ⟨B, 0, none⟩ = some u0) (i1 : W.cell? ⟨B, 1, none⟩ = some u1) (i2 : W.cell? ⟨B, 2, none⟩ = some u2) (i3 : W.cell? ⟨B, 3, none⟩ = some u3) (i4 : W.cell? ⟨B, 4, none⟩ = some u4) :
    ((W.setCell ⟨B, 1, none⟩ v1).setCell ⟨B, 2, none⟩ v2).cell? ⟨B, 0, none⟩ = some u0 ∧ ((W.setCell ⟨B, 1, none⟩ v1).setCell ⟨B, 2, none⟩ v2).cell? ⟨B, 1, none⟩ = some v1 ∧ ((W.setCell ⟨B, 1, none⟩ v1).setCell ⟨B, 2, none⟩ v2).cell? ⟨B, 2, none⟩ = some v2 ∧
    ((W.setCell ⟨B, 1, none⟩ v1).setCell ⟨B, 2, none⟩ v2).cell? ⟨B, 3, none⟩ = some u3 ∧ ((W.setCell ⟨B, 1, none⟩ v1).setCell ⟨B, 2, none⟩ v2).cell? ⟨B, 4, none⟩ = some u4 :=
  ⟨(World.cell?_setCell_other _ _ _ _ (addr_ne B 2 0 (by decide))).trans ((World.cell?_setCell_other _ _ _ _ (addr_ne B 1 0 (by decide))).trans i0),
   (World.cell?_setCell_other _ _ _ _ (addr_ne B 2 1 (by decide))).trans (World.cell?_setCell_same _ _ _ i1),
   World.cell?_setCell_same _ _ _ ((World.cell?_setCell_other _ _ _ _ (addr_ne B 1 2 (by decide))).trans i2),
   (World.cell?_setCell_other _ _ _ _ (addr_ne B 2 3 (by decide))).trans ((World.cell?_setCell_other _ _ _ _ (addr_ne B 1 3 (by decide))).trans i3),
   (World.cell?_setCell_other _ _ _ _ (addr_ne B 2 4 (by decide))).trans ((World.cell?_setCell_other _ _ _ _ (addr_ne B 1 4 (by decide))).trans i4)⟩
def HeadPost (s : ByteArray) (w : World) (e : Ending) (w' : World) : Prop :=
  Below w.heap.size w w' ∧ (((headE s).2 ≠ 0 ∧ e = .panicked [{ v := .iface 98 (.agg #[.int .i64 (headE s).1, .int .i64 (headE s).2]), recovered := false }]) ∨
    ((headE s).2 = 0 ∧ e = .returned (.tuple #[.agg #[.slice none 0 0, .int .u16 (wordAt s 6), .int .u16 (wordAt s 8), .slice none 0 0, .slice none 0 0], .int .i64 (wordAt s 4), .int .i64 (wordAt s 10), .int .i64 (wordAt s 12)])))
theorem headPost_bad {s : ByteArray} {w w' : World} {e : Ending} {a b : Int} (h : headE s = (a, b)) (hb : b ≠ 0) (hB : Below w.heap.size w w') (he : e = .panicked [{ v := .iface 98 (.agg #[.int .i64 a, .int .i64 b]), recovered := false }]) : HeadPost s w e w' :=
  ⟨hB, .inl ⟨by rw [h]; exact hb, by rw [h]; exact he⟩⟩
theorem headPost_ok {s : ByteArray} {w w' : World} {e : Ending} (h : headE s = (0, 0)) (hB : Below w.heap.size w w') (he : e = .returned (.tuple #[.agg #[.slice none 0 0, .int .u16 (wordAt s 6), .int .u16 (wordAt s 8), .slice none 0 0, .slice none 0 0], .int .i64 (wordAt s 4), .int .i64 (wordAt s 10), .int .i64 (wordAt s 12)])) : HeadPost s w e w' :=
  ⟨hB, .inr ⟨by rw [h], he⟩⟩
set_option maxRecDepth 8000 in
set_option maxHeartbeats 1600000 in
theorem headB_any (s : ByteArray) (w : World) (hs : s.size ≤ maxLen) (h14 : 14 ≤ s.size) (h2 : isVelm s = true) (R : Ending → World → Prop) (HR : Hid (∀ e w', HeadPost s w e w' → R e w')) :
    Calls Try.prog 60 #[.string s] w R := by
  have hs0 := Lib.hid hs
  have H2 := Lib.hid h2
  have h4 : 4 ≤ s.size := by omega
  have k0 : Hid (¬ s.size < 4) := by show ¬ _; omega
  have k2 : Hid (¬ s.size < 14) := by show ¬ _; omega
  have k1 : Hid (¬ isVelm s = false) := by show ¬ _; rw [h2]; decide
  clear h2
  unfold maxLen at hs
  have b6 := wordAt_bd s 6
  have b8 := wordAt_bd s 8
  have r6 : IntKind.u16.wrap (wordAt s 6) = wordAt s 6 := wrap_in _ (by omega) (by omega)
  have r8 : IntKind.u16.wrap (wordAt s 8) = wordAt s 8 := wrap_in _ (by omega) (by omega)
  have W1x : w.heap.size ≤ ((w.alloc (Obj.cells #[Value.string s] 9)).alloc (Obj.cells #[Value.slice none 0 0, Value.int IntKind.u16 0, Value.int IntKind.u16 0, Value.slice none 0 0, Value.slice none 0 0] 30)).heap.size := by simp; omega
  go_enter Try.func60, Try.ntmps60
  go_wp2_with fail
  refine (need_yes _ _ _ _ (decide_eq_true (by omega))).mono ?_; rintro e w' ⟨rfl, rfl⟩
  go_wp2_with fail
  refine (velm_any _ _ hs0.out h4).mono ?_; rintro e w' ⟨rfl, rfl⟩
  go_wp2_with fail
  refine (need_yes _ _ _ _ H2.out).mono ?_; rintro e w' ⟨rfl, rfl⟩
  go_wp2_with fail
  refine (need_yes _ _ _ _ (decide_eq_true (by omega))).mono ?_; rintro e w' ⟨rfl, rfl⟩
  have hmf : ∀ (fn : Fn) (first cap : Array Value) (w : World), (Instr.makeFunc fn first cap).run Try.prog w = .ok (.func fn first cap) w := fun _ _ _ _ => rfl
  have HX : Hid (∀ w' : World, Below ((w.alloc (Obj.cells #[Value.string s] 9)).alloc (Obj.cells #[Value.slice none 0 0, Value.int IntKind.u16 0, Value.int IntKind.u16 0, Value.slice none 0 0, Value.slice none 0 0] 30)).heap.size ((w.alloc (Obj.cells #[Value.string s] 9)).alloc (Obj.cells #[Value.slice none 0 0, Value.int IntKind.u16 0, Value.int IntKind.u16 0, Value.slice none 0 0, Value.slice none 0 0] 30)) w' → HeadAt w w' s) := fun w' h => headAt_of w w' s h
  clear H2
  generalize (w.alloc (Obj.cells #[Value.string s] 9)).alloc (Obj.cells #[Value.slice none 0 0, Value.int IntKind.u16 0, Value.int IntKind.u16 0, Value.slice none 0 0, Value.slice none 0 0] 30) = W1 at *
  have A0 := HX.out W1 (Below.refl _ _)
  have B0 := Lib.hid (Below.refl W1.heap.size W1)
  go_wp2_with fail
  refine (field_any s 0 0 w.heap.size _ rfl hs0.out h14 (by omega) A0.c0).mono ?_; rintro e w1 ⟨rfl, g1⟩
  have B1 := Lib.hid (below_next B0.out g1)
  have A1 := HX.out w1 B1.out
  clear A0 B0 g1
  go_wp2_with fail
  refine (field_any s 3 3 w.heap.size _ rfl hs0.out h14 (by omega) A1.c0).mono ?_; rintro e w2 ⟨rfl, g2⟩
  have B2 := Lib.hid (below_next B1.out g2)
  have A2 := HX.out w2 B2.out
  clear A1 B1 g2
  go_wp2_with fail
  refine (field_any s 4 4 w.heap.size _ rfl hs0.out h14 (by omega) A2.c0).mono ?_; rintro e w3 ⟨rfl, g3⟩
  have B3 := Lib.hid (below_next B2.out g3)
  have A3 := HX.out w3 B3.out
  clear A2 B2 g3
  go_wp2_with fail
  refine (field_any s 1 1 w.heap.size _ rfl hs0.out h14 (by omega) A3.c0).mono ?_; rintro e w4 ⟨rfl, g4⟩
  have B4 := Lib.hid (below_next B3.out g4)
  have A4 := HX.out w4 B4.out
  clear A3 B3 g4
  go_wp2_with fail
  refine (field_any s 2 2 w.heap.size _ rfl hs0.out h14 (by omega) A4.c0).mono ?_; rintro e w5 ⟨rfl, g5⟩
  have B5 := Lib.hid (below_next B4.out g5)
  have A5 := HX.out w5 B5.out
  clear A4 B4 g5
  obtain ⟨c0, i0, i1, i2, i3, i4, f0, f1, f2, f3, f4, hsz, hbl⟩ := A5
  have HBL := Lib.hid hbl
  clear hbl HX B5 c0 h4 hs
  have HB6 : Hid (Below w.heap.size w ((w5.setCell ⟨w.heap.size + 1, 1, none⟩ (Value.int IntKind.u16 (wordAt s 6))).setCell ⟨w.heap.size + 1, 2, none⟩ (Value.int IntKind.u16 (wordAt s 8)))) := (HBL.out.setCell (by simp) _).setCell (by simp) _
  by_cases h3a : wordAt s 4 < 1
  · have hg : decide (1 ≤ wordAt s 4) = false := decide_eq_false (by omega)
    have H3 := Lib.hid h3a
    clear h3a
    go_wp2_with fail
    refine (need_no _ _ _ _ rfl).mono ?_; rintro e w' ⟨rfl, rfl⟩
    exact ⟨rfl, HR.out _ _ (headPost_bad (headE_3 s k0.out k1.out k2.out (.inl H3.out)) (by decide) HB6.out rfl)⟩
  by_cases h3 : 64 < wordAt s 4
  all_goals have h3b : 1 ≤ wordAt s 4 := by omega
  all_goals go_wp2_with fail
  · refine (need_no _ _ _ _ ?_).mono ?_
    · first | with_reducible rfl | exact decide_eq_false (by omega)
    rintro e w' ⟨rfl, rfl⟩
    exact ⟨rfl, HR.out _ _ (headPost_bad (headE_3 s k0.out k1.out k2.out (.inr h3)) (by decide) HB6.out rfl)⟩
  have k3 : Hid (¬ (wordAt s 4 < 1 ∨ 64 < wordAt s 4)) := by show ¬ _; omega
  refine (need_yes _ _ _ _ ?_).mono ?_
  · first | with_reducible rfl | exact decide_eq_true (by omega)
  rintro e w' ⟨rfl, rfl⟩
  go_wp2_with fail
  by_cases h4 : 512 < wordAt s 10
  · refine (need_no _ _ _ _ ?_).mono ?_
    · first | with_reducible rfl | exact decide_eq_false (by omega)
    rintro e w' ⟨rfl, rfl⟩
    exact ⟨rfl, HR.out _ _ (headPost_bad (headE_4 s k0.out k1.out k2.out k3.out h4) (by decide) HB6.out rfl)⟩
  have k4 : Hid (¬ 512 < wordAt s 10) := by show ¬ _; omega
  refine (need_yes _ _ _ _ ?_).mono ?_
  · first | with_reducible rfl | exact decide_eq_true (by omega)
  rintro e w' ⟨rfl, rfl⟩
  clear h4
  go_wp2_with fail
  by_cases h5 : 20000 < wordAt s 12
  · refine (need_no _ _ _ _ ?_).mono ?_
    · first | with_reducible rfl | exact decide_eq_false (by omega)
    rintro e w' ⟨rfl, rfl⟩
    exact ⟨rfl, HR.out _ _ (headPost_bad (headE_5 s k0.out k1.out k2.out k3.out (by have := k4.out; omega) h5) (by decide) HB6.out rfl)⟩
  have k5 : Hid (¬ 20000 < wordAt s 12) := by show ¬ _; omega
  refine (need_yes _ _ _ _ ?_).mono ?_
  · first | with_reducible rfl | exact decide_eq_true (by omega)
  rintro e w' ⟨rfl, rfl⟩
  clear h5
  go_wp2_with fail
  by_cases h6 : 4096 ≤ wordAt s 6
  · refine (need_no _ _ _ _ ?_).mono ?_
    · first | with_reducible rfl | exact decide_eq_false (by omega)
    rintro e w' ⟨rfl, rfl⟩
    exact ⟨rfl, HR.out _ _ (headPost_bad (headE_6 s k0.out k1.out k2.out k3.out (by have := k4.out; omega) (by have := k5.out; omega) h6) (by decide) HB6.out rfl)⟩
  have k6 : Hid (¬ 4096 ≤ wordAt s 6) := by show ¬ _; omega
  refine (need_yes _ _ _ _ ?_).mono ?_
  · first | with_reducible rfl | exact decide_eq_true (by omega)
  rintro e w' ⟨rfl, rfl⟩
  clear h6
  go_wp2_with fail
  by_cases h7 : 4096 ≤ wordAt s 8
  · refine (need_no _ _ _ _ ?_).mono ?_
    · first | with_reducible rfl | exact decide_eq_false (by omega)
    rintro e w' ⟨rfl, rfl⟩
    exact ⟨rfl, HR.out _ _ (headPost_bad (headE_7 s k0.out k1.out k2.out k3.out (by have := k4.out; omega) (by have := k5.out; omega) (by have := k6.out; omega) h7) (by decide) HB6.out rfl)⟩
  have k7 : Hid (¬ 4096 ≤ wordAt s 8) := by show ¬ _; omega
  refine (need_yes _ _ _ _ ?_).mono ?_
  · first | with_reducible rfl | exact decide_eq_true (by omega)
  rintro e w' ⟨rfl, rfl⟩
  clear h7
  go_wp2_with fail
  obtain ⟨p0, p1, p2, p3, p4⟩ := set2 w5 (w.heap.size + 1) (.int .u16 (wordAt s 6)) (.int .u16 (wordAt s 8)) _ _ _ _ _ i0 i1 i2 i3 i4
  obtain ⟨q0, q1, q2, q3, q4⟩ := set5 _ (w.heap.size + 1) (.slice none 0 0) (.int .u16 (wordAt s 6)) (.int .u16 (wordAt s 8)) (.slice none 0 0) (.slice none 0 0) _ _ _ _ _ p0 p1 p2 p3 p4
  have HB7 := Lib.hid (((((HB6.out.setCell (by simp) _).setCell (by simp) _).setCell (by simp) _).setCell (by simp) _).setCell (by simp) _ : Below w.heap.size w ((((((((w5.setCell ⟨w.heap.size + 1, 1, none⟩ (Value.int IntKind.u16 (wordAt s 6))).setCell ⟨w.heap.size + 1, 2, none⟩ (Value.int IntKind.u16 (wordAt s 8)))).setCell ⟨w.heap.size + 1, 0, none⟩ (.slice none 0 0)).setCell ⟨w.heap.size + 1, 1, none⟩ (.int .u16 (wordAt s 6))).setCell ⟨w.heap.size + 1, 2, none⟩ (.int .u16 (wordAt s 8))).setCell ⟨w.heap.size + 1, 3, none⟩ (.slice none 0 0)).setCell ⟨w.heap.size + 1, 4, none⟩ (.slice none 0 0)))
  clear i0 i1 i2 i3 i4 p0 p1 p2 p3 p4 HB6
  generalize (((((((w5.setCell ⟨w.heap.size + 1, 1, none⟩ (Value.int IntKind.u16 (wordAt s 6))).setCell ⟨w.heap.size + 1, 2, none⟩ (Value.int IntKind.u16 (wordAt s 8))).setCell ⟨w.heap.size + 1, 0, none⟩ (Value.slice none 0 0)).setCell ⟨w.heap.size + 1, 1, none⟩ (Value.int IntKind.u16 (wordAt s 6))).setCell ⟨w.heap.size + 1, 2, none⟩ (Value.int IntKind.u16 (wordAt s 8))).setCell ⟨w.heap.size + 1, 3, none⟩ (Value.slice none 0 0)).setCell ⟨w.heap.size + 1, 4, none⟩ (Value.slice none 0 0)) = WF at *
  refine bodyPost_ret (v := .tuple #[.agg #[.slice none 0 0, .int .u16 (wordAt s 6), .int .u16 (wordAt s 8), .slice none 0 0, .slice none 0 0], .int .i64 (wordAt s 4), .int .i64 (wordAt s 10), .int .i64 (wordAt s 12)]) (by simp [results, Try.results60, go_sem, q0, q1, q2, q3, q4]) rfl (HR.out _ _ (headPost_ok (headE_8 s k0.out k1.out k2.out k3.out (by have := k4.out; omega) (by have := k5.out; omega) (by have := k6.out; omega) (by have := k7.out; omega)) HB7.out rfl))
theorem head_any (s : ByteArray) (w : World) (hs : s.size ≤ maxLen) : Calls Try.prog 60 #[.string s] w (HeadPost s w) := by
  by_cases h : s.size < 4 ∨ isVelm s = false ∨ s.size < 14
  · refine (headA_bad s w hs h).mono fun e w' ⟨he, hb⟩ => ⟨hb, .inl ⟨?_, he⟩⟩
    by_cases h0 : s.size < 4
    · rw [headE_0 s h0]; exact (by decide : (10 : Int) ≠ 0)
    by_cases h1 : isVelm s = false
    · rw [headE_1 s h0 h1]; decide
    by_cases h2 : s.size < 14
    · rw [headE_2 s h0 h1 h2]; exact (by decide : (10 : Int) ≠ 0)
    · rcases h with h | h | h
      · exact absurd h h0
      · exact absurd h h1
      · exact absurd h h2
  · have hv : isVelm s = true := by
      cases hx : isVelm s with
      | true => rfl
      | false => exact absurd (.inr (.inl hx)) h
    exact headB_any s w hs (by omega) hv _ (fun _ _ h => h)
end Go.Proofs.Ytgdiaaoekkdibaa
namespace Go.Proofs.Ytgdiaaoekkdibaa
set_option linter.unusedVariables false
set_option linter.unusedSimpArgs false
open Go.RowKit
theorem readE_head (s : ByteArray) (h : (headE s).2 ≠ 0) : readE s = headE s := if_pos h
theorem readE_short (s : ByteArray) (h : (headE s).2 = 0) (h1 : s.size < stopA s + 2) : readE s = ((s.size : Int), 10) := by
  unfold readE; rw [if_neg (by simp [h]), if_pos h1]
theorem readE_long (s : ByteArray) (h : (headE s).2 = 0) (h1 : stopA s + 2 < s.size) : readE s = (((stopA s + 2 : Nat) : Int), 20) := by
  unfold readE; rw [if_neg (by simp [h]), if_neg (by omega), if_pos h1]; rfl
def ReadPost (s : ByteArray) (w : World) (e : Ending) (w' : World) : Prop :=
  ∃ (p1 : Option Addr) (c1 : Nat) (p2 : Option Addr) (c2 : Nat) (p3 : Option Addr) (c3 : Nat), e = .returned (.tuple #[imgV p1 c1 p2 c2 p3 c3 (readI s), .int .i64 (readE s).1, .int .i64 (readE s).2]) ∧ ImgAt w' p1 p2 p3 (readI s) ∧ Below w.heap.size w w'
theorem imgAt_empty (w : World) : ImgAt w none none none emptyI :=
  ⟨fun k o h => by simp [emptyI] at h, fun k o h => by simp [emptyI] at h, fun k o h => by simp [emptyI] at h, ⟨by decide, by decide⟩, ⟨by decide, by decide⟩, by decide, by decide, by decide⟩
theorem readPost_bad {s : ByteArray} {w w' : World} {a b : Int} (h : readE s = (a, b)) (hb : b ≠ 0) (hB : Below w.heap.size w w') : ReadPost s w (.returned (.tuple #[.agg #[.slice none 0 0, .int .u16 0, .int .u16 0, .slice none 0 0, .slice none 0 0], .int .i64 a, .int .i64 b])) w' := by
  have e : readI s = emptyI := by unfold readI; rw [h]; exact if_neg hb
  refine ⟨none, 0, none, 0, none, 0, ?_, ?_, hB⟩
  · rw [e, h]; rfl
  · rw [e]; exact imgAt_empty w'
/-- What Read keeps in memory: the image's five cells, the offset, the error. -/
structure ReadMem (w w' : World) (v0 v1 v2 v3 v4 : Value) : Prop where
  i0 : w'.cell? ⟨w.heap.size, 0, none⟩ = some v0
  i1 : w'.cell? ⟨w.heap.size, 1, none⟩ = some v1
  i2 : w'.cell? ⟨w.heap.size, 2, none⟩ = some v2
  i3 : w'.cell? ⟨w.heap.size, 3, none⟩ = some v3
  i4 : w'.cell? ⟨w.heap.size, 4, none⟩ = some v4
  q : w'.cell? ⟨w.heap.size + 1, 0, none⟩ = some (.int .i64 0)
  r : w'.cell? ⟨w.heap.size + 2, 0, none⟩ = some (.int .i64 0)
  f0 : w'.frozen? ⟨w.heap.size, 0, none⟩ = false
  f1 : w'.frozen? ⟨w.heap.size, 1, none⟩ = false
  f2 : w'.frozen? ⟨w.heap.size, 2, none⟩ = false
  f3 : w'.frozen? ⟨w.heap.size, 3, none⟩ = false
  f4 : w'.frozen? ⟨w.heap.size, 4, none⟩ = false
  fq : w'.frozen? ⟨w.heap.size + 1, 0, none⟩ = false
  fr : w'.frozen? ⟨w.heap.size + 2, 0, none⟩ = false
  size : w.heap.size + 3 ≤ w'.heap.size
  below : Below w.heap.size w w'
theorem ReadMem.next {w w' w2 : World} {v0 v1 v2 v3 v4 : Value} (h : ReadMem w w' v0 v1 v2 v3 v4) (hb : Below w'.heap.size w' w2) : ReadMem w w2 v0 v1 v2 v3 v4 := by
  have hz := h.size
  have hs := hb.size
  have g0 : w.heap.size < w'.heap.size := by omega
  have g1 : w.heap.size + 1 < w'.heap.size := by omega
  have g2 : w.heap.size + 2 < w'.heap.size := by omega
  exact ⟨(hb.cell g0).trans h.i0, (hb.cell g0).trans h.i1, (hb.cell g0).trans h.i2, (hb.cell g0).trans h.i3, (hb.cell g0).trans h.i4, (hb.cell g1).trans h.q, (hb.cell g2).trans h.r,
    (hb.frozen g0).trans h.f0, (hb.frozen g0).trans h.f1, (hb.frozen g0).trans h.f2, (hb.frozen g0).trans h.f3, (hb.frozen g0).trans h.f4, (hb.frozen g1).trans h.fq, (hb.frozen g2).trans h.fr, by omega, below_next h.below hb⟩
def readW (w : World) : World := ((w.alloc (Obj.cells #[Value.slice none 0 0, Value.int IntKind.u16 0, Value.int IntKind.u16 0, Value.slice none 0 0, Value.slice none 0 0] 30)).alloc (Obj.cells #[Value.int IntKind.i64 0] 3)).alloc (Obj.cells #[Value.int IntKind.i64 0] 33)
theorem readMem_start (w : World) : ReadMem w (readW w) (.slice none 0 0) (.int .u16 0) (.int .u16 0) (.slice none 0 0) (.slice none 0 0) := by
  refine ⟨?_, ?_, ?_, ?_, ?_, ?_, ?_, ?_, ?_, ?_, ?_, ?_, ?_, ?_, ?_, below_alloc (below_alloc (below1 _ _) _) _⟩ <;> (unfold readW; simp [go_sem])
/-- The cells behind the closure that caught an error. -/
theorem caught_cells {w w' : World} {v0 v1 v2 v3 v4 : Value} (a b : Int) (h : ReadMem w w' v0 v1 v2 v3 v4) :
    (caughtW w' w.heap.size a b).cell? ⟨w.heap.size, 0, none⟩ = some (.slice none 0 0) ∧ (caughtW w' w.heap.size a b).cell? ⟨w.heap.size, 1, none⟩ = some (.int .u16 0) ∧ (caughtW w' w.heap.size a b).cell? ⟨w.heap.size, 2, none⟩ = some (.int .u16 0) ∧
    (caughtW w' w.heap.size a b).cell? ⟨w.heap.size, 3, none⟩ = some (.slice none 0 0) ∧ (caughtW w' w.heap.size a b).cell? ⟨w.heap.size, 4, none⟩ = some (.slice none 0 0) ∧
    (caughtW w' w.heap.size a b).cell? ⟨w.heap.size + 1, 0, none⟩ = some (.int .i64 a) ∧ (caughtW w' w.heap.size a b).cell? ⟨w.heap.size + 2, 0, none⟩ = some (.int .i64 b) ∧ Below w.heap.size w (caughtW w' w.heap.size a b) := by
  have H := h.next (below1 w' (Obj.cells #[Value.int IntKind.i64 a, Value.int IntKind.i64 b] 98))
  have hb := H.below
  obtain ⟨q0, q1, q2, q3, q4⟩ := set5 _ w.heap.size (.slice none 0 0) (.int .u16 0) (.int .u16 0) (.slice none 0 0) (.slice none 0 0) _ _ _ _ _ H.i0 H.i1 H.i2 H.i3 H.i4
  have ne1 : ∀ i, (⟨w.heap.size + 1, 0, none⟩ : Addr) ≠ ⟨w.heap.size, i, none⟩ := fun i e => by injection e with e1; omega
  have ne2 : ∀ i, (⟨w.heap.size + 2, 0, none⟩ : Addr) ≠ ⟨w.heap.size, i, none⟩ := fun i e => by injection e with e1; omega
  have ne12 : (⟨w.heap.size + 2, 0, none⟩ : Addr) ≠ ⟨w.heap.size + 1, 0, none⟩ := fun e => by injection e with e1; omega
  have kq : ∀ (W : World) (i : Nat) (v : Value), (W.setCell ⟨w.heap.size, i, none⟩ v).cell? ⟨w.heap.size + 1, 0, none⟩ = W.cell? ⟨w.heap.size + 1, 0, none⟩ := fun W i v => World.cell?_setCell_other _ _ _ _ (Ne.symm (ne1 i))
  have kr : ∀ (W : World) (i : Nat) (v : Value), (W.setCell ⟨w.heap.size, i, none⟩ v).cell? ⟨w.heap.size + 2, 0, none⟩ = W.cell? ⟨w.heap.size + 2, 0, none⟩ := fun W i v => World.cell?_setCell_other _ _ _ _ (Ne.symm (ne2 i))
  unfold caughtW
  have Hq := H.q
  have Hr := H.r
  clear H h
  generalize w'.alloc (Obj.cells #[Value.int IntKind.i64 a, Value.int IntKind.i64 b] 98) = W0 at *
  have jq : (((((W0.setCell ⟨w.heap.size, 0, none⟩ (.slice none 0 0)).setCell ⟨w.heap.size, 1, none⟩ (.int .u16 0)).setCell ⟨w.heap.size, 2, none⟩ (.int .u16 0)).setCell ⟨w.heap.size, 3, none⟩ (.slice none 0 0)).setCell ⟨w.heap.size, 4, none⟩ (.slice none 0 0)).cell? ⟨w.heap.size + 1, 0, none⟩ = some (.int .i64 0) := by
    rw [kq, kq, kq, kq, kq]; exact Hq
  have jr : (((((W0.setCell ⟨w.heap.size, 0, none⟩ (.slice none 0 0)).setCell ⟨w.heap.size, 1, none⟩ (.int .u16 0)).setCell ⟨w.heap.size, 2, none⟩ (.int .u16 0)).setCell ⟨w.heap.size, 3, none⟩ (.slice none 0 0)).setCell ⟨w.heap.size, 4, none⟩ (.slice none 0 0)).cell? ⟨w.heap.size + 2, 0, none⟩ = some (.int .i64 0) := by
    rw [kr, kr, kr, kr, kr]; exact Hr
  have jb : Below w.heap.size w (((((W0.setCell ⟨w.heap.size, 0, none⟩ (.slice none 0 0)).setCell ⟨w.heap.size, 1, none⟩ (.int .u16 0)).setCell ⟨w.heap.size, 2, none⟩ (.int .u16 0)).setCell ⟨w.heap.size, 3, none⟩ (.slice none 0 0)).setCell ⟨w.heap.size, 4, none⟩ (.slice none 0 0)) :=
    ((((hb.setCell (by simp) _).setCell (by simp) _).setCell (by simp) _).setCell (by simp) _).setCell (by simp) _
  clear kq kr Hq Hr hb
  generalize ((((W0.setCell ⟨w.heap.size, 0, none⟩ (.slice none 0 0)).setCell ⟨w.heap.size, 1, none⟩ (.int .u16 0)).setCell ⟨w.heap.size, 2, none⟩ (.int .u16 0)).setCell ⟨w.heap.size, 3, none⟩ (.slice none 0 0)).setCell ⟨w.heap.size, 4, none⟩ (.slice none 0 0) = X at *
  have up : ∀ i : Nat, ((X.setCell ⟨w.heap.size + 1, 0, none⟩ (.int .i64 a)).setCell ⟨w.heap.size + 2, 0, none⟩ (.int .i64 b)).drew.cell? ⟨w.heap.size, i, none⟩ = X.cell? ⟨w.heap.size, i, none⟩ := fun i =>
    (World.cell?_setCell_other _ _ _ _ (ne2 i)).trans (World.cell?_setCell_other _ _ _ _ (ne1 i))
  refine ⟨(up 0).trans q0, (up 1).trans q1, (up 2).trans q2, (up 3).trans q3, (up 4).trans q4, ?_, ?_, ?_⟩
  · exact (World.cell?_setCell_other _ _ _ _ ne12).trans (World.cell?_setCell_same _ _ _ jq)
  · exact World.cell?_setCell_same _ _ _ ((World.cell?_setCell_other _ _ _ _ (Ne.symm ne12)).trans jr)
  · exact Below.drew ((jb.setCell (by simp) _).setCell (by simp) _)
theorem leaves_caught {w w' : World} {v0 v1 v2 v3 v4 : Value} {a b : Int} {tmps : Array Value} {R : Ending → World → Prop} (h : ReadMem w w' v0 v1 v2 v3 v4)
    (t2 : tmps[2]?.getD undef = .pointer (some ⟨w.heap.size, 0, none⟩)) (t3 : tmps[3]?.getD undef = .pointer (some ⟨w.heap.size + 1, 0, none⟩)) (t4 : tmps[4]?.getD undef = .pointer (some ⟨w.heap.size + 2, 0, none⟩))
    (hR : ∀ W, Below w.heap.size w W → R (.returned (.tuple #[.agg #[.slice none 0 0, .int .u16 0, .int .u16 0, .slice none 0 0, .slice none 0 0], .int .i64 a, .int .i64 b])) W) :
    Leaves Try.prog Try.f25 tmps R [{ target := Target.fn (Fn.func 59) #[Value.pointer (some ⟨w.heap.size, 0, none⟩), Value.pointer (some ⟨w.heap.size + 1, 0, none⟩), Value.pointer (some ⟨w.heap.size + 2, 0, none⟩)], args := #[] }]
      (.panicking [{ v := .iface 98 (.agg #[.int .i64 a, .int .i64 b]), recovered := false }]) w' := by
  obtain ⟨q0, q1, q2, q3, q4, qq, qr, hb⟩ := caught_cells a b h
  refine leaves_cons (f := 59) (args := #[.pointer (some ⟨w.heap.size, 0, none⟩), .pointer (some ⟨w.heap.size + 1, 0, none⟩), .pointer (some ⟨w.heap.size + 2, 0, none⟩)]) (by simp) (by simp [go_sem]) ?_
  refine (catch_wrong w.heap.size _ _ _ _ _ _ _ a b [] _ h.i0 h.i1 h.i2 h.i3 h.i4 h.q h.r (by have := h.size; omega) h.f0 h.f1 h.f2 h.f3 h.f4 h.fq h.fr).mono ?_
  rintro e u' w2 ⟨rfl, rfl, rfl⟩
  have HRR := hR _ hb
  generalize caughtW w' w.heap.size a b = WF at *
  simp [Leaves, settle, results, Try.results25, go_sem, t2, t3, t4, q0, q1, q2, q3, q4, qq, qr]
  exact HRR
set_option maxRecDepth 8000 in
set_option maxHeartbeats 800000 in
theorem readA_any (s : ByteArray) (w : World) (hs : s.size ≤ maxLen) (hbad : (headE s).2 ≠ 0) (R : Ending → World → Prop) (HR : Hid (∀ e w', ReadPost s w e w' → R e w')) :
    Calls Try.prog 25 #[.string s] w R := by
  have hmf : ∀ (fn : Fn) (first cap : Array Value) (w : World), (Instr.makeFunc fn first cap).run Try.prog w = .ok (.func fn first cap) w := fun _ _ _ _ => rfl
  have HS := Lib.hid hs
  go_enter_defers Try.func25, Try.ntmps25
  go_wp2_with fail
  refine (head_any s _ HS.out).mono ?_
  rintro e w1 ⟨hB, ⟨hne, rfl⟩ | ⟨h0, rfl⟩⟩
  · exact leaves_caught ((readMem_start w).next hB) rfl rfl rfl (fun W hW => HR.out _ _ (readPost_bad (readE_head s hbad) hbad hW))
  · exact absurd h0 hbad
theorem frozen_set (W : World) (p a : Addr) (v : Value) : (W.setCell p v).frozen? a = W.frozen? a := by simp
theorem ReadMem.set {w w' : World} {v0 v1 v2 v3 v4 : Value} (h : ReadMem w w' v0 v1 v2 v3 v4) (u0 u1 u2 u3 u4 : Value) :
    ReadMem w (((((w'.setCell ⟨w.heap.size, 0, none⟩ u0).setCell ⟨w.heap.size, 1, none⟩ u1).setCell ⟨w.heap.size, 2, none⟩ u2).setCell ⟨w.heap.size, 3, none⟩ u3).setCell ⟨w.heap.size, 4, none⟩ u4) u0 u1 u2 u3 u4 := by
  obtain ⟨q0, q1, q2, q3, q4⟩ := set5 w' w.heap.size u0 u1 u2 u3 u4 _ _ _ _ _ h.i0 h.i1 h.i2 h.i3 h.i4
  have ne1 : ∀ i, (⟨w.heap.size + 1, 0, none⟩ : Addr) ≠ ⟨w.heap.size, i, none⟩ := fun i e => by injection e with e1; omega
  have ne2 : ∀ i, (⟨w.heap.size + 2, 0, none⟩ : Addr) ≠ ⟨w.heap.size, i, none⟩ := fun i e => by injection e with e1; omega
  have kq : ∀ (W : World) (i : Nat) (v : Value), (W.setCell ⟨w.heap.size, i, none⟩ v).cell? ⟨w.heap.size + 1, 0, none⟩ = W.cell? ⟨w.heap.size + 1, 0, none⟩ := fun W i v => World.cell?_setCell_other _ _ _ _ (Ne.symm (ne1 i))
  have kr : ∀ (W : World) (i : Nat) (v : Value), (W.setCell ⟨w.heap.size, i, none⟩ v).cell? ⟨w.heap.size + 2, 0, none⟩ = W.cell? ⟨w.heap.size + 2, 0, none⟩ := fun W i v => World.cell?_setCell_other _ _ _ _ (Ne.symm (ne2 i))
  refine ⟨q0, q1, q2, q3, q4, ?_, ?_, ?_, ?_, ?_, ?_, ?_, ?_, ?_, ?_, ?_⟩
  · rw [kq, kq, kq, kq, kq]; exact h.q
  · rw [kr, kr, kr, kr, kr]; exact h.r
  · simp only [frozen_set]; exact h.f0
  · simp only [frozen_set]; exact h.f1
  · simp only [frozen_set]; exact h.f2
  · simp only [frozen_set]; exact h.f3
  · simp only [frozen_set]; exact h.f4
  · simp only [frozen_set]; exact h.fq
  · simp only [frozen_set]; exact h.fr
  · simp; exact h.size
  · exact ((((h.below.setCell (by simp) _).setCell (by simp) _).setCell (by simp) _).setCell (by simp) _).setCell (by simp) _
theorem stopA_cast (s : ByteArray) : (stopA s : Int) = 14 + 5 * wordAt s 10 + 3 * wordAt s 12 + 4096 * wordAt s 4 := by
  have a := nO_cast s
  have b := nR_cast s
  have c := nB_cast s
  unfold stopA startA firstA
  omega
set_option maxRecDepth 8000 in
set_option maxHeartbeats 1600000 in
theorem readB_any (s : ByteArray) (w : World) (hs : s.size ≤ maxLen) (hok : (headE s).2 = 0) (hz : s.size ≠ stopA s + 2) (R : Ending → World → Prop) (HR : Hid (∀ e w', ReadPost s w e w' → R e w')) :
    Calls Try.prog 25 #[.string s] w R := by
  have hmf : ∀ (fn : Fn) (first cap : Array Value) (w : World), (Instr.makeFunc fn first cap).run Try.prog w = .ok (.func fn first cap) w := fun _ _ _ _ => rfl
  have HS := Lib.hid hs
  unfold maxLen at hs
  obtain ⟨h14, _, b0, b1, o1, r1, _, _⟩ := headE_ok s hok
  have o0 := (wordAt_bd s 10).1
  have r0 := (wordAt_bd s 12).1
  have hst := stopA_cast s
  have HK := Lib.hid hok
  clear hok
  go_enter_defers Try.func25, Try.ntmps25
  go_wp2_with fail
  have hA := readMem_start w
  refine (head_any s _ HS.out).mono ?_
  rintro e w1 ⟨hB, ⟨hne, rfl⟩ | ⟨h0, rfl⟩⟩
  · exact absurd HK.out hne
  have hA1 := hA.next hB
  have HA2 := Lib.hid (hA1.set (.slice none 0 0) (.int .u16 (wordAt s 6)) (.int .u16 (wordAt s 8)) (.slice none 0 0) (.slice none 0 0))
  obtain ⟨i0, i1, i2, i3, i4, _, _, f0, f1, f2, f3, f4, _, _, _, _⟩ := hA1
  clear hA hB h0
  by_cases hlt : s.size < stopA s + 2
  · have HE := Lib.hid (readE_short s HK.out hlt)
    have hd : (s.size : Int) < 14 + 5 * wordAt s 10 + 3 * wordAt s 12 + 4096 * wordAt s 4 + 2 := by omega
    clear hst hz
    go_wp2_with fail
    refine (need_no _ _ _ _ ?_).mono ?_
    · first | with_reducible rfl | exact decide_eq_false (by omega)
    rintro e w' ⟨rfl, rfl⟩
    exact leaves_caught HA2.out rfl rfl rfl (fun W hW => HR.out _ _ (readPost_bad HE.out (by decide) hW))
  · have hgt : stopA s + 2 < s.size := by omega
    have HE := Lib.hid (readE_long s HK.out hgt)
    have hd : 14 + 5 * wordAt s 10 + 3 * wordAt s 12 + 4096 * wordAt s 4 + 2 < (s.size : Int) := by omega
    have hd2 : ((s.size : Int) == 14 + 5 * wordAt s 10 + 3 * wordAt s 12 + 4096 * wordAt s 4 + 2) = false := by simp; omega
    have HST := Lib.hid hst
    clear hst hz hlt hgt
    go_wp2_with fail
    refine (need_yes _ _ _ _ ?_).mono ?_
    · first | with_reducible rfl | exact decide_eq_true (by omega)
    rintro e w' ⟨rfl, rfl⟩
    go_wp2_with fail
    refine (need_no _ _ _ _ ?_).mono ?_
    · first | with_reducible rfl | exact hd2
    rintro e w' ⟨rfl, rfl⟩
    exact leaves_caught HA2.out rfl rfl rfl (fun W hW => HR.out _ _ (readPost_bad (HE.out.trans (by rw [← HST.out]; rfl)) (by decide) hW))
end Go.Proofs.Ytgdiaaoekkdibaa
