/- The contract of Read's head, where the file holds a head. -/
import Derived.Test.YtgdiaaoekkdibaaI16
namespace Go.Proofs.Ytgdiaaoekkdibaa
set_option linter.unusedVariables false
set_option linter.unusedSimpArgs false
open Go.RowKit
/-- What head keeps in memory while it reads. -/
structure HeadAt (w w' : World) (s : ByteArray) : Prop where
  c0 : w'.cell? ⟨w.heap.size, 0, none⟩ = some (.string s)
  i0 : w'.cell? ⟨w.heap.size + 1, 0, none⟩ = some (.slice none 0 0)
  i1 : w'.cell? ⟨w.heap.size + 1, 1, none⟩ = some (.int .u16 0)
  i2 : w'.cell? ⟨w.heap.size + 1, 2, none⟩ = some (.int .u16 0)
  i3 : w'.cell? ⟨w.heap.size + 1, 3, none⟩ = some (.slice none 0 0)
  i4 : w'.cell? ⟨w.heap.size + 1, 4, none⟩ = some (.slice none 0 0)
  f0 : w'.frozen? ⟨w.heap.size + 1, 0, none⟩ = false
  f1 : w'.frozen? ⟨w.heap.size + 1, 1, none⟩ = false
  f2 : w'.frozen? ⟨w.heap.size + 1, 2, none⟩ = false
  f3 : w'.frozen? ⟨w.heap.size + 1, 3, none⟩ = false
  f4 : w'.frozen? ⟨w.heap.size + 1, 4, none⟩ = false
  size : w.heap.size + 2 ≤ w'.heap.size
  below : Below w.heap.size w w'
theorem headAt_of (w w' : World) (s : ByteArray)
    (h : Below ((w.alloc (Obj.cells #[Value.string s] 9)).alloc (Obj.cells #[Value.slice none 0 0, Value.int IntKind.u16 0, Value.int IntKind.u16 0, Value.slice none 0 0, Value.slice none 0 0] 30)).heap.size ((w.alloc (Obj.cells #[Value.string s] 9)).alloc (Obj.cells #[Value.slice none 0 0, Value.int IntKind.u16 0, Value.int IntKind.u16 0, Value.slice none 0 0, Value.slice none 0 0] 30)) w') : HeadAt w w' s := by
  have hz : ((w.alloc (Obj.cells #[Value.string s] 9)).alloc (Obj.cells #[Value.slice none 0 0, Value.int IntKind.u16 0, Value.int IntKind.u16 0, Value.slice none 0 0, Value.slice none 0 0] 30)).heap.size = w.heap.size + 2 := by simp
  have hb := below_next (below_alloc (below1 w (Obj.cells #[Value.string s] 9)) (Obj.cells #[Value.slice none 0 0, Value.int IntKind.u16 0, Value.int IntKind.u16 0, Value.slice none 0 0, Value.slice none 0 0] 30)) h
  have hs := h.size
  refine ⟨(h.cell (by rw [hz]; simp)).trans (by simp), (h.cell (by rw [hz]; simp)).trans (by simp), (h.cell (by rw [hz]; simp)).trans (by simp), (h.cell (by rw [hz]; simp)).trans (by simp), (h.cell (by rw [hz]; simp)).trans (by simp), (h.cell (by rw [hz]; simp)).trans (by simp), (h.frozen (by rw [hz]; simp)).trans (by simp), (h.frozen (by rw [hz]; simp)).trans (by simp), (h.frozen (by rw [hz]; simp)).trans (by simp), (h.frozen (by rw [hz]; simp)).trans (by simp), (h.frozen (by rw [hz]; simp)).trans (by simp), by omega, hb⟩
/-- Five stores into one block, as they read afterwards. -/
theorem addr_ne (B i j : Nat) (h : i ≠ j) : (⟨B, i, none⟩ : Addr) ≠ ⟨B, j, none⟩ := fun e => h (by injection e)
theorem set5 (W : World) (B : Nat) (v0 v1 v2 v3 v4 u0 u1 u2 u3 u4 : Value) (i0 : W.cell? ⟨B, 0, none⟩ = some u0) (i1 : W.cell? ⟨B, 1, none⟩ = some u1) (i2 : W.cell? ⟨B, 2, none⟩ = some u2) (i3 : W.cell? ⟨B, 3, none⟩ = some u3) (i4 : W.cell? ⟨B, 4, none⟩ = some u4) :
    (((((W.setCell ⟨B, 0, none⟩ v0).setCell ⟨B, 1, none⟩ v1).setCell ⟨B, 2, none⟩ v2).setCell ⟨B, 3, none⟩ v3).setCell ⟨B, 4, none⟩ v4).cell? ⟨B, 0, none⟩ = some v0 ∧
    (((((W.setCell ⟨B, 0, none⟩ v0).setCell ⟨B, 1, none⟩ v1).setCell ⟨B, 2, none⟩ v2).setCell ⟨B, 3, none⟩ v3).setCell ⟨B, 4, none⟩ v4).cell? ⟨B, 1, none⟩ = some v1 ∧
    (((((W.setCell ⟨B, 0, none⟩ v0).setCell ⟨B, 1, none⟩ v1).setCell ⟨B, 2, none⟩ v2).setCell ⟨B, 3, none⟩ v3).setCell ⟨B, 4, none⟩ v4).cell? ⟨B, 2, none⟩ = some v2 ∧
    (((((W.setCell ⟨B, 0, none⟩ v0).setCell ⟨B, 1, none⟩ v1).setCell ⟨B, 2, none⟩ v2).setCell ⟨B, 3, none⟩ v3).setCell ⟨B, 4, none⟩ v4).cell? ⟨B, 3, none⟩ = some v3 ∧
    (((((W.setCell ⟨B, 0, none⟩ v0).setCell ⟨B, 1, none⟩ v1).setCell ⟨B, 2, none⟩ v2).setCell ⟨B, 3, none⟩ v3).setCell ⟨B, 4, none⟩ v4).cell? ⟨B, 4, none⟩ = some v4 := by
  refine ⟨?_, ?_, ?_, ?_, ?_⟩
  · rw [World.cell?_setCell_other _ _ _ _ (addr_ne B 4 0 (by decide)), World.cell?_setCell_other _ _ _ _ (addr_ne B 3 0 (by decide)), World.cell?_setCell_other _ _ _ _ (addr_ne B 2 0 (by decide)), World.cell?_setCell_other _ _ _ _ (addr_ne B 1 0 (by decide))]
    exact World.cell?_setCell_same _ _ _ i0
  · rw [World.cell?_setCell_other _ _ _ _ (addr_ne B 4 1 (by decide)), World.cell?_setCell_other _ _ _ _ (addr_ne B 3 1 (by decide)), World.cell?_setCell_other _ _ _ _ (addr_ne B 2 1 (by decide))]
    exact World.cell?_setCell_same _ _ _ ((World.cell?_setCell_other _ _ _ _ (addr_ne B 0 1 (by decide))).trans i1)
  · rw [World.cell?_setCell_other _ _ _ _ (addr_ne B 4 2 (by decide)), World.cell?_setCell_other _ _ _ _ (addr_ne B 3 2 (by decide))]
    exact World.cell?_setCell_same _ _ _ ((World.cell?_setCell_other _ _ _ _ (addr_ne B 1 2 (by decide))).trans ((World.cell?_setCell_other _ _ _ _ (addr_ne B 0 2 (by decide))).trans i2))
  · rw [World.cell?_setCell_other _ _ _ _ (addr_ne B 4 3 (by decide))]
    exact World.cell?_setCell_same _ _ _ ((World.cell?_setCell_other _ _ _ _ (addr_ne B 2 3 (by decide))).trans ((World.cell?_setCell_other _ _ _ _ (addr_ne B 1 3 (by decide))).trans ((World.cell?_setCell_other _ _ _ _ (addr_ne B 0 3 (by decide))).trans i3)))
  · exact World.cell?_setCell_same _ _ _ ((World.cell?_setCell_other _ _ _ _ (addr_ne B 3 4 (by decide))).trans ((World.cell?_setCell_other _ _ _ _ (addr_ne B 2 4 (by decide))).trans ((World.cell?_setCell_other _ _ _ _ (addr_ne B 1 4 (by decide))).trans ((World.cell?_setCell_other _ _ _ _ (addr_ne B 0 4 (by decide))).trans i4))))
theorem set2 (W : World) (B : Nat) (v1 v2 u0 u1 u2 u3 u4 : Value) (i0 : W.cell? ⟨B, 0, none⟩ = some u0) (i1 : W.cell? ⟨B, 1, none⟩ = some u1) (i2 : W.cell? ⟨B, 2, none⟩ = some u2) (i3 : W.cell? ⟨B, 3, none⟩ = some u3) (i4 : W.cell? ⟨B, 4, none⟩ = some u4) :
    ((W.setCell ⟨B, 1, none⟩ v1).setCell ⟨B, 2, none⟩ v2).cell? ⟨B, 0, none⟩ = some u0 ∧ ((W.setCell ⟨B, 1, none⟩ v1).setCell ⟨B, 2, none⟩ v2).cell? ⟨B, 1, none⟩ = some v1 ∧ ((W.setCell ⟨B, 1, none⟩ v1).setCell ⟨B, 2, none⟩ v2).cell? ⟨B, 2, none⟩ = some v2 ∧
    ((W.setCell ⟨B, 1, none⟩ v1).setCell ⟨B, 2, none⟩ v2).cell? ⟨B, 3, none⟩ = some u3 ∧ ((W.setCell ⟨B, 1, none⟩ v1).setCell ⟨B, 2, none⟩ v2).cell? ⟨B, 4, none⟩ = some u4 :=
  ⟨(World.cell?_setCell_other _ _ _ _ (addr_ne B 2 0 (by decide))).trans ((World.cell?_setCell_other _ _ _ _ (addr_ne B 1 0 (by decide))).trans i0),
   (World.cell?_setCell_other _ _ _ _ (addr_ne B 2 1 (by decide))).trans (World.cell?_setCell_same _ _ _ i1),
   World.cell?_setCell_same _ _ _ ((World.cell?_setCell_other _ _ _ _ (addr_ne B 1 2 (by decide))).trans i2),
   (World.cell?_setCell_other _ _ _ _ (addr_ne B 2 3 (by decide))).trans ((World.cell?_setCell_other _ _ _ _ (addr_ne B 1 3 (by decide))).trans i3),
   (World.cell?_setCell_other _ _ _ _ (addr_ne B 2 4 (by decide))).trans ((World.cell?_setCell_other _ _ _ _ (addr_ne B 1 4 (by decide))).trans i4)⟩
def HeadPost (s : ByteArray) (w : World) (e : Ending) (w' : World) : Prop :=
  Below w.heap.size w w' ∧ (((headE s).2 ≠ 0 ∧ e = .panicked [{ v := .iface 98 (.agg #[.int .i64 (headE s).1, .int .i64 (headE s).2]), recovered := false }]) ∨
    ((headE s).2 = 0 ∧ e = .returned (.tuple #[.agg #[.slice none 0 0, .int .u16 (wordAt s 6), .int .u16 (wordAt s 8), .slice none 0 0, .slice none 0 0], .int .i64 (wordAt s 4), .int .i64 (wordAt s 10), .int .i64 (wordAt s 12)])))
theorem headPost_bad {s : ByteArray} {w w' : World} {e : Ending} {a b : Int} (h : headE s = (a, b)) (hb : b ≠ 0) (hB : Below w.heap.size w w') (he : e = .panicked [{ v := .iface 98 (.agg #[.int .i64 a, .int .i64 b]), recovered := false }]) : HeadPost s w e w' :=
  ⟨hB, .inl ⟨by rw [h]; exact hb, by rw [h]; exact he⟩⟩
theorem headPost_ok {s : ByteArray} {w w' : World} {e : Ending} (h : headE s = (0, 0)) (hB : Below w.heap.size w w') (he : e = .returned (.tuple #[.agg #[.slice none 0 0, .int .u16 (wordAt s 6), .int .u16 (wordAt s 8), .slice none 0 0, .slice none 0 0], .int .i64 (wordAt s 4), .int .i64 (wordAt s 10), .int .i64 (wordAt s 12)])) : HeadPost s w e w' :=
  ⟨hB, .inr ⟨by rw [h], he⟩⟩
set_option maxRecDepth 8000 in
set_option maxHeartbeats 1600000 in
theorem headB_any (s : ByteArray) (w : World) (hs : s.size ≤ maxLen) (h14 : 14 ≤ s.size) (h2 : isVelm s = true) (R : Ending → World → Prop) (HR : Hid (∀ e w', HeadPost s w e w' → R e w')) :
    Calls Try.prog 60 #[.string s] w R := by
  have hs0 := Lib.hid hs
  have H2 := Lib.hid h2
  have h4 : 4 ≤ s.size := by omega
  have k0 : Hid (¬ s.size < 4) := by show ¬ _; omega
  have k2 : Hid (¬ s.size < 14) := by show ¬ _; omega
  have k1 : Hid (¬ isVelm s = false) := by show ¬ _; rw [h2]; decide
  clear h2
  unfold maxLen at hs
  have b6 := wordAt_bd s 6
  have b8 := wordAt_bd s 8
  have r6 : IntKind.u16.wrap (wordAt s 6) = wordAt s 6 := wrap_in _ (by omega) (by omega)
  have r8 : IntKind.u16.wrap (wordAt s 8) = wordAt s 8 := wrap_in _ (by omega) (by omega)
  have W1x : w.heap.size ≤ ((w.alloc (Obj.cells #[Value.string s] 9)).alloc (Obj.cells #[Value.slice none 0 0, Value.int IntKind.u16 0, Value.int IntKind.u16 0, Value.slice none 0 0, Value.slice none 0 0] 30)).heap.size := by simp; omega
  go_enter Try.func60, Try.ntmps60
  go_wp2_with fail
  refine (need_yes _ _ _ _ (decide_eq_true (by omega))).mono ?_; rintro e w' ⟨rfl, rfl⟩
  go_wp2_with fail
  refine (velm_any _ _ hs0.out h4).mono ?_; rintro e w' ⟨rfl, rfl⟩
  go_wp2_with fail
  refine (need_yes _ _ _ _ H2.out).mono ?_; rintro e w' ⟨rfl, rfl⟩
  go_wp2_with fail
  refine (need_yes _ _ _ _ (decide_eq_true (by omega))).mono ?_; rintro e w' ⟨rfl, rfl⟩
  have hmf : ∀ (fn : Fn) (first cap : Array Value) (w : World), (Instr.makeFunc fn first cap).run Try.prog w = .ok (.func fn first cap) w := fun _ _ _ _ => rfl
  have HX : Hid (∀ w' : World, Below ((w.alloc (Obj.cells #[Value.string s] 9)).alloc (Obj.cells #[Value.slice none 0 0, Value.int IntKind.u16 0, Value.int IntKind.u16 0, Value.slice none 0 0, Value.slice none 0 0] 30)).heap.size ((w.alloc (Obj.cells #[Value.string s] 9)).alloc (Obj.cells #[Value.slice none 0 0, Value.int IntKind.u16 0, Value.int IntKind.u16 0, Value.slice none 0 0, Value.slice none 0 0] 30)) w' → HeadAt w w' s) := fun w' h => headAt_of w w' s h
  clear H2
  generalize (w.alloc (Obj.cells #[Value.string s] 9)).alloc (Obj.cells #[Value.slice none 0 0, Value.int IntKind.u16 0, Value.int IntKind.u16 0, Value.slice none 0 0, Value.slice none 0 0] 30) = W1 at *
  have A0 := HX.out W1 (Below.refl _ _)
  have B0 := Lib.hid (Below.refl W1.heap.size W1)
  go_wp2_with fail
  refine (field_any s 0 0 w.heap.size _ rfl hs0.out h14 (by omega) A0.c0).mono ?_; rintro e w1 ⟨rfl, g1⟩
  have B1 := Lib.hid (below_next B0.out g1)
  have A1 := HX.out w1 B1.out
  clear A0 B0 g1
  go_wp2_with fail
  refine (field_any s 3 3 w.heap.size _ rfl hs0.out h14 (by omega) A1.c0).mono ?_; rintro e w2 ⟨rfl, g2⟩
  have B2 := Lib.hid (below_next B1.out g2)
  have A2 := HX.out w2 B2.out
  clear A1 B1 g2
  go_wp2_with fail
  refine (field_any s 4 4 w.heap.size _ rfl hs0.out h14 (by omega) A2.c0).mono ?_; rintro e w3 ⟨rfl, g3⟩
  have B3 := Lib.hid (below_next B2.out g3)
  have A3 := HX.out w3 B3.out
  clear A2 B2 g3
  go_wp2_with fail
  refine (field_any s 1 1 w.heap.size _ rfl hs0.out h14 (by omega) A3.c0).mono ?_; rintro e w4 ⟨rfl, g4⟩
  have B4 := Lib.hid (below_next B3.out g4)
  have A4 := HX.out w4 B4.out
  clear A3 B3 g4
  go_wp2_with fail
  refine (field_any s 2 2 w.heap.size _ rfl hs0.out h14 (by omega) A4.c0).mono ?_; rintro e w5 ⟨rfl, g5⟩
  have B5 := Lib.hid (below_next B4.out g5)
  have A5 := HX.out w5 B5.out
  clear A4 B4 g5
  obtain ⟨c0, i0, i1, i2, i3, i4, f0, f1, f2, f3, f4, hsz, hbl⟩ := A5
  have HBL := Lib.hid hbl
  clear hbl HX B5 c0 h4 hs
  have HB6 : Hid (Below w.heap.size w ((w5.setCell ⟨w.heap.size + 1, 1, none⟩ (Value.int IntKind.u16 (wordAt s 6))).setCell ⟨w.heap.size + 1, 2, none⟩ (Value.int IntKind.u16 (wordAt s 8)))) := (HBL.out.setCell (by simp) _).setCell (by simp) _
  by_cases h3a : wordAt s 4 < 1
  · have hg : decide (1 ≤ wordAt s 4) = false := decide_eq_false (by omega)
    have H3 := Lib.hid h3a
    clear h3a
    go_wp2_with fail
    refine (need_no _ _ _ _ rfl).mono ?_; rintro e w' ⟨rfl, rfl⟩
    exact ⟨rfl, HR.out _ _ (headPost_bad (headE_3 s k0.out k1.out k2.out (.inl H3.out)) (by decide) HB6.out rfl)⟩
  by_cases h3 : 64 < wordAt s 4
  all_goals have h3b : 1 ≤ wordAt s 4 := by omega
  all_goals go_wp2_with fail
  · refine (need_no _ _ _ _ ?_).mono ?_
    · first | with_reducible rfl | exact decide_eq_false (by omega)
    rintro e w' ⟨rfl, rfl⟩
    exact ⟨rfl, HR.out _ _ (headPost_bad (headE_3 s k0.out k1.out k2.out (.inr h3)) (by decide) HB6.out rfl)⟩
  have k3 : Hid (¬ (wordAt s 4 < 1 ∨ 64 < wordAt s 4)) := by show ¬ _; omega
  refine (need_yes _ _ _ _ ?_).mono ?_
  · first | with_reducible rfl | exact decide_eq_true (by omega)
  rintro e w' ⟨rfl, rfl⟩
  go_wp2_with fail
  by_cases h4 : 512 < wordAt s 10
  · refine (need_no _ _ _ _ ?_).mono ?_
    · first | with_reducible rfl | exact decide_eq_false (by omega)
    rintro e w' ⟨rfl, rfl⟩
    exact ⟨rfl, HR.out _ _ (headPost_bad (headE_4 s k0.out k1.out k2.out k3.out h4) (by decide) HB6.out rfl)⟩
  have k4 : Hid (¬ 512 < wordAt s 10) := by show ¬ _; omega
  refine (need_yes _ _ _ _ ?_).mono ?_
  · first | with_reducible rfl | exact decide_eq_true (by omega)
  rintro e w' ⟨rfl, rfl⟩
  clear h4
  go_wp2_with fail
  by_cases h5 : 20000 < wordAt s 12
  · refine (need_no _ _ _ _ ?_).mono ?_
    · first | with_reducible rfl | exact decide_eq_false (by omega)
    rintro e w' ⟨rfl, rfl⟩
    exact ⟨rfl, HR.out _ _ (headPost_bad (headE_5 s k0.out k1.out k2.out k3.out (by have := k4.out; omega) h5) (by decide) HB6.out rfl)⟩
  have k5 : Hid (¬ 20000 < wordAt s 12) := by show ¬ _; omega
  refine (need_yes _ _ _ _ ?_).mono ?_
  · first | with_reducible rfl | exact decide_eq_true (by omega)
  rintro e w' ⟨rfl, rfl⟩
  clear h5
  go_wp2_with fail
  by_cases h6 : 4096 ≤ wordAt s 6
  · refine (need_no _ _ _ _ ?_).mono ?_
    · first | with_reducible rfl | exact decide_eq_false (by omega)
    rintro e w' ⟨rfl, rfl⟩
    exact ⟨rfl, HR.out _ _ (headPost_bad (headE_6 s k0.out k1.out k2.out k3.out (by have := k4.out; omega) (by have := k5.out; omega) h6) (by decide) HB6.out rfl)⟩
  have k6 : Hid (¬ 4096 ≤ wordAt s 6) := by show ¬ _; omega
  refine (need_yes _ _ _ _ ?_).mono ?_
  · first | with_reducible rfl | exact decide_eq_true (by omega)
  rintro e w' ⟨rfl, rfl⟩
  clear h6
  go_wp2_with fail
  by_cases h7 : 4096 ≤ wordAt s 8
  · refine (need_no _ _ _ _ ?_).mono ?_
    · first | with_reducible rfl | exact decide_eq_false (by omega)
    rintro e w' ⟨rfl, rfl⟩
    exact ⟨rfl, HR.out _ _ (headPost_bad (headE_7 s k0.out k1.out k2.out k3.out (by have := k4.out; omega) (by have := k5.out; omega) (by have := k6.out; omega) h7) (by decide) HB6.out rfl)⟩
  have k7 : Hid (¬ 4096 ≤ wordAt s 8) := by show ¬ _; omega
  refine (need_yes _ _ _ _ ?_).mono ?_
  · first | with_reducible rfl | exact decide_eq_true (by omega)
  rintro e w' ⟨rfl, rfl⟩
  clear h7
  go_wp2_with fail
  obtain ⟨p0, p1, p2, p3, p4⟩ := set2 w5 (w.heap.size + 1) (.int .u16 (wordAt s 6)) (.int .u16 (wordAt s 8)) _ _ _ _ _ i0 i1 i2 i3 i4
  obtain ⟨q0, q1, q2, q3, q4⟩ := set5 _ (w.heap.size + 1) (.slice none 0 0) (.int .u16 (wordAt s 6)) (.int .u16 (wordAt s 8)) (.slice none 0 0) (.slice none 0 0) _ _ _ _ _ p0 p1 p2 p3 p4
  have HB7 := Lib.hid (((((HB6.out.setCell (by simp) _).setCell (by simp) _).setCell (by simp) _).setCell (by simp) _).setCell (by simp) _ : Below w.heap.size w ((((((((w5.setCell ⟨w.heap.size + 1, 1, none⟩ (Value.int IntKind.u16 (wordAt s 6))).setCell ⟨w.heap.size + 1, 2, none⟩ (Value.int IntKind.u16 (wordAt s 8)))).setCell ⟨w.heap.size + 1, 0, none⟩ (.slice none 0 0)).setCell ⟨w.heap.size + 1, 1, none⟩ (.int .u16 (wordAt s 6))).setCell ⟨w.heap.size + 1, 2, none⟩ (.int .u16 (wordAt s 8))).setCell ⟨w.heap.size + 1, 3, none⟩ (.slice none 0 0)).setCell ⟨w.heap.size + 1, 4, none⟩ (.slice none 0 0)))
  clear i0 i1 i2 i3 i4 p0 p1 p2 p3 p4 HB6
  generalize (((((((w5.setCell ⟨w.heap.size + 1, 1, none⟩ (Value.int IntKind.u16 (wordAt s 6))).setCell ⟨w.heap.size + 1, 2, none⟩ (Value.int IntKind.u16 (wordAt s 8))).setCell ⟨w.heap.size + 1, 0, none⟩ (Value.slice none 0 0)).setCell ⟨w.heap.size + 1, 1, none⟩ (Value.int IntKind.u16 (wordAt s 6))).setCell ⟨w.heap.size + 1, 2, none⟩ (Value.int IntKind.u16 (wordAt s 8))).setCell ⟨w.heap.size + 1, 3, none⟩ (Value.slice none 0 0)).setCell ⟨w.heap.size + 1, 4, none⟩ (Value.slice none 0 0)) = WF at *
  refine bodyPost_ret (v := .tuple #[.agg #[.slice none 0 0, .int .u16 (wordAt s 6), .int .u16 (wordAt s 8), .slice none 0 0, .slice none 0 0], .int .i64 (wordAt s 4), .int .i64 (wordAt s 10), .int .i64 (wordAt s 12)]) (by simp [results, Try.results60, go_sem, q0, q1, q2, q3, q4]) rfl (HR.out _ _ (headPost_ok (headE_8 s k0.out k1.out k2.out k3.out (by have := k4.out; omega) (by have := k5.out; omega) (by have := k6.out; omega) (by have := k7.out; omega)) HB7.out rfl))
theorem head_any (s : ByteArray) (w : World) (hs : s.size ≤ maxLen) : Calls Try.prog 60 #[.string s] w (HeadPost s w) := by
  by_cases h : s.size < 4 ∨ isVelm s = false ∨ s.size < 14
  · refine (headA_bad s w hs h).mono fun e w' ⟨he, hb⟩ => ⟨hb, .inl ⟨?_, he⟩⟩
    by_cases h0 : s.size < 4
    · rw [headE_0 s h0]; exact (by decide : (10 : Int) ≠ 0)
    by_cases h1 : isVelm s = false
    · rw [headE_1 s h0 h1]; decide
    by_cases h2 : s.size < 14
    · rw [headE_2 s h0 h1 h2]; exact (by decide : (10 : Int) ≠ 0)
    · rcases h with h | h | h
      · exact absurd h h0
      · exact absurd h h1
      · exact absurd h h2
  · have hv : isVelm s = true := by
      cases hx : isVelm s with
      | true => rfl
      | false => exact absurd (.inr (.inl hx)) h
    exact headB_any s w hs (by omega) hv _ (fun _ _ h => h)
end Go.Proofs.Ytgdiaaoekkdibaa
