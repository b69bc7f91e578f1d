/- The contracts of Read's head. -/
import Derived.Test.YtgdiaaoekkdibaaI15
import Derived.Test.YtgdiaaoekkdibaaI10
namespace Go.Proofs.Ytgdiaaoekkdibaa
set_option linter.unusedVariables false
set_option linter.unusedSimpArgs false
open Go.RowKit
theorem velm_any (s : ByteArray) (w : World) (hs : s.size ≤ maxLen) (h4 : 4 ≤ s.size) :
    Calls Try.prog 79 #[.string s, .string ⟨#[86, 69, 76, 77]⟩] w fun e w' => e = .returned (.bool (isVelm s)) ∧ w = w' := by
  unfold maxLen at hs
  go_enter Try.func79, Try.ntmps79
  go_wp2
  go_ret
  exact ⟨rfl, rfl⟩
theorem field_any (s : ByteArray) (m : Int) (n : Nat) (B : Nat) (w : World) (hm : m = n) (hs : s.size ≤ maxLen) (h14 : 14 ≤ s.size) (hn : n ≤ 4) (hc : w.cell? ⟨B, 0, none⟩ = some (.string s)) :
    Calls Try.prog 80 #[.int .i64 m, .pointer (some ⟨B, 0, none⟩)] w fun e w' => e = .returned (.int .i64 (wordAt s (4 + 2 * n))) ∧ Below w.heap.size w w' := by
  subst hm
  have hb := wordAt_bd s (4 + 2 * n)
  have hs0 := hs
  unfold maxLen at hs
  have w1 : IntKind.i64.wrap (2 * (n : Int)) = 2 * (n : Int) := IntWalk.i64_in _ (by omega)
  have w2 : IntKind.i64.wrap (4 + 2 * (n : Int)) = 4 + 2 * (n : Int) := IntWalk.i64_in _ (by omega)
  have HG := fun w : World => get_any (s.extract (4 + 2 * n) s.size) w (by unfold maxLen; rw [ByteArray.size_extract]; omega)
  have HH := Lib.hid HG
  clear HG
  have ht : (4 + 2 * (n : Int)).toNat = 4 + 2 * n := by omega
  have hle : 4 + 2 * (n : Int) ≤ s.size := by omega
  have hw : IntKind.i64.wrap (wordAt s (4 + 2 * n)) = wordAt s (4 + 2 * n) := IntWalk.i64_in _ (by omega)
  unfold wordAt at *
  go_enter Try.func80, Try.ntmps80
  go_wp2_with (go_at_call 62; refine (HH.out _).mono ?_; rintro e w' ⟨rfl, h1⟩)
  go_ret
  exact ⟨rfl, h1⟩
theorem headA_bad (s : ByteArray) (w : World) (hs : s.size ≤ maxLen) (hb : s.size < 4 ∨ isVelm s = false ∨ s.size < 14) :
    Calls Try.prog 60 #[.string s] w fun e w' => e = .panicked [{ v := .iface 98 (.agg #[.int .i64 (headE s).1, .int .i64 (headE s).2]), recovered := false }] ∧ Below w.heap.size w w' := by
  have hs0 := Lib.hid hs
  unfold maxLen at hs
  have HB := Lib.hid (below_alloc (below1 w (Obj.cells #[Value.string s] 9)) (Obj.cells #[Value.slice none 0 0, Value.int IntKind.u16 0, Value.int IntKind.u16 0, Value.slice none 0 0, Value.slice none 0 0] 30))
  by_cases h1 : s.size < 4
  · have HE := Lib.hid (headE_0 s h1)
    clear hb
    go_enter Try.func60, Try.ntmps60
    go_wp2_with fail
    refine (need_no _ _ _ _ (decide_eq_false (by omega))).mono ?_; rintro e w' ⟨rfl, rfl⟩
    go_wp2_with fail
    exact ⟨rfl, by rw [HE.out], HB.out⟩
  by_cases h2 : isVelm s = false
  · have HE := Lib.hid (headE_1 s h1 h2)
    have h4 : 4 ≤ s.size := by omega
    have H2 := Lib.hid h2
    clear hb h2
    go_enter Try.func60, Try.ntmps60
    go_wp2_with fail
    refine (need_yes _ _ _ _ (decide_eq_true (by omega))).mono ?_; rintro e w' ⟨rfl, rfl⟩
    go_wp2_with fail
    refine (velm_any _ _ hs0.out h4).mono ?_; rintro e w' ⟨rfl, rfl⟩
    go_wp2_with fail
    refine (need_no _ _ _ _ H2.out).mono ?_; rintro e w' ⟨rfl, rfl⟩
    go_wp2_with fail
    exact ⟨rfl, by rw [HE.out], HB.out⟩
  have h3 : s.size < 14 := by rcases hb with h | h | h; exact absurd h h1; exact absurd h h2; exact h
  · have HE := Lib.hid (headE_2 s h1 h2 h3)
    have h4 : 4 ≤ s.size := by omega
    have H2 : Hid (isVelm s = true) := by show _ = _; simpa using h2
    clear hb h2
    go_enter Try.func60, Try.ntmps60
    go_wp2_with fail
    refine (need_yes _ _ _ _ (decide_eq_true (by omega))).mono ?_; rintro e w' ⟨rfl, rfl⟩
    go_wp2_with fail
    refine (velm_any _ _ hs0.out h4).mono ?_; rintro e w' ⟨rfl, rfl⟩
    go_wp2_with fail
    refine (need_yes _ _ _ _ H2.out).mono ?_; rintro e w' ⟨rfl, rfl⟩
    go_wp2_with fail
    refine (need_no _ _ _ _ (decide_eq_false (by omega))).mono ?_; rintro e w' ⟨rfl, rfl⟩
    go_wp2_with fail
    exact ⟨rfl, by rw [HE.out], HB.out⟩
end Go.Proofs.Ytgdiaaoekkdibaa
