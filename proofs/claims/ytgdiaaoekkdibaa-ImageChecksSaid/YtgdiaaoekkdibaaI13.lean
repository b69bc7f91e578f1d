/- The contract of image.IsReloc. -/
import Derived.Test.YtgdiaaoekkdibaaI12
namespace Go.Proofs.Ytgdiaaoekkdibaa
set_option linter.unusedVariables false
set_option linter.unusedSimpArgs false
open Go.RowKit
theorem isrel1_any (r : RelI) (b a : Int) (g : Nat) (w : World) (h0 : w.cell? ⟨g, 0, none⟩ = some (.int .i64 b)) (h1 : w.cell? ⟨g, 1, none⟩ = some (.int .u16 a)) (hg : g < w.heap.size) (B : Bool) (hB : RelI.at b a r = B) :
    Calls Try.prog 67 #[.agg #[.int .i64 r.bank, .int .u16 r.off], .pointer (some ⟨g, 0, none⟩)] w fun e w' => e = .returned (.bool B) ∧ Below w.heap.size w w' := by
  have hbel := below1 w (Obj.cells #[.int .i64 r.bank, .int .u16 r.off] 41)
  have z0 := (hbel.cell (p := ⟨g, 0, none⟩) hg).trans h0
  have z1 := (hbel.cell (p := ⟨g, 1, none⟩) hg).trans h1
  have HB := Lib.hid hB
  clear hB
  go_enter Try.func67, Try.ntmps67
  go_wp2
  all_goals
    go_ret
    refine ⟨?_, below1 _ _⟩
    rw [← HB.out]
    refine ret_bool ?_
    unfold RelI.at
    rw [Bool.eq_iff_iff]
    simp [*]
def firstIs (b a : Int) : List RelI → Nat → Int
  | [], _ => -1
  | r :: l, n => if RelI.at b a r = true then n else firstIs b a l (n + 1)
theorem firstIs_hit (l : List RelI) (b a : Int) (k : Nat) (r : RelI) (h : l[k]? = some r) (hh : RelI.at b a r = true) : firstIs b a (l.drop k) k = k := by
  rw [drop_at l k r h]; simp [firstIs, hh]
theorem firstIs_miss (l : List RelI) (b a : Int) (k : Nat) (r : RelI) (h : l[k]? = some r) (hh : RelI.at b a r = false) : firstIs b a (l.drop k) k = firstIs b a (l.drop (k + 1)) (k + 1) := by
  rw [drop_at l k r h]; simp [firstIs, hh]
theorem firstIs_end (l : List RelI) (b a : Int) : firstIs b a (l.drop l.length) l.length = -1 := by simp [firstIs]
theorem firstIs_any (b a : Int) (l : List RelI) : ∀ n, decide (0 ≤ firstIs b a l n) = isRel l b a := by
  induction l with
  | nil => intro n; rfl
  | cons r l ih =>
    intro n
    unfold firstIs isRel
    cases hr : RelI.at b a r
    · simp only [List.any_cons, hr, Bool.false_or]; exact ih (n + 1)
    · simp [List.any_cons, hr]
theorem indexr_any (p : Option Addr) (cap : Nat) (l : List RelI) (b a : Int) (g : Nat) (w : World) (hl : l.length ≤ maxLen) (ho : RelsAt w p l) (h0 : w.cell? ⟨g, 0, none⟩ = some (.int .i64 b)) (h1 : w.cell? ⟨g, 1, none⟩ = some (.int .u16 a)) (hg : g < w.heap.size) :
    Calls Try.prog 81 #[.slice p l.length cap, .func (.func 67) #[] #[.pointer (some ⟨g, 0, none⟩)]] w fun e w' => e = .returned (.int .i64 (firstIs b a l 0)) ∧ Below w.heap.size w w' := by
  unfold maxLen at hl
  have HO := Lib.hid ho
  clear ho
  go_enter Try.func81, Try.ntmps81
  go_wp2
  go_loopw [8] (fun i wr => ∃ k : Nat, k ≤ l.length ∧ i = .int .i64 k ∧ Below w.heap.size w wr ∧ firstIs b a l 0 = firstIs b a (l.drop k) k) (fun i _ => l.length - (intOf i).toNat)
  case atStart => exact ⟨0, Nat.zero_le _, rfl, Below.refl _ _, rfl⟩
  case round =>
    obtain ⟨k, hk, rfl, hB, hf⟩ := hrel
    have HF := Lib.hid hf
    have z0 := (hB.cell (p := ⟨g, 0, none⟩) hg).trans h0
    have z1 := (hB.cell (p := ⟨g, 1, none⟩) hg).trans h1
    have hg2 : g < wr.heap.size := by have := hB.size; omega
    clear hf
    by_cases hlt : k < l.length
    · obtain ⟨r, hok⟩ := at_some l k hlt
      obtain ⟨B, rfl, hBs, e0, e1, _⟩ := HO.out.kept hB k r hok
      have HK := Lib.hid hok
      clear hok
      cases hr : RelI.at b a r
      · have HM := Lib.hid (firstIs_miss l b a k r HK.out hr)
        go_wp2_with (go_at_call 67; refine (isrel1_any r b a g _ z0 z1 hg2 _ hr).mono ?_; rintro e w2 ⟨rfl, h2⟩)
        go_roundw
        case rel => exact ⟨k + 1, by omega, by go_num, below_next hB h2, by rw [HF.out, HM.out]⟩
        case measure => simp [intOf]; omega
      · have HH := Lib.hid (firstIs_hit l b a k r HK.out hr)
        go_wp2_with (go_at_call 67; refine (isrel1_any r b a g _ z0 z1 hg2 _ hr).mono ?_; rintro e w2 ⟨rfl, h2⟩)
        go_ret
        exact ⟨by rw [HF.out, HH.out]; rfl, below_next hB h2⟩
    · obtain rfl : k = l.length := by omega
      go_wp2
      go_ret
      exact ⟨by rw [HF.out, firstIs_end]; rfl, hB⟩
theorem containsr_any (p : Option Addr) (cap : Nat) (l : List RelI) (b a : Int) (g : Nat) (B : Bool) (w : World) (hl : l.length ≤ maxLen) (ho : RelsAt w p l) (h0 : w.cell? ⟨g, 0, none⟩ = some (.int .i64 b)) (h1 : w.cell? ⟨g, 1, none⟩ = some (.int .u16 a)) (hg : g < w.heap.size) (hB : isRel l b a = B) :
    Calls Try.prog 66 #[.slice p l.length cap, .func (.func 67) #[] #[.pointer (some ⟨g, 0, none⟩)]] w fun e w' => e = .returned (.bool B) ∧ Below w.heap.size w w' := by
  have hb : decide (0 ≤ firstIs b a l 0) = B := by rw [firstIs_any]; exact hB
  go_enter Try.func66, Try.ntmps66
  go_wp2_with (go_at_call 81; refine (indexr_any _ _ _ b a g _ hl ho h0 h1 hg).mono ?_; rintro e w' ⟨rfl, h2⟩)
  go_ret
  exact ⟨rfl, h2⟩
end Go.Proofs.Ytgdiaaoekkdibaa
