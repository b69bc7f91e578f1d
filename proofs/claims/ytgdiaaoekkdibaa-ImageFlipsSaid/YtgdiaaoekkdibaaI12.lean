/- The contract of the reference's IsReloc. -/
import Derived.Test.YtgdiaaoekkdibaaI8
namespace Go.Proofs.Ytgdiaaoekkdibaa
set_option linter.unusedVariables false
set_option linter.unusedSimpArgs false
open Go.RowKit
def RelI.at (b a : Int) (r : RelI) : Bool := decide (r.bank = b ∧ r.off = a)
def isRel (l : List RelI) (b a : Int) : Bool := l.any (RelI.at b a)
theorem isRel_hit (l : List RelI) (b a : Int) (k : Nat) (r : RelI) (h : l[k]? = some r) (h1 : r.bank = b) (h2 : r.off = a) : isRel l b a = true := by
  unfold isRel; rw [List.any_eq_true]; exact ⟨r, List.mem_of_getElem? h, by unfold RelI.at; exact decide_eq_true ⟨h1, h2⟩⟩
theorem isRel_miss (l : List RelI) (b a : Int) (k : Nat) (r : RelI) (h : l[k]? = some r) (hh : ¬ (r.bank = b ∧ r.off = a)) : isRel (l.drop k) b a = isRel (l.drop (k + 1)) b a := by
  rw [drop_at l k r h]; unfold isRel RelI.at; simp [hh]
set_option maxHeartbeats 2000000 in
theorem risreloc_any (p1 : Option Addr) (c1 : Nat) (p2 : Option Addr) (c2 : Nat) (p3 : Option Addr) (c3 : Nat) (I : Img) (b a : Int) (w : World) (hI : ImgAt w p1 p2 p3 I) (hb : OkI64 b) (ha : OkI64 a) :
    Calls Try.prog 33 #[imgV p1 c1 p2 c2 p3 c3 I, .int .i64 b, .int .i64 a] w fun e w' => e = .returned (.bool (isRel I.relocs b a)) ∧ Below w.heap.size w w' := by
  obtain ⟨banks, entry, vector, data, l⟩ := I
  have HR := Lib.hid (hI.kept (below1 w (Obj.cells #[.slice p1 banks.length c1, .int .u16 entry, .int .u16 vector, .slice p2 data.length c2, .slice p3 l.length c3] 30))).relocs
  have l3 := hI.l3
  unfold maxLen at l3
  dsimp only at l3
  have y4 : (w.alloc (Obj.cells #[.slice p1 banks.length c1, .int .u16 entry, .int .u16 vector, .slice p2 data.length c2, .slice p3 l.length c3] 30)).cell? ⟨w.heap.size, 4, none⟩ = some (.slice p3 l.length c3) := by simp
  have HW1 := Lib.hid (below1 w (Obj.cells #[.slice p1 banks.length c1, .int .u16 entry, .int .u16 vector, .slice p2 data.length c2, .slice p3 l.length c3] 30))
  clear hI
  show Calls Try.prog 33 #[.agg #[.slice p1 banks.length c1, .int .u16 entry, .int .u16 vector, .slice p2 data.length c2, .slice p3 l.length c3], .int .i64 b, .int .i64 a] w fun e w' => e = .returned (.bool (isRel l b a)) ∧ Below w.heap.size w w'
  go_enter Try.func33, Try.ntmps33
  go_wp2_with fail
  generalize w.alloc (Obj.cells #[Value.slice p1 banks.length c1, Value.int IntKind.u16 entry, Value.int IntKind.u16 vector, Value.slice p2 data.length c2, Value.slice p3 l.length c3] 30) = W1 at *
  go_loop [7] (fun i => ∃ k : Nat, k ≤ l.length ∧ i = .int .i64 k ∧ isRel l b a = isRel (l.drop k) b a) (fun i => l.length - (intOf i).toNat)
  case atStart => exact ⟨0, Nat.zero_le _, rfl, rfl⟩
  case round =>
    obtain ⟨k, hk, rfl, hf⟩ := hrel
    have HF := Lib.hid hf
    clear hf
    by_cases hlt : k < l.length
    · obtain ⟨r, hok⟩ := at_some l k hlt
      obtain ⟨B, rfl, hBs, e0, e1, ⟨o0, o1⟩, ⟨o2, o3⟩⟩ := HR.out k r hok
      have HK := Lib.hid hok
      clear hok
      have hw : IntKind.i64.wrap r.off = r.off := IntWalk.i64_in _ (by omega)
      by_cases h1 : r.bank = b
      · have h1b : (r.bank == b) = true := by simpa using h1
        by_cases h2 : r.off = a
        · have h2b : (r.off == a) = true := by simpa using h2
          have HH := Lib.hid (isRel_hit l b a k r HK.out h1 h2)
          clear h1 h2
          go_wp2_with fail
          go_ret
          exact ⟨by rw [HH.out]; rfl, HW1.out⟩
        · have h2b : (r.off == a) = false := by simpa using h2
          have HM := Lib.hid (isRel_miss l b a k r HK.out (fun h => h2 h.2))
          clear h1 h2
          go_wp2_with fail
          go_round
          case rel => exact ⟨k + 1, by omega, by go_num, by rw [HF.out, HM.out]⟩
          case measure => simp [intOf]; omega
      · have h1b : (r.bank == b) = false := by simpa using h1
        have HM := Lib.hid (isRel_miss l b a k r HK.out (fun h => h1 h.1))
        clear h1
        go_wp2_with fail
        go_round
        case rel => exact ⟨k + 1, by omega, by go_num, by rw [HF.out, HM.out]⟩
        case measure => simp [intOf]; omega
    · obtain rfl : k = l.length := by omega
      go_wp2_with fail
      go_ret
      exact ⟨by rw [HF.out]; simp [isRel], HW1.out⟩
end Go.Proofs.Ytgdiaaoekkdibaa
namespace Go.Proofs.Ytgdiaaoekkdibaa
set_option linter.unusedVariables false
set_option linter.unusedSimpArgs false
open Go.RowKit
theorem isrel1_any (r : RelI) (b a : Int) (g : Nat) (w : World) (h0 : w.cell? ⟨g, 0, none⟩ = some (.int .i64 b)) (h1 : w.cell? ⟨g, 1, none⟩ = some (.int .u16 a)) (hg : g < w.heap.size) (B : Bool) (hB : RelI.at b a r = B) :
    Calls Try.prog 67 #[.agg #[.int .i64 r.bank, .int .u16 r.off], .pointer (some ⟨g, 0, none⟩)] w fun e w' => e = .returned (.bool B) ∧ Below w.heap.size w w' := by
  have hbel := below1 w (Obj.cells #[.int .i64 r.bank, .int .u16 r.off] 41)
  have z0 := (hbel.cell (p := ⟨g, 0, none⟩) hg).trans h0
  have z1 := (hbel.cell (p := ⟨g, 1, none⟩) hg).trans h1
  have HB := Lib.hid hB
  clear hB
  go_enter Try.func67, Try.ntmps67
  go_wp2
  all_goals
    go_ret
    refine ⟨?_, below1 _ _⟩
    rw [← HB.out]
    refine ret_bool ?_
    unfold RelI.at
    rw [Bool.eq_iff_iff]
    simp [*]
def firstIs (b a : Int) : List RelI → Nat → Int
  | [], _ => -1
  | r :: l, n => if RelI.at b a r = true then n else firstIs b a l (n + 1)
theorem firstIs_hit (l : List RelI) (b a : Int) (k : Nat) (r : RelI) (h : l[k]? = some r) (hh : RelI.at b a r = true) : firstIs b a (l.drop k) k = k := by
  rw [drop_at l k r h]; simp [firstIs, hh]
theorem firstIs_miss (l : List RelI) (b a : Int) (k : Nat) (r : RelI) (h : l[k]? = some r) (hh : RelI.at b a r = false) : firstIs b a (l.drop k) k = firstIs b a (l.drop (k + 1)) (k + 1) := by
  rw [drop_at l k r h]; simp [firstIs, hh]
theorem firstIs_end (l : List RelI) (b a : Int) : firstIs b a (l.drop l.length) l.length = -1 := by simp [firstIs]
theorem firstIs_any (b a : Int) (l : List RelI) : ∀ n, decide (0 ≤ firstIs b a l n) = isRel l b a := by
  induction l with
  | nil => intro n; rfl
  | cons r l ih =>
    intro n
    unfold firstIs isRel
    cases hr : RelI.at b a r
    · simp only [List.any_cons, hr, Bool.false_or]; exact ih (n + 1)
    · simp [List.any_cons, hr]
theorem indexr_any (p : Option Addr) (cap : Nat) (l : List RelI) (b a : Int) (g : Nat) (w : World) (hl : l.length ≤ maxLen) (ho : RelsAt w p l) (h0 : w.cell? ⟨g, 0, none⟩ = some (.int .i64 b)) (h1 : w.cell? ⟨g, 1, none⟩ = some (.int .u16 a)) (hg : g < w.heap.size) :
    Calls Try.prog 81 #[.slice p l.length cap, .func (.func 67) #[] #[.pointer (some ⟨g, 0, none⟩)]] w fun e w' => e = .returned (.int .i64 (firstIs b a l 0)) ∧ Below w.heap.size w w' := by
  unfold maxLen at hl
  have HO := Lib.hid ho
  clear ho
  go_enter Try.func81, Try.ntmps81
  go_wp2
  go_loopw [8] (fun i wr => ∃ k : Nat, k ≤ l.length ∧ i = .int .i64 k ∧ Below w.heap.size w wr ∧ firstIs b a l 0 = firstIs b a (l.drop k) k) (fun i _ => l.length - (intOf i).toNat)
  case atStart => exact ⟨0, Nat.zero_le _, rfl, Below.refl _ _, rfl⟩
  case round =>
    obtain ⟨k, hk, rfl, hB, hf⟩ := hrel
    have HF := Lib.hid hf
    have z0 := (hB.cell (p := ⟨g, 0, none⟩) hg).trans h0
    have z1 := (hB.cell (p := ⟨g, 1, none⟩) hg).trans h1
    have hg2 : g < wr.heap.size := by have := hB.size; omega
    clear hf
    by_cases hlt : k < l.length
    · obtain ⟨r, hok⟩ := at_some l k hlt
      obtain ⟨B, rfl, hBs, e0, e1, _⟩ := HO.out.kept hB k r hok
      have HK := Lib.hid hok
      clear hok
      cases hr : RelI.at b a r
      · have HM := Lib.hid (firstIs_miss l b a k r HK.out hr)
        go_wp2_with (go_at_call 67; refine (isrel1_any r b a g _ z0 z1 hg2 _ hr).mono ?_; rintro e w2 ⟨rfl, h2⟩)
        go_roundw
        case rel => exact ⟨k + 1, by omega, by go_num, below_next hB h2, by rw [HF.out, HM.out]⟩
        case measure => simp [intOf]; omega
      · have HH := Lib.hid (firstIs_hit l b a k r HK.out hr)
        go_wp2_with (go_at_call 67; refine (isrel1_any r b a g _ z0 z1 hg2 _ hr).mono ?_; rintro e w2 ⟨rfl, h2⟩)
        go_ret
        exact ⟨by rw [HF.out, HH.out]; rfl, below_next hB h2⟩
    · obtain rfl : k = l.length := by omega
      go_wp2
      go_ret
      exact ⟨by rw [HF.out, firstIs_end]; rfl, hB⟩
theorem containsr_any (p : Option Addr) (cap : Nat) (l : List RelI) (b a : Int) (g : Nat) (B : Bool) (w : World) (hl : l.length ≤ maxLen) (ho : RelsAt w p l) (h0 : w.cell? ⟨g, 0, none⟩ = some (.int .i64 b)) (h1 : w.cell? ⟨g, 1, none⟩ = some (.int .u16 a)) (hg : g < w.heap.size) (hB : isRel l b a = B) :
    Calls Try.prog 66 #[.slice p l.length cap, .func (.func 67) #[] #[.pointer (some ⟨g, 0, none⟩)]] w fun e w' => e = .returned (.bool B) ∧ Below w.heap.size w w' := by
  have hb : decide (0 ≤ firstIs b a l 0) = B := by rw [firstIs_any]; exact hB
  go_enter Try.func66, Try.ntmps66
  go_wp2_with (go_at_call 81; refine (indexr_any _ _ _ b a g _ hl ho h0 h1 hg).mono ?_; rintro e w' ⟨rfl, h2⟩)
  go_ret
  exact ⟨rfl, h2⟩
end Go.Proofs.Ytgdiaaoekkdibaa
namespace Go.Proofs.Ytgdiaaoekkdibaa
set_option linter.unusedVariables false
set_option linter.unusedSimpArgs false
open Go.RowKit
theorem isRel_out (l : List RelI) (b a : Int) (h : ∀ r ∈ l, OkU16 r.off) (ha : a < 0 ∨ 65536 ≤ a) : isRel l b a = false := by
  unfold isRel
  rw [List.any_eq_false]
  intro r hr
  obtain ⟨h0, h1⟩ := h r hr
  unfold RelI.at
  simp
  omega
theorem rels_ok {w : World} {p : Option Addr} {l : List RelI} (h : RelsAt w p l) : ∀ r ∈ l, OkU16 r.off := by
  intro r hr
  obtain ⟨k, hk⟩ := List.getElem?_of_mem hr
  obtain ⟨_, _, _, _, _, _, ok⟩ := h k r hk
  exact ok
set_option maxHeartbeats 2000000 in
theorem isreloc_any (p1 : Option Addr) (c1 : Nat) (p2 : Option Addr) (c2 : Nat) (p3 : Option Addr) (c3 : Nat) (I : Img) (b a : Int) (w : World) (hI : ImgAt w p1 p2 p3 I) (hb : OkI64 b) (ha : OkI64 a) :
    Calls Try.prog 32 #[imgV p1 c1 p2 c2 p3 c3 I, .int .i64 b, .int .i64 a] w fun e w' => e = .returned (.bool (isRel I.relocs b a)) ∧ Below w.heap.size w w' := by
  obtain ⟨banks, entry, vector, data, l⟩ := I
  have hout := isRel_out l b a (rels_ok hI.relocs)
  have HI := Lib.hid hI
  have L3 := Lib.hid hI.l3
  clear hI
  show Calls Try.prog 32 #[.agg #[.slice p1 banks.length c1, .int .u16 entry, .int .u16 vector, .slice p2 data.length c2, .slice p3 l.length c3], .int .i64 b, .int .i64 a] w fun e w' => e = .returned (.bool (isRel l b a)) ∧ Below w.heap.size w w'
  by_cases h0 : a < 0
  · have HX := Lib.hid (hout (.inl h0))
    clear hout
    go_enter Try.func32, Try.ntmps32
    go_wp2_with fail
    go_ret
    exact ⟨by rw [HX.out]; rfl, below_alloc (below1 _ _) _⟩
  by_cases h1 : 65536 ≤ a
  · have HX := Lib.hid (hout (.inr h1))
    clear hout
    go_enter Try.func32, Try.ntmps32
    go_wp2_with fail
    go_ret
    exact ⟨by rw [HX.out]; rfl, below_alloc (below1 _ _) _⟩
  have hw : IntKind.u16.wrap a = a := wrap_in _ (by omega) (by omega)
  clear hout
  go_enter Try.func32, Try.ntmps32
  go_wp2_with (go_at_call 66; refine (containsr_any _ _ l b a _ _ _ L3.out (HI.out.kept (below_alloc (below1 _ _) _)).relocs (by simp [go_sem]) (by simp [go_sem]) (by simp) rfl).mono ?_; rintro e w2 ⟨rfl, h2⟩)
  go_ret
  exact ⟨rfl, below_next (below_alloc (below1 _ _) _) h2⟩
end Go.Proofs.Ytgdiaaoekkdibaa
