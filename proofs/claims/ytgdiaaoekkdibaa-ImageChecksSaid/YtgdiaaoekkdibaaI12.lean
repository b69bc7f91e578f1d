/- The contract of the reference's IsReloc. -/
import Derived.Test.YtgdiaaoekkdibaaI8
namespace Go.Proofs.Ytgdiaaoekkdibaa
set_option linter.unusedVariables false
set_option linter.unusedSimpArgs false
open Go.RowKit
def RelI.at (b a : Int) (r : RelI) : Bool := decide (r.bank = b ∧ r.off = a)
def isRel (l : List RelI) (b a : Int) : Bool := l.any (RelI.at b a)
theorem isRel_hit (l : List RelI) (b a : Int) (k : Nat) (r : RelI) (h : l[k]? = some r) (h1 : r.bank = b) (h2 : r.off = a) : isRel l b a = true := by
  unfold isRel; rw [List.any_eq_true]; exact ⟨r, List.mem_of_getElem? h, by unfold RelI.at; exact decide_eq_true ⟨h1, h2⟩⟩
theorem isRel_miss (l : List RelI) (b a : Int) (k : Nat) (r : RelI) (h : l[k]? = some r) (hh : ¬ (r.bank = b ∧ r.off = a)) : isRel (l.drop k) b a = isRel (l.drop (k + 1)) b a := by
  rw [drop_at l k r h]; unfold isRel RelI.at; simp [hh]
set_option maxHeartbeats 2000000 in
theorem risreloc_any (p1 : Option Addr) (c1 : Nat) (p2 : Option Addr) (c2 : Nat) (p3 : Option Addr) (c3 : Nat) (I : Img) (b a : Int) (w : World) (hI : ImgAt w p1 p2 p3 I) (hb : OkI64 b) (ha : OkI64 a) :
    Calls Try.prog 33 #[imgV p1 c1 p2 c2 p3 c3 I, .int .i64 b, .int .i64 a] w fun e w' => e = .returned (.bool (isRel I.relocs b a)) ∧ Below w.heap.size w w' := by
  obtain ⟨banks, entry, vector, data, l⟩ := I
  have HR := Lib.hid (hI.kept (below1 w (Obj.cells #[.slice p1 banks.length c1, .int .u16 entry, .int .u16 vector, .slice p2 data.length c2, .slice p3 l.length c3] 30))).relocs
  have l3 := hI.l3
  unfold maxLen at l3
  dsimp only at l3
  have y4 : (w.alloc (Obj.cells #[.slice p1 banks.length c1, .int .u16 entry, .int .u16 vector, .slice p2 data.length c2, .slice p3 l.length c3] 30)).cell? ⟨w.heap.size, 4, none⟩ = some (.slice p3 l.length c3) := by simp
  have HW1 := Lib.hid (below1 w (Obj.cells #[.slice p1 banks.length c1, .int .u16 entry, .int .u16 vector, .slice p2 data.length c2, .slice p3 l.length c3] 30))
  clear hI
  show Calls Try.prog 33 #[.agg #[.slice p1 banks.length c1, .int .u16 entry, .int .u16 vector, .slice p2 data.length c2, .slice p3 l.length c3], .int .i64 b, .int .i64 a] w fun e w' => e = .returned (.bool (isRel l b a)) ∧ Below w.heap.size w w'
  go_enter Try.func33, Try.ntmps33
  go_wp2_with fail
  generalize w.alloc (Obj.cells #[Value.slice p1 banks.length c1, Value.int IntKind.u16 entry, Value.int IntKind.u16 vector, Value.slice p2 data.length c2, Value.slice p3 l.length c3] 30) = W1 at *
  go_loop [7] (fun i => ∃ k : Nat, k ≤ l.length ∧ i = .int .i64 k ∧ isRel l b a = isRel (l.drop k) b a) (fun i => l.length - (intOf i).toNat)
  case atStart => exact ⟨0, Nat.zero_le _, rfl, rfl⟩
  case round =>
    obtain ⟨k, hk, rfl, hf⟩ := hrel
    have HF := Lib.hid hf
    clear hf
    by_cases hlt : k < l.length
    · obtain ⟨r, hok⟩ := at_some l k hlt
      obtain ⟨B, rfl, hBs, e0, e1, ⟨o0, o1⟩, ⟨o2, o3⟩⟩ := HR.out k r hok
      have HK := Lib.hid hok
      clear hok
      have hw : IntKind.i64.wrap r.off = r.off := IntWalk.i64_in _ (by omega)
      by_cases h1 : r.bank = b
      · have h1b : (r.bank == b) = true := by simpa using h1
        by_cases h2 : r.off = a
        · have h2b : (r.off == a) = true := by simpa using h2
          have HH := Lib.hid (isRel_hit l b a k r HK.out h1 h2)
          clear h1 h2
          go_wp2_with fail
          go_ret
          exact ⟨by rw [HH.out]; rfl, HW1.out⟩
        · have h2b : (r.off == a) = false := by simpa using h2
          have HM := Lib.hid (isRel_miss l b a k r HK.out (fun h => h2 h.2))
          clear h1 h2
          go_wp2_with fail
          go_round
          case rel => exact ⟨k + 1, by omega, by go_num, by rw [HF.out, HM.out]⟩
          case measure => simp [intOf]; omega
      · have h1b : (r.bank == b) = false := by simpa using h1
        have HM := Lib.hid (isRel_miss l b a k r HK.out (fun h => h1 h.1))
        clear h1
        go_wp2_with fail
        go_round
        case rel => exact ⟨k + 1, by omega, by go_num, by rw [HF.out, HM.out]⟩
        case measure => simp [intOf]; omega
    · obtain rfl : k = l.length := by omega
      go_wp2_with fail
      go_ret
      exact ⟨by rw [HF.out]; simp [isRel], HW1.out⟩
end Go.Proofs.Ytgdiaaoekkdibaa
