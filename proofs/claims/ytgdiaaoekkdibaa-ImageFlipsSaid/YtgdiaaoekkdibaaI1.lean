/- Contracts: end, ObjectAt and its reference. -/
import Derived.Test.YtgdiaaoekkdibaaProg
import Derived.Test.YtgdiaaoekkdibaaP0
import Derived.BigQuiet
import Derived.Deep.QuietTactic
namespace Go.Proofs.Ytgdiaaoekkdibaa
set_option linter.unusedVariables false
open Go.RowKit
theorem end_any (b a s : Int) (w : World) (ha : OkU16 a) (hs : OkU16 s) :
    Calls Try.prog 65 #[.agg #[.int .i64 b, .int .u16 a, .int .u16 s]] w fun e w' => e = .returned (.int .i64 (a + s)) ∧ w.alloc (.cells #[.int .i64 b, .int .u16 a, .int .u16 s] 39) = w' := by
  obtain ⟨a0, a1⟩ := ha
  obtain ⟨s0, s1⟩ := hs
  go_enter Try.func65, Try.ntmps65
  go_wp2
  go_ret
  exact ⟨rfl, rfl⟩
set_option maxHeartbeats 1000000 in
theorem objectAt_any (p : Option Addr) (cap : Nat) (l : List ObjI) (bank a : Int) (w : World) (hl : l.length ≤ maxLen) (ho : ObjsAt w p l) (hb : OkI64 bank) (ha : OkU16 a) :
    Calls Try.prog 30 #[.slice p l.length cap, .int .i64 bank, .int .u16 a] w fun e w' => e = .returned (.tuple #[.int .i64 (objFind bank a l 0).1, .int .u16 (objFind bank a l 0).2.1, .bool (objFind bank a l 0).2.2]) ∧ Below w.heap.size w w' := by
  obtain ⟨b0, b1⟩ := hb
  obtain ⟨a0, a1⟩ := ha
  unfold maxLen at hl
  have HO := Lib.hid ho
  clear ho
  go_enter Try.func30, Try.ntmps30
  go_wp2
  go_loopw [13] (fun i wr => ∃ k : Nat, k ≤ l.length ∧ i = .int .i64 k ∧ Below w.heap.size w wr ∧ objFind bank a l 0 = objFind bank a (l.drop k) k) (fun i _ => l.length - (intOf i).toNat)
  case atStart => exact ⟨0, Nat.zero_le _, rfl, Below.refl _ _, rfl⟩
  case round =>
    obtain ⟨k, hk, rfl, hB, hf⟩ := hrel
    have HF := Lib.hid hf
    clear hf
    by_cases hlt : k < l.length
    · obtain ⟨o, hok⟩ := at_some l k hlt
      obtain ⟨B, rfl, hBs, c0, c1, c2, ⟨o0, o1⟩, ⟨o2, o3⟩, ⟨o4, o5⟩⟩ := HO.out.kept hB k o hok
      have HK := Lib.hid hok
      clear hok HO
      by_cases d0 : o.bank = bank
      · by_cases d1 : o.addr ≤ a
        · by_cases d2 : a < o.addr + o.size
          · have hh : o.has bank a = true := by unfold ObjI.has; rw [decide_eq_true]; exact ⟨d0, d1, d2⟩
            have HH := Lib.hid (objFind_hit bank a l k o HK.out hh)
            clear hh
            have hw : IntKind.u16.wrap (a - o.addr) = a - o.addr := wrap_in _ (by omega) (by omega)
            go_wp2_with (go_at_call 65; refine (end_any _ _ _ _ ⟨by omega, by omega⟩ ⟨by omega, by omega⟩).mono ?_; rintro e w' ⟨rfl, rfl⟩)
            go_quiet (fail)
            go_wp2
            go_ret3
            refine ⟨?_, below_drewN (below_alloc (below_alloc hB _) _) _⟩
            rw [HF.out, HH.out]; rfl
          · have hm : o.has bank a = false := by unfold ObjI.has; rw [decide_eq_false]; omega
            have HM := Lib.hid (objFind_miss bank a l k o HK.out hm)
            clear hm
            go_wp2_with (go_at_call 65; refine (end_any _ _ _ _ ⟨by omega, by omega⟩ ⟨by omega, by omega⟩).mono ?_; rintro e w' ⟨rfl, rfl⟩)
            go_roundw
            case rel => exact ⟨k + 1, by omega, by go_num, below_alloc (below_alloc hB _) _, by rw [HF.out, HM.out]⟩
            case measure => simp [intOf]; omega
        · have hm : o.has bank a = false := by unfold ObjI.has; rw [decide_eq_false]; omega
          have HM := Lib.hid (objFind_miss bank a l k o HK.out hm)
          clear hm
          go_wp2
          go_roundw
          case rel => exact ⟨k + 1, by omega, by go_num, below_alloc hB _, by rw [HF.out, HM.out]⟩
          case measure => simp [intOf]; omega
      · have hm : o.has bank a = false := by unfold ObjI.has; rw [decide_eq_false]; omega
        have d0' : (o.bank == bank) = false := by simpa using d0
        have HM := Lib.hid (objFind_miss bank a l k o HK.out hm)
        clear hm
        go_wp2
        go_roundw
        case rel => exact ⟨k + 1, by omega, by go_num, below_alloc hB _, by rw [HF.out, HM.out]⟩
        case measure => simp [intOf]; omega
    · obtain rfl : k = l.length := by omega
      go_wp2
      go_ret3
      refine ⟨?_, hB⟩
      rw [HF.out, objFind_end]; rfl
set_option maxHeartbeats 1000000 in
theorem robjectAt_any (p : Option Addr) (cap : Nat) (l : List ObjI) (bank a : Int) (w : World) (hl : l.length ≤ maxLen) (ho : ObjsAt w p l) (hb : OkI64 bank) (ha : OkU16 a) :
    Calls Try.prog 31 #[.slice p l.length cap, .int .i64 bank, .int .u16 a] w fun e w' => e = .returned (.tuple #[.int .i64 (objFind bank a l 0).1, .int .u16 (objFind bank a l 0).2.1, .bool (objFind bank a l 0).2.2]) ∧ Below w.heap.size w w' := by
  obtain ⟨b0, b1⟩ := hb
  obtain ⟨a0, a1⟩ := ha
  unfold maxLen at hl
  have HO := Lib.hid ho
  clear ho
  go_enter Try.func31, Try.ntmps31
  go_wp2
  go_loopw [9] (fun i wr => ∃ k : Nat, k ≤ l.length ∧ i = .int .i64 k ∧ Below w.heap.size w wr ∧ objFind bank a l 0 = objFind bank a (l.drop k) k) (fun i _ => l.length - (intOf i).toNat)
  case atStart => exact ⟨0, Nat.zero_le _, rfl, Below.refl _ _, rfl⟩
  case round =>
    obtain ⟨k, hk, rfl, hB, hf⟩ := hrel
    have HF := Lib.hid hf
    clear hf
    by_cases hlt : k < l.length
    · obtain ⟨o, hok⟩ := at_some l k hlt
      obtain ⟨B, rfl, hBs, c0, c1, c2, ⟨o0, o1⟩, ⟨o2, o3⟩, ⟨o4, o5⟩⟩ := HO.out.kept hB k o hok
      have HK := Lib.hid hok
      clear hok HO
      by_cases d0 : o.bank = bank
      · by_cases d1 : o.addr ≤ a
        · by_cases d2 : a < o.addr + o.size
          · have hh : o.has bank a = true := by unfold ObjI.has; rw [decide_eq_true]; exact ⟨d0, d1, d2⟩
            have HH := Lib.hid (objFind_hit bank a l k o HK.out hh)
            clear hh
            have hw : IntKind.u16.wrap (a - o.addr) = a - o.addr := wrap_in _ (by omega) (by omega)
            go_wp2
            go_quiet (fail)
            go_wp2
            go_ret3
            refine ⟨?_, below_drewN (below_alloc hB _) _⟩
            rw [HF.out, HH.out]; rfl
          · have hm : o.has bank a = false := by unfold ObjI.has; rw [decide_eq_false]; omega
            have HM := Lib.hid (objFind_miss bank a l k o HK.out hm)
            clear hm
            go_wp2
            go_roundw
            case rel => exact ⟨k + 1, by omega, by go_num, below_alloc hB _, by rw [HF.out, HM.out]⟩
            case measure => simp [intOf]; omega
        · have hm : o.has bank a = false := by unfold ObjI.has; rw [decide_eq_false]; omega
          have HM := Lib.hid (objFind_miss bank a l k o HK.out hm)
          clear hm
          go_wp2
          go_roundw
          case rel => exact ⟨k + 1, by omega, by go_num, below_alloc hB _, by rw [HF.out, HM.out]⟩
          case measure => simp [intOf]; omega
      · have hm : o.has bank a = false := by unfold ObjI.has; rw [decide_eq_false]; omega
        have d0' : (o.bank == bank) = false := by simpa using d0
        have HM := Lib.hid (objFind_miss bank a l k o HK.out hm)
        clear hm
        go_wp2
        go_roundw
        case rel => exact ⟨k + 1, by omega, by go_num, below_alloc hB _, by rw [HF.out, HM.out]⟩
        case measure => simp [intOf]; omega
    · obtain rfl : k = l.length := by omega
      go_wp2
      go_ret3
      refine ⟨?_, hB⟩
      rw [HF.out, objFind_end]; rfl
end Go.Proofs.Ytgdiaaoekkdibaa
