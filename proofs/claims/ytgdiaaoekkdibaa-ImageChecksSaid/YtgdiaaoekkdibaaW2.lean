/- The contracts of Put and Get, of their reference, and of Near. -/
import Derived.Test.YtgdiaaoekkdibaaW1
import Derived.Lib.Hide
namespace Go.Proofs.Ytgdiaaoekkdibaa
set_option linter.unusedVariables false
open Go.RowKit
def putS (n : Int) : ByteArray := ⟨[UInt8.ofNat (n % 256).toNat, UInt8.ofNat (n / 256).toNat].toArray⟩
theorem put_conv (n : Int) (w : World) (n0 : 0 ≤ n) (n1 : n < 65536) :
    (convert 36 9 (.slice (some ⟨w.heap.size, 0, none⟩) 2 2)).run Try.prog (w.alloc (Obj.cells #[Value.int IntKind.u8 (n % 256), Value.int IntKind.u8 (n / 256)] 5)) =
      .ok (.string (putS n)) (w.alloc (Obj.cells #[Value.int IntKind.u8 (n % 256), Value.int IntKind.u8 (n / 256)] 5)) := by
  refine run_convert_bytes_back (P := Try.prog) _ 36 9 5 ⟨w.heap.size, 0, none⟩ 2 [UInt8.ofNat (n % 256).toNat, UInt8.ofNat (n / 256).toNat] Try.underlying36 Try.underlying5 Try.underlying9 ?_
  intro j hj
  have hj' : j < 2 := hj
  obtain rfl | rfl : j = 0 ∨ j = 1 := by omega
  · simp [Addr.add]; omega
  · simp [Addr.add]; omega
theorem put_any (n : Int) (w : World) (n0 : 0 ≤ n) (n1 : n < 65536) :
    Calls Try.prog 52 #[.int .u16 n] w fun e w' => e = .returned (.string (putS n)) ∧ Below w.heap.size w w' := by
  have hc := put_conv n w n0 n1
  go_enter Try.func52, Try.ntmps52
  go_wp2
  go_ret
  exact ⟨rfl, (Below.refl _ _).alloc (Nat.le_refl _) _⟩
theorem rput_any (n : Int) (w : World) (n0 : 0 ≤ n) (n1 : n < 65536) :
    Calls Try.prog 56 #[.int .u16 n] w fun e w' => e = .returned (.string (putS n)) ∧ Below w.heap.size w w' := by
  have hc := put_conv n w n0 n1
  have hd := div_in n 256 n0 n1 (by omega)
  go_enter Try.func56, Try.ntmps56
  go_wp2
  go_ret
  exact ⟨rfl, (Below.refl _ _).alloc (Nat.le_refl _) _⟩
theorem byteI_at (s : ByteArray) (k : Nat) (h : k < s.size) : ((s[k]).toNat : Int) = byteI s k := by
  unfold byteI; rw [List.getElem?_eq_getElem (by simpa using h)]; rfl
theorem byteI_past (s : ByteArray) (k : Nat) (h : s.size ≤ k) : byteI s k = 0 := by
  unfold byteI; rw [List.getElem?_eq_none (by simpa using h)]; rfl
/-- The word of the first two bytes. -/
def getI (s : ByteArray) : Int := byteI s 0 + byteI s 1 * 256
theorem rget_any (s : ByteArray) (w : World) (hs : s.size ≤ maxLen) :
    Calls Try.prog 39 #[.string s] w fun e w' => e = .returned (.int .u16 (getI s)) ∧ w = w' := by
  unfold maxLen at hs
  have b0 := byteI_bd s 0
  have b1 := byteI_bd s 1
  have w0 : IntKind.u16.wrap (byteI s 0) = byteI s 0 := wrap_in _ (by omega) (by omega)
  have w1 : IntKind.u16.wrap (byteI s 1) = byteI s 1 := wrap_in _ (by omega) (by omega)
  have w2 : IntKind.u16.wrap (256 * byteI s 1) = 256 * byteI s 1 := wrap_in _ (by omega) (by omega)
  have w3 : IntKind.u16.wrap (256 * byteI s 1 + byteI s 0) = 256 * byteI s 1 + byteI s 0 := wrap_in _ (by omega) (by omega)
  by_cases h1 : 1 < s.size
  · have a0 := byteI_at s 0 (by omega)
    have a1 := byteI_at s 1 h1
    go_enter Try.func39, Try.ntmps39
    go_wp2
    go_ret
    refine ⟨ret_int ?_, rfl⟩
    unfold getI; show 256 * byteI s 1 + byteI s 0 = _; omega
  · have p1 := Lib.hid (byteI_past s 1 (by omega))
    by_cases h0 : 0 < s.size
    · have a0 := byteI_at s 0 (by omega)
      go_enter Try.func39, Try.ntmps39
      go_wp2
      go_ret
      refine ⟨ret_int ?_, rfl⟩
      unfold getI; rw [p1.out]; show byteI s 0 = _; omega
    · have p0 := Lib.hid (byteI_past s 0 (by omega))
      go_enter Try.func39, Try.ntmps39
      go_wp2
      go_ret
      refine ⟨ret_int ?_, rfl⟩
      unfold getI; rw [p1.out, p0.out]; rfl

def partI (s : ByteArray) (k : Nat) : Int := if k = 0 then 0 else if k = 1 then byteI s 0 else byteI s 0 + byteI s 1 * 256
theorem partI_end (s : ByteArray) (h : s.size ≤ 2) : partI s s.size = getI s := by
  have p0 := byteI_past s 0
  have p1 := byteI_past s 1
  unfold partI getI
  split
  · rw [p0 (by omega), p1 (by omega)]; rfl
  · split
    · rw [p1 (by omega)]; omega
    · rfl
theorem byteI_extract (s : ByteArray) (k : Nat) (h : k < 2) : byteI (s.extract 0 2) k = byteI s k := by
  unfold byteI
  have : (s.extract 0 2).data.toList = s.data.toList.take 2 := by simp [ByteArray.data_extract]
  rw [this, List.getElem?_take_of_lt h]
theorem or_bytes (a b : Int) (a0 : 0 ≤ a) (a1 : a < 256) (b0 : 0 ≤ b) (b1 : b < 256) : bits .or .u16 a (b * 256) = a + b * 256 := by
  rw [u16_or a (b * 256) a0 (by omega) (by omega) (by omega), Nat.or_comm, nat_join 8 _ _ (by simp only [Nat.reducePow]; omega) (by simp only [Nat.reducePow]; omega)]
  omega
theorem or_zero (a : Int) (a0 : 0 ≤ a) (a1 : a < 256) : bits .or .u16 0 a = a := by
  rw [u16_or 0 a (by omega) (by omega) a0 (by omega), show (0 : Int).toNat = 0 from rfl, Nat.zero_or]; omega
set_option maxRecDepth 4000 in
set_option maxHeartbeats 400000 in
theorem get_any (s : ByteArray) (w : World) (hs : s.size ≤ maxLen) :
    Calls Try.prog 62 #[.string s] w fun e w' => e = .returned (.int .u16 (getI s)) ∧ Below w.heap.size w w' := by
  unfold maxLen at hs
  have b0 := byteI_bd s 0
  have b1 := byteI_bd s 1
  have o0 := or_zero (byteI s 0) b0.1 b0.2
  have o1 := or_bytes (byteI s 0) (byteI s 1) b0.1 b0.2 b1.1 b1.2
  have w0 : IntKind.u16.wrap (byteI s 0) = byteI s 0 := wrap_in _ (by omega) (by omega)
  have w1 : IntKind.u16.wrap (byteI s 1) = byteI s 1 := wrap_in _ (by omega) (by omega)
  have w2 : IntKind.u16.wrap (byteI s 1 * 256) = byteI s 1 * 256 := wrap_in _ (by omega) (by omega)
  by_cases h2 : 2 < s.size
  · obtain ⟨W1, cap, hconv, hcell, hbel⟩ := conv_bytes (P := Try.prog) w 9 36 5 (s.extract 0 2) Try.underlying9 Try.underlying36 Try.underlying5
    have hsz : (s.extract 0 2).size = 2 := by rw [ByteArray.size_extract]; omega
    rw [hsz] at hconv hcell
    go_enter Try.func62, Try.ntmps62
    go_wp2
    go_loop [3, 13] (fun r i => ∃ k : Nat, k ≤ 2 ∧ i = .int .i64 k ∧ r = .int .u16 (partI s k)) (fun _ i => 2 - (intOf i).toNat)
    case atStart => exact ⟨0, Nat.zero_le _, rfl, rfl⟩
    case round =>
      obtain ⟨k, hk, rfl, rfl⟩ := hrel
      by_cases hlt : k < 2
      · have hc := hcell k (by omega)
        rw [byteI_extract s k hlt] at hc
        clear hcell
        rcases (show k = 0 ∨ k = 1 by omega) with rfl | rfl
        · have p0 : partI s 0 = 0 := rfl
          have p1 : partI s 1 = byteI s 0 := rfl
          go_wp2
          go_round
          case rel => exact ⟨1, by omega, rfl, by rw [p1]⟩
          case measure => simp [intOf] <;> omega
        · have p1 : partI s 1 = byteI s 0 := rfl
          have p2 : partI s 2 = byteI s 0 + byteI s 1 * 256 := rfl
          go_wp2
          go_round
          case rel => exact ⟨2, by omega, rfl, by rw [p2]⟩
          case measure => simp [intOf] <;> omega
      · obtain rfl : k = 2 := by omega
        go_wp2
        go_ret
        refine ⟨ret_int ?_, hbel⟩
        rfl
  · obtain ⟨W1, cap, hconv, hcell, hbel⟩ := conv_bytes (P := Try.prog) w 9 36 5 s Try.underlying9 Try.underlying36 Try.underlying5
    go_enter Try.func62, Try.ntmps62
    go_wp2
    go_loop [3, 13] (fun r i => ∃ k : Nat, k ≤ s.size ∧ i = .int .i64 k ∧ r = .int .u16 (partI s k)) (fun _ i => s.size - (intOf i).toNat)
    case atStart => exact ⟨0, Nat.zero_le _, rfl, rfl⟩
    case round =>
      obtain ⟨k, hk, rfl, rfl⟩ := hrel
      by_cases hlt : k < s.size
      · have hc := hcell k (by omega)
        rcases (show k = 0 ∨ k = 1 by omega) with rfl | rfl
        · have p0 : partI s 0 = 0 := rfl
          have p1 : partI s 1 = byteI s 0 := rfl
          go_wp2
          go_round
          case rel => exact ⟨1, by omega, rfl, by rw [p1]⟩
          case measure => simp [intOf] <;> omega
        · have p1 : partI s 1 = byteI s 0 := rfl
          have p2 : partI s 2 = byteI s 0 + byteI s 1 * 256 := rfl
          go_wp2
          go_round
          case rel => exact ⟨2, by omega, rfl, by rw [p2]⟩
          case measure => simp [intOf] <;> omega
      · obtain rfl : k = s.size := by omega
        go_wp2
        go_ret
        refine ⟨ret_int ?_, hbel⟩
        exact partI_end s (by omega)
end Go.Proofs.Ytgdiaaoekkdibaa
