/- The contracts of Sum and of the reference's Sum. -/
import Derived.Test.YtgdiaaoekkdibaaProg
import Derived.Test.YtgdiaaoekkdibaaP0
import Derived.Lib.Hide
namespace Go.Proofs.Ytgdiaaoekkdibaa
set_option linter.unusedVariables false
open Go.RowKit

/-- Byte j of a string, as a number. -/
def byteI (s : ByteArray) (j : Nat) : Int := ((s.data.toList[j]?.getD 0).toNat : Int)
theorem byteI_bd (s : ByteArray) (j : Nat) : 0 ≤ byteI s j ∧ byteI s j < 256 := by
  unfold byteI; have := (s.data.toList[j]?.getD 0).toNat_lt; omega
theorem bytesRow_below (s : ByteArray) (cap j : Nat) (hj : j < s.size) : (bytesRow s cap)[j]? = some (.int .u8 (byteI s j)) := by
  rw [bytesRow_at s cap j hj]
  simp [byteI]
  rw [Array.getElem?_eq_getElem hj]; rfl
/-- A conversion to bytes: a new row of cells; nothing else turns. -/
theorem conv_bytes {P : Program} (w : World) (src dst e : TypeId) (s : ByteArray) (hs : P.underlying src = some .string) (hd : P.underlying dst = some (.slice e)) (he : P.underlying e = some (.int .u8)) :
    ∃ W1 cap, (convert src dst (.string s)).run P w = .ok (.slice (some ⟨w.heap.size, 0, none⟩) s.size cap) W1 ∧
      (∀ j, j < s.size → W1.cell? ⟨w.heap.size, j, none⟩ = some (.int .u8 (byteI s j))) ∧ Below w.heap.size w W1 := by
  refine ⟨_, _, run_bytes_of_string w src dst e s hs hd he, fun j hj => ?_, ((Below.refl _ _).drew).alloc (Nat.le_refl _) _⟩
  exact (World.cell?_alloc_mark w.drew _ e _ j).trans (bytesRow_below s _ j hj)

/-- One step of the sum, and k of them. -/
def cbI (r : Int) : Int := if 32768 ≤ r then bits .xor .u16 (r * 2 % 65536) 4129 else r * 2 % 65536
def cbN (r : Int) : Nat → Int
  | 0 => r
  | k + 1 => cbI (cbN r k)
def crcI (r b : Int) : Int := cbN (bits .xor .u16 r (b * 256)) 8
/-- The sum of the first k bytes. -/
def sumI (s : ByteArray) : Nat → Int
  | 0 => 65535
  | k + 1 => crcI (sumI s k) (byteI s k)
theorem xor_bd (a b : Int) (a0 : 0 ≤ a) (a1 : a < 65536) (b0 : 0 ≤ b) (b1 : b < 65536) : 0 ≤ bits .xor .u16 a b ∧ bits .xor .u16 a b < 65536 := by
  rw [u16_xor a b a0 a1 b0 b1]
  have : a.toNat ^^^ b.toNat < 2 ^ 16 := Nat.xor_lt_two_pow (by simp only [Nat.reducePow]; omega) (by simp only [Nat.reducePow]; omega)
  simp only [Nat.reducePow] at this
  omega
theorem cbI_bd (r : Int) (h0 : 0 ≤ r) (h1 : r < 65536) : 0 ≤ cbI r ∧ cbI r < 65536 := by
  unfold cbI; split
  · exact xor_bd _ _ (by omega) (by omega) (by omega) (by omega)
  · omega
theorem cbN_bd (r : Int) (h0 : 0 ≤ r) (h1 : r < 65536) : ∀ k, 0 ≤ cbN r k ∧ cbN r k < 65536
  | 0 => ⟨h0, h1⟩
  | k + 1 => by have := cbN_bd r h0 h1 k; exact cbI_bd _ this.1 this.2
theorem crcI_bd (r b : Int) (h0 : 0 ≤ r) (h1 : r < 65536) (b0 : 0 ≤ b) (b1 : b < 256) : 0 ≤ crcI r b ∧ crcI r b < 65536 := by
  have := xor_bd r (b * 256) h0 h1 (by omega) (by omega)
  exact cbN_bd _ this.1 this.2 8
theorem sumI_bd (s : ByteArray) : ∀ k, 0 ≤ sumI s k ∧ sumI s k < 65536
  | 0 => ⟨by simp [sumI], by simp [sumI]⟩
  | k + 1 => by have := sumI_bd s k; have hb := byteI_bd s k; exact crcI_bd _ _ this.1 this.2 hb.1 hb.2

set_option maxRecDepth 4000 in
set_option maxHeartbeats 400000 in
theorem sum_any (s : ByteArray) (w : World) (hs : s.size ≤ maxLen) :
    Calls Try.prog 54 #[.string s] w fun e w' => e = .returned (.int .u16 (sumI s s.size)) ∧ Below w.heap.size w w' := by
  obtain ⟨W1, cap, hconv, hcell, hbel⟩ := conv_bytes (P := Try.prog) w 9 36 5 s Try.underlying9 Try.underlying36 Try.underlying5
  unfold maxLen at hs
  go_enter Try.func54, Try.ntmps54
  go_wp2
  go_loop [3, 10] (fun r i => ∃ k : Nat, k ≤ s.size ∧ i = .int .i64 k ∧ r = .int .u16 (sumI s k)) (fun _ i => s.size - (intOf i).toNat)
  case atStart => exact ⟨0, Nat.zero_le _, rfl, rfl⟩
  case round =>
    obtain ⟨k, hk, rfl, rfl⟩ := hrel
    have hb := sumI_bd s k
    have hy := byteI_bd s k
    by_cases hlt : k < s.size
    · have hc := hcell k hlt
      have hx := xor_bd (sumI s k) (byteI s k * 256) hb.1 hb.2 (by omega) (by omega)
      go_wp2
      go_loop [3, 19] (fun r i => ∃ j : Nat, j ≤ 8 ∧ i = .int .i64 j ∧ r = .int .u16 (cbN (bits .xor .u16 (sumI s k) (byteI s k * 256)) j)) (fun _ i => 8 - (intOf i).toNat)
      case atStart => exact ⟨0, Nat.zero_le _, rfl, rfl⟩
      case round =>
        obtain ⟨j, hj, rfl, rfl⟩ := hrel
        have hr := cbN_bd (bits .xor .u16 (sumI s k) (byteI s k * 256)) hx.1 hx.2 j
        have hS : cbN (bits .xor .u16 (sumI s k) (byteI s k * 256)) (j + 1) = cbI (cbN (bits .xor .u16 (sumI s k) (byteI s k * 256)) j) := rfl
        have HE := Lib.hid hS; clear hS
        by_cases hlt : j < 8
        · generalize hR : cbN (bits .xor .u16 (sumI s k) (byteI s k * 256)) j = R at *
          clear hR
          have hhi := high_bit R hr.1 hr.2
          clear hcell hc hconv
          have hw : IntKind.u16.wrap (R * 2) = R * 2 % 65536 := by rw [IntKind.wrap_u16]
          by_cases hR : 32768 ≤ R
          · rw [if_pos hR] at hhi
            go_wp2
            go_round
            case rel => exact ⟨j + 1, by omega, by go_num, by rw [HE.out]; unfold cbI; rw [if_pos hR]⟩
            case measure => simp [intOf]; omega
          · rw [if_neg hR] at hhi
            go_wp2
            go_round
            case rel => exact ⟨j + 1, by omega, by go_num, by rw [HE.out]; unfold cbI; rw [if_neg (by omega)]⟩
            case measure => simp [intOf]; omega
        · obtain rfl : j = 8 := by omega
          go_wp2
          go_round
          case rel => exact ⟨k + 1, by omega, by go_num, rfl⟩
          case measure => simp [intOf]; omega
    · obtain rfl : k = s.size := by omega
      go_wp2
      go_ret
      exact ⟨rfl, hbel⟩

set_option maxHeartbeats 400000 in
theorem rsum_any (s : ByteArray) (w : World) (hs : s.size ≤ maxLen) :
    Calls Try.prog 57 #[.string s] w fun e w' => e = .returned (.int .u16 (sumI s s.size)) ∧ w = w' := by
  unfold maxLen at hs
  go_enter Try.func57, Try.ntmps57
  go_wp2
  go_loop [3, 4] (fun r i => ∃ k : Nat, k ≤ s.size ∧ i = .int .i64 k ∧ r = .int .u16 (sumI s k)) (fun _ i => s.size - (intOf i).toNat)
  case atStart => exact ⟨0, Nat.zero_le _, rfl, rfl⟩
  case round =>
    obtain ⟨k, hk, rfl, rfl⟩ := hrel
    have hb := sumI_bd s k
    have hy := byteI_bd s k
    by_cases hlt : k < s.size
    · have hx := xor_bd (sumI s k) (byteI s k * 256) hb.1 hb.2 (by omega) (by omega)
      have hB : ((s[k]).toNat : Int) = byteI s k := by
        unfold byteI; rw [List.getElem?_eq_getElem (by simpa using hlt)]; rfl
      have hw1 : IntKind.u16.wrap (byteI s k) = byteI s k := wrap_in _ (by omega) (by omega)
      have hw2 : IntKind.u16.wrap (256 * byteI s k) = byteI s k * 256 := by rw [IntKind.wrap_u16]; omega
      go_wp2
      go_loop [3, 5] (fun r i => ∃ j : Nat, j ≤ 8 ∧ i = .int .i64 j ∧ r = .int .u16 (cbN (bits .xor .u16 (sumI s k) (byteI s k * 256)) j)) (fun _ i => 8 - (intOf i).toNat)
      case atStart => exact ⟨0, Nat.zero_le _, rfl, rfl⟩
      case round =>
        obtain ⟨j, hj, rfl, rfl⟩ := hrel
        clear hB hw1 hw2
        have hr := cbN_bd (bits .xor .u16 (sumI s k) (byteI s k * 256)) hx.1 hx.2 j
        have hS : cbN (bits .xor .u16 (sumI s k) (byteI s k * 256)) (j + 1) = cbI (cbN (bits .xor .u16 (sumI s k) (byteI s k * 256)) j) := rfl
        have HE := Lib.hid hS; clear hS
        by_cases hlt : j < 8
        · generalize hR : cbN (bits .xor .u16 (sumI s k) (byteI s k * 256)) j = R at *
          clear hR
          have hw : IntKind.u16.wrap (R * 2) = R * 2 % 65536 := by rw [IntKind.wrap_u16]
          by_cases hR : 32768 ≤ R
          · go_wp2
            go_round
            case rel => exact ⟨j + 1, by omega, by go_num, by rw [HE.out]; unfold cbI; rw [if_pos hR]⟩
            case measure => simp [intOf]; omega
          · go_wp2
            go_round
            case rel => exact ⟨j + 1, by omega, by go_num, by rw [HE.out]; unfold cbI; rw [if_neg (by omega)]⟩
            case measure => simp [intOf]; omega
        · obtain rfl : j = 8 := by omega
          go_wp2
          go_round
          case rel => exact ⟨k + 1, by omega, by go_num, rfl⟩
          case measure => simp [intOf]; omega
    · obtain rfl : k = s.size := by omega
      go_wp2
      go_ret
      exact ⟨rfl, rfl⟩
end Go.Proofs.Ytgdiaaoekkdibaa
namespace Go.Proofs.Ytgdiaaoekkdibaa
set_option linter.unusedVariables false
open Go.RowKit
def putS (n : Int) : ByteArray := ⟨[UInt8.ofNat (n % 256).toNat, UInt8.ofNat (n / 256).toNat].toArray⟩
theorem put_conv (n : Int) (w : World) (n0 : 0 ≤ n) (n1 : n < 65536) :
    (convert 36 9 (.slice (some ⟨w.heap.size, 0, none⟩) 2 2)).run Try.prog (w.alloc (Obj.cells #[Value.int IntKind.u8 (n % 256), Value.int IntKind.u8 (n / 256)] 5)) =
      .ok (.string (putS n)) (w.alloc (Obj.cells #[Value.int IntKind.u8 (n % 256), Value.int IntKind.u8 (n / 256)] 5)) := by
  refine run_convert_bytes_back (P := Try.prog) _ 36 9 5 ⟨w.heap.size, 0, none⟩ 2 [UInt8.ofNat (n % 256).toNat, UInt8.ofNat (n / 256).toNat] Try.underlying36 Try.underlying5 Try.underlying9 ?_
  intro j hj
  have hj' : j < 2 := hj
  obtain rfl | rfl : j = 0 ∨ j = 1 := by omega
  · simp [Addr.add]; omega
  · simp [Addr.add]; omega
theorem put_any (n : Int) (w : World) (n0 : 0 ≤ n) (n1 : n < 65536) :
    Calls Try.prog 52 #[.int .u16 n] w fun e w' => e = .returned (.string (putS n)) ∧ Below w.heap.size w w' := by
  have hc := put_conv n w n0 n1
  go_enter Try.func52, Try.ntmps52
  go_wp2
  go_ret
  exact ⟨rfl, (Below.refl _ _).alloc (Nat.le_refl _) _⟩
theorem rput_any (n : Int) (w : World) (n0 : 0 ≤ n) (n1 : n < 65536) :
    Calls Try.prog 56 #[.int .u16 n] w fun e w' => e = .returned (.string (putS n)) ∧ Below w.heap.size w w' := by
  have hc := put_conv n w n0 n1
  have hd := div_in n 256 n0 n1 (by omega)
  go_enter Try.func56, Try.ntmps56
  go_wp2
  go_ret
  exact ⟨rfl, (Below.refl _ _).alloc (Nat.le_refl _) _⟩
theorem byteI_at (s : ByteArray) (k : Nat) (h : k < s.size) : ((s[k]).toNat : Int) = byteI s k := by
  unfold byteI; rw [List.getElem?_eq_getElem (by simpa using h)]; rfl
theorem byteI_past (s : ByteArray) (k : Nat) (h : s.size ≤ k) : byteI s k = 0 := by
  unfold byteI; rw [List.getElem?_eq_none (by simpa using h)]; rfl
/-- The word of the first two bytes. -/
def getI (s : ByteArray) : Int := byteI s 0 + byteI s 1 * 256
theorem rget_any (s : ByteArray) (w : World) (hs : s.size ≤ maxLen) :
    Calls Try.prog 39 #[.string s] w fun e w' => e = .returned (.int .u16 (getI s)) ∧ w = w' := by
  unfold maxLen at hs
  have b0 := byteI_bd s 0
  have b1 := byteI_bd s 1
  have w0 : IntKind.u16.wrap (byteI s 0) = byteI s 0 := wrap_in _ (by omega) (by omega)
  have w1 : IntKind.u16.wrap (byteI s 1) = byteI s 1 := wrap_in _ (by omega) (by omega)
  have w2 : IntKind.u16.wrap (256 * byteI s 1) = 256 * byteI s 1 := wrap_in _ (by omega) (by omega)
  have w3 : IntKind.u16.wrap (256 * byteI s 1 + byteI s 0) = 256 * byteI s 1 + byteI s 0 := wrap_in _ (by omega) (by omega)
  by_cases h1 : 1 < s.size
  · have a0 := byteI_at s 0 (by omega)
    have a1 := byteI_at s 1 h1
    go_enter Try.func39, Try.ntmps39
    go_wp2
    go_ret
    refine ⟨ret_int ?_, rfl⟩
    unfold getI; show 256 * byteI s 1 + byteI s 0 = _; omega
  · have p1 := Lib.hid (byteI_past s 1 (by omega))
    by_cases h0 : 0 < s.size
    · have a0 := byteI_at s 0 (by omega)
      go_enter Try.func39, Try.ntmps39
      go_wp2
      go_ret
      refine ⟨ret_int ?_, rfl⟩
      unfold getI; rw [p1.out]; show byteI s 0 = _; omega
    · have p0 := Lib.hid (byteI_past s 0 (by omega))
      go_enter Try.func39, Try.ntmps39
      go_wp2
      go_ret
      refine ⟨ret_int ?_, rfl⟩
      unfold getI; rw [p1.out, p0.out]; rfl

def partI (s : ByteArray) (k : Nat) : Int := if k = 0 then 0 else if k = 1 then byteI s 0 else byteI s 0 + byteI s 1 * 256
theorem partI_end (s : ByteArray) (h : s.size ≤ 2) : partI s s.size = getI s := by
  have p0 := byteI_past s 0
  have p1 := byteI_past s 1
  unfold partI getI
  split
  · rw [p0 (by omega), p1 (by omega)]; rfl
  · split
    · rw [p1 (by omega)]; omega
    · rfl
theorem byteI_extract (s : ByteArray) (k : Nat) (h : k < 2) : byteI (s.extract 0 2) k = byteI s k := by
  unfold byteI
  have : (s.extract 0 2).data.toList = s.data.toList.take 2 := by simp [ByteArray.data_extract]
  rw [this, List.getElem?_take_of_lt h]
theorem or_bytes (a b : Int) (a0 : 0 ≤ a) (a1 : a < 256) (b0 : 0 ≤ b) (b1 : b < 256) : bits .or .u16 a (b * 256) = a + b * 256 := by
  rw [u16_or a (b * 256) a0 (by omega) (by omega) (by omega), Nat.or_comm, nat_join 8 _ _ (by simp only [Nat.reducePow]; omega) (by simp only [Nat.reducePow]; omega)]
  omega
theorem or_zero (a : Int) (a0 : 0 ≤ a) (a1 : a < 256) : bits .or .u16 0 a = a := by
  rw [u16_or 0 a (by omega) (by omega) a0 (by omega), show (0 : Int).toNat = 0 from rfl, Nat.zero_or]; omega
set_option maxRecDepth 4000 in
set_option maxHeartbeats 400000 in
theorem get_any (s : ByteArray) (w : World) (hs : s.size ≤ maxLen) :
    Calls Try.prog 62 #[.string s] w fun e w' => e = .returned (.int .u16 (getI s)) ∧ Below w.heap.size w w' := by
  unfold maxLen at hs
  have b0 := byteI_bd s 0
  have b1 := byteI_bd s 1
  have o0 := or_zero (byteI s 0) b0.1 b0.2
  have o1 := or_bytes (byteI s 0) (byteI s 1) b0.1 b0.2 b1.1 b1.2
  have w0 : IntKind.u16.wrap (byteI s 0) = byteI s 0 := wrap_in _ (by omega) (by omega)
  have w1 : IntKind.u16.wrap (byteI s 1) = byteI s 1 := wrap_in _ (by omega) (by omega)
  have w2 : IntKind.u16.wrap (byteI s 1 * 256) = byteI s 1 * 256 := wrap_in _ (by omega) (by omega)
  by_cases h2 : 2 < s.size
  · obtain ⟨W1, cap, hconv, hcell, hbel⟩ := conv_bytes (P := Try.prog) w 9 36 5 (s.extract 0 2) Try.underlying9 Try.underlying36 Try.underlying5
    have hsz : (s.extract 0 2).size = 2 := by rw [ByteArray.size_extract]; omega
    rw [hsz] at hconv hcell
    go_enter Try.func62, Try.ntmps62
    go_wp2
    go_loop [3, 13] (fun r i => ∃ k : Nat, k ≤ 2 ∧ i = .int .i64 k ∧ r = .int .u16 (partI s k)) (fun _ i => 2 - (intOf i).toNat)
    case atStart => exact ⟨0, Nat.zero_le _, rfl, rfl⟩
    case round =>
      obtain ⟨k, hk, rfl, rfl⟩ := hrel
      by_cases hlt : k < 2
      · have hc := hcell k (by omega)
        rw [byteI_extract s k hlt] at hc
        clear hcell
        rcases (show k = 0 ∨ k = 1 by omega) with rfl | rfl
        · have p0 : partI s 0 = 0 := rfl
          have p1 : partI s 1 = byteI s 0 := rfl
          go_wp2
          go_round
          case rel => exact ⟨1, by omega, rfl, by rw [p1]⟩
          case measure => simp [intOf] <;> omega
        · have p1 : partI s 1 = byteI s 0 := rfl
          have p2 : partI s 2 = byteI s 0 + byteI s 1 * 256 := rfl
          go_wp2
          go_round
          case rel => exact ⟨2, by omega, rfl, by rw [p2]⟩
          case measure => simp [intOf] <;> omega
      · obtain rfl : k = 2 := by omega
        go_wp2
        go_ret
        refine ⟨ret_int ?_, hbel⟩
        rfl
  · obtain ⟨W1, cap, hconv, hcell, hbel⟩ := conv_bytes (P := Try.prog) w 9 36 5 s Try.underlying9 Try.underlying36 Try.underlying5
    go_enter Try.func62, Try.ntmps62
    go_wp2
    go_loop [3, 13] (fun r i => ∃ k : Nat, k ≤ s.size ∧ i = .int .i64 k ∧ r = .int .u16 (partI s k)) (fun _ i => s.size - (intOf i).toNat)
    case atStart => exact ⟨0, Nat.zero_le _, rfl, rfl⟩
    case round =>
      obtain ⟨k, hk, rfl, rfl⟩ := hrel
      by_cases hlt : k < s.size
      · have hc := hcell k (by omega)
        rcases (show k = 0 ∨ k = 1 by omega) with rfl | rfl
        · have p0 : partI s 0 = 0 := rfl
          have p1 : partI s 1 = byteI s 0 := rfl
          go_wp2
          go_round
          case rel => exact ⟨1, by omega, rfl, by rw [p1]⟩
          case measure => simp [intOf] <;> omega
        · have p1 : partI s 1 = byteI s 0 := rfl
          have p2 : partI s 2 = byteI s 0 + byteI s 1 * 256 := rfl
          go_wp2
          go_round
          case rel => exact ⟨2, by omega, rfl, by rw [p2]⟩
          case measure => simp [intOf] <;> omega
      · obtain rfl : k = s.size := by omega
        go_wp2
        go_ret
        refine ⟨ret_int ?_, hbel⟩
        exact partI_end s (by omega)
end Go.Proofs.Ytgdiaaoekkdibaa
namespace Go.Proofs.Ytgdiaaoekkdibaa
set_option linter.unusedVariables false
def cb (r : Nat) : Nat := if 32768 ≤ r then (r * 2 % 65536) ^^^ 4129 else r * 2 % 65536
def it (r : Nat) : Nat → Nat
  | 0 => r
  | k + 1 => cb (it r k)
def cbyte (r b : Nat) : Nat := it (r ^^^ (b * 256)) 8
def crcL (r : Nat) (l : List UInt8) : Nat := l.foldl (fun r b => cbyte r b.toNat) r
theorem xor_lt (a b : Nat) (ha : a < 65536) (hb : b < 65536) : a ^^^ b < 65536 := Nat.xor_lt_two_pow (n := 16) ha hb
theorem cb_lt (r : Nat) (h : r < 65536) : cb r < 65536 := by
  unfold cb; split
  · exact xor_lt _ _ (by omega) (by omega)
  · omega
theorem it_lt (r : Nat) (h : r < 65536) : ∀ k, it r k < 65536
  | 0 => h
  | k + 1 => cb_lt _ (it_lt r h k)
theorem cbyte_lt (r b : Nat) (h : r < 65536) (hb : b < 256) : cbyte r b < 65536 := it_lt _ (xor_lt _ _ h (by omega)) 8
theorem dbl_xor (a b : Nat) : (a ^^^ b) * 2 % 65536 = (a * 2 % 65536) ^^^ (b * 2 % 65536) := by
  have e : ∀ n : Nat, n * 2 % 65536 = (n <<< 1) % 2 ^ 16 := fun n => by rw [Nat.shiftLeft_eq]
  rw [e, e, e, Nat.shiftLeft_xor_distrib, Nat.xor_mod_two_pow]
theorem top_xor (a b : Nat) (ha : a < 65536) (hb : b < 65536) : (32768 ≤ a ^^^ b) = ((32768 ≤ a) ≠ (32768 ≤ b)) := by
  have t := testBit15 (a ^^^ b) (xor_lt a b ha hb)
  rw [Nat.testBit_xor, testBit15 a ha, testBit15 b hb] at t
  by_cases x : 32768 ≤ a <;> by_cases y : 32768 ≤ b <;> by_cases z : 32768 ≤ a ^^^ b <;> simp [x, y, z] at t ⊢
theorem cb_xor (a b : Nat) (ha : a < 65536) (hb : b < 65536) : cb (a ^^^ b) = cb a ^^^ cb b := by
  have t := top_xor a b ha hb
  unfold cb
  rw [dbl_xor]
  simp only [t]
  by_cases x : 32768 ≤ a <;> by_cases y : 32768 ≤ b <;> simp [x, y]
  · rw [Nat.xor_assoc (a * 2 % 65536) 4129, ← Nat.xor_assoc 4129 (b * 2 % 65536), Nat.xor_comm 4129 (b * 2 % 65536), Nat.xor_assoc (b * 2 % 65536), Nat.xor_self, Nat.xor_zero]
  · rw [Nat.xor_assoc, Nat.xor_comm (b * 2 % 65536), ← Nat.xor_assoc]
  · rw [Nat.xor_assoc]
theorem it_xor (a b : Nat) (ha : a < 65536) (hb : b < 65536) : ∀ k, it (a ^^^ b) k = it a k ^^^ it b k
  | 0 => rfl
  | k + 1 => by
    show cb (it (a ^^^ b) k) = cb (it a k) ^^^ cb (it b k)
    rw [it_xor a b ha hb k, cb_xor _ _ (it_lt a ha k) (it_lt b hb k)]
theorem cb_ne (r : Nat) (h : r < 65536) (h0 : r ≠ 0) : cb r ≠ 0 := by
  unfold cb; split
  · intro k
    have : (r * 2 % 65536) = 4129 := by
      have := congrArg (· ^^^ 4129) k
      simpa [Nat.xor_assoc] using this
    omega
  · omega
theorem it_ne (r : Nat) (h : r < 65536) (h0 : r ≠ 0) : ∀ k, it r k ≠ 0
  | 0 => h0
  | k + 1 => cb_ne _ (it_lt r h k) (it_ne r h h0 k)
theorem low8 : ∀ c : Fin 256, it c.val 8 = c.val * 256 := by decide +kernel
theorem low8' (c : Nat) (h : c < 256) : it c 8 = c * 256 := low8 ⟨c, h⟩
theorem it_zero (r : Nat) : it r 0 = r := rfl
theorem it_succ (r k : Nat) : it r (k + 1) = cb (it r k) := rfl
theorem cbyte_def (r b : Nat) : cbyte r b = it (r ^^^ (b * 256)) 8 := rfl
attribute [irreducible] cb it
theorem mul_xor (a b : Nat) : (a ^^^ b) * 256 = (a * 256) ^^^ (b * 256) := by
  have e : ∀ n : Nat, n * 256 = n <<< 8 := fun n => by rw [Nat.shiftLeft_eq]
  rw [e, e, e, Nat.shiftLeft_xor_distrib]
theorem xor_cancel (a b : Nat) (h : a ^^^ b = a) : b = 0 := by
  have := congrArg (a ^^^ ·) h
  simpa [← Nat.xor_assoc] using this
/-- The difference goes on by itself. -/
theorem crc_diff (l : List UInt8) : ∀ (r d : Nat), r < 65536 → d < 65536 → d ≠ 0 → ∃ e, e < 65536 ∧ e ≠ 0 ∧ crcL (r ^^^ d) l = crcL r l ^^^ e := by
  induction l with
  | nil => intro r d _ hd h0; exact ⟨d, hd, h0, rfl⟩
  | cons b l ih =>
    intro r d hr hd h0
    have hb := b.toNat_lt
    have e1 : cbyte (r ^^^ d) b.toNat = cbyte r b.toNat ^^^ it d 8 := by
      unfold cbyte
      rw [Nat.xor_assoc, Nat.xor_comm d, ← Nat.xor_assoc, it_xor _ _ (xor_lt _ _ hr (by omega)) hd]
    have := ih (cbyte r b.toNat) (it d 8) (cbyte_lt _ _ hr (by omega)) (it_lt d hd 8) (it_ne d hd h0 8)
    simpa [crcL, e1] using this
theorem xor4 (A B C D : Nat) : (A ^^^ B) ^^^ (C ^^^ D) = (A ^^^ C) ^^^ (B ^^^ D) := by
  rw [Nat.xor_assoc, Nat.xor_assoc, ← Nat.xor_assoc B C D, Nat.xor_comm B C, Nat.xor_assoc C B D]
theorem crc_two (r b0 b1 c0 c1 : Nat) (hr : r < 65536) (h0 : b0 < 256) (h1 : b1 < 256) (k0 : c0 < 256) (k1 : c1 < 256) (hc : c0 ≠ 0 ∨ c1 ≠ 0) :
    ∃ d, d < 65536 ∧ d ≠ 0 ∧ cbyte (cbyte r (b0 ^^^ c0)) (b1 ^^^ c1) = cbyte (cbyte r b0) b1 ^^^ d := by
  refine ⟨it (it (c0 * 256 ^^^ c1) 8) 8, ?_, ?_, ?_⟩
  · exact it_lt _ (it_lt _ (xor_lt _ _ (by omega) (by omega)) 8) 8
  · refine it_ne _ (it_lt _ (xor_lt _ _ (by omega) (by omega)) 8) (it_ne _ (xor_lt _ _ (by omega) (by omega)) ?_ 8) 8
    intro h
    have e : c1 = c0 * 256 := by
      have := congrArg (c0 * 256 ^^^ ·) h
      simpa [← Nat.xor_assoc] using this
    omega
  · have a1 : cbyte r (b0 ^^^ c0) = cbyte r b0 ^^^ it (c0 * 256) 8 := by
      unfold cbyte
      rw [mul_xor, ← Nat.xor_assoc, it_xor _ _ (xor_lt _ _ hr (by omega)) (by omega)]
    rw [a1]
    have a2 : cbyte r b0 < 65536 := cbyte_lt _ _ hr h0
    have a3 := it_lt (c0 * 256) (by omega) 8
    rw [cbyte_def (cbyte r b0 ^^^ _), cbyte_def (cbyte r b0) b1]
    rw [it_xor (c0 * 256) c1 (by omega) (by omega), low8' c1 k1, mul_xor, xor4]
    exact it_xor _ _ (xor_lt _ _ a2 (by omega)) (xor_lt _ _ a3 (by omega)) 8
/-- The law: two neighbouring bytes changed, the sum changed. -/
theorem crc_change (p q : List UInt8) (b0 b1 d0 d1 : UInt8) (h : d0 ≠ b0 ∨ d1 ≠ b1) :
    crcL 65535 (p ++ d0 :: d1 :: q) ≠ crcL 65535 (p ++ b0 :: b1 :: q) := by
  have hp : crcL 65535 p < 65536 := by
    have : ∀ (l : List UInt8) (r : Nat), r < 65536 → crcL r l < 65536 := by
      intro l
      induction l with
      | nil => intro r h; exact h
      | cons b l ih => intro r h; exact ih _ (cbyte_lt _ _ h b.toNat_lt)
    exact this p _ (by omega)
  have sp : ∀ x y : UInt8, crcL 65535 (p ++ x :: y :: q) = crcL (cbyte (cbyte (crcL 65535 p) x.toNat) y.toNat) q := fun x y => by simp [crcL]
  rw [sp, sp]
  have hx : ∀ u v : Nat, u = v ^^^ (v ^^^ u) := fun u v => by rw [← Nat.xor_assoc, Nat.xor_self, Nat.zero_xor]
  have lt8 : ∀ u v : UInt8, u.toNat ^^^ v.toNat < 256 := fun u v => Nat.xor_lt_two_pow (n := 8) u.toNat_lt v.toNat_lt
  obtain ⟨d, hd, hd0, e⟩ := crc_two (crcL 65535 p) b0.toNat b1.toNat (b0.toNat ^^^ d0.toNat) (b1.toNat ^^^ d1.toNat) hp b0.toNat_lt b1.toNat_lt (lt8 _ _) (lt8 _ _) (by
    rcases h with h | h
    · left; intro k; apply h; apply UInt8.toNat_inj.1; have := hx d0.toNat b0.toNat; rw [k, Nat.xor_zero] at this; exact this
    · right; intro k; apply h; apply UInt8.toNat_inj.1; have := hx d1.toNat b1.toNat; rw [k, Nat.xor_zero] at this; exact this)
  rw [← hx, ← hx] at e
  rw [e]
  obtain ⟨x, _, hx0, ex⟩ := crc_diff q _ d (cbyte_lt _ _ (cbyte_lt _ _ hp b0.toNat_lt) b1.toNat_lt) hd hd0
  rw [ex]
  intro k
  exact hx0 (xor_cancel _ _ k)

/-! The bridge to the walk's numbers. -/
theorem xorI (a b : Nat) (ha : a < 65536) (hb : b < 65536) : bits .xor .u16 (a : Int) (b : Int) = ((a ^^^ b : Nat) : Int) := u16_xor_nat a b ha hb
theorem cbI_cb (r : Nat) (h : r < 65536) : cbI (r : Int) = (cb r : Int) := by
  unfold cbI cb
  by_cases k : 32768 ≤ r
  · rw [if_pos k, if_pos (by omega)]
    have : ((r : Int) * 2 % 65536) = ((r * 2 % 65536 : Nat) : Int) := by omega
    rw [this]; exact xorI _ 4129 (by omega) (by omega)
  · rw [if_neg k, if_neg (by omega)]; omega
theorem cbN_it (r : Nat) (h : r < 65536) : ∀ k, cbN (r : Int) k = (it r k : Int)
  | 0 => by rw [it_zero]; rfl
  | k + 1 => by show cbI (cbN r k) = _; rw [cbN_it r h k, cbI_cb _ (it_lt r h k), it_succ]
theorem crcI_cbyte (r b : Nat) (h : r < 65536) (hb : b < 256) : crcI (r : Int) (b : Int) = (cbyte r b : Int) := by
  unfold crcI cbyte
  have : (b : Int) * 256 = ((b * 256 : Nat) : Int) := by omega
  rw [this, xorI _ _ h (by omega), cbN_it _ (xor_lt _ _ h (by omega))]
theorem sumI_crc (s : ByteArray) : ∀ k, k ≤ s.size → sumI s k = (crcL 65535 (s.data.toList.take k) : Int) ∧ crcL 65535 (s.data.toList.take k) < 65536
  | 0, _ => ⟨rfl, by show 65535 < 65536; omega⟩
  | k + 1, h => by
    have ih := sumI_crc s k (by omega)
    have hk : k < s.data.toList.length := Nat.lt_of_lt_of_le (Nat.lt_succ_self k) (Nat.le_trans h (Nat.le_of_eq (by simp)))
    have e : s.data.toList.take (k + 1) = s.data.toList.take k ++ [s.data.toList[k]] := by rw [List.take_succ_eq_append_getElem hk]
    have eb : byteI s k = ((s.data.toList[k]).toNat : Int) := by unfold byteI; rw [List.getElem?_eq_getElem hk]; rfl
    have hb := (s.data.toList[k]).toNat_lt
    have ec : crcL 65535 (s.data.toList.take (k + 1)) = cbyte (crcL 65535 (s.data.toList.take k)) (s.data.toList[k]).toNat := by rw [e]; simp [crcL]
    refine ⟨?_, by rw [ec]; exact cbyte_lt _ _ ih.2 (by omega)⟩
    show crcI (sumI s k) (byteI s k) = _
    rw [ih.1, eb, crcI_cbyte _ _ ih.2 (by omega), ec]
theorem sumI_all (s : ByteArray) : sumI s s.size = (crcL 65535 s.data.toList : Int) := by
  have h := (sumI_crc s s.size (Nat.le_refl _)).1
  rw [h, List.take_of_length_le (by simp)]
end Go.Proofs.Ytgdiaaoekkdibaa
