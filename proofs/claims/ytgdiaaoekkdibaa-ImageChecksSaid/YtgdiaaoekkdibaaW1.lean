/- The contracts of Sum and of the reference's Sum. -/
import Derived.Test.YtgdiaaoekkdibaaProg
import Derived.Test.YtgdiaaoekkdibaaW0
import Derived.Lib.Hide
namespace Go.Proofs.Ytgdiaaoekkdibaa
set_option linter.unusedVariables false
open Go.RowKit

/-- Byte j of a string, as a number. -/
def byteI (s : ByteArray) (j : Nat) : Int := ((s.data.toList[j]?.getD 0).toNat : Int)
theorem byteI_bd (s : ByteArray) (j : Nat) : 0 ≤ byteI s j ∧ byteI s j < 256 := by
  unfold byteI; have := (s.data.toList[j]?.getD 0).toNat_lt; omega
theorem bytesRow_below (s : ByteArray) (cap j : Nat) (hj : j < s.size) : (bytesRow s cap)[j]? = some (.int .u8 (byteI s j)) := by
  rw [bytesRow_at s cap j hj]
  simp [byteI]
  rw [Array.getElem?_eq_getElem hj]; rfl
/-- A conversion to bytes: a new row of cells; nothing else turns. -/
theorem conv_bytes {P : Program} (w : World) (src dst e : TypeId) (s : ByteArray) (hs : P.underlying src = some .string) (hd : P.underlying dst = some (.slice e)) (he : P.underlying e = some (.int .u8)) :
    ∃ W1 cap, (convert src dst (.string s)).run P w = .ok (.slice (some ⟨w.heap.size, 0, none⟩) s.size cap) W1 ∧
      (∀ j, j < s.size → W1.cell? ⟨w.heap.size, j, none⟩ = some (.int .u8 (byteI s j))) ∧ Below w.heap.size w W1 := by
  refine ⟨_, _, run_bytes_of_string w src dst e s hs hd he, fun j hj => ?_, ((Below.refl _ _).drew).alloc (Nat.le_refl _) _⟩
  exact (World.cell?_alloc_mark w.drew _ e _ j).trans (bytesRow_below s _ j hj)

/-- One step of the sum, and k of them. -/
def cbI (r : Int) : Int := if 32768 ≤ r then bits .xor .u16 (r * 2 % 65536) 4129 else r * 2 % 65536
def cbN (r : Int) : Nat → Int
  | 0 => r
  | k + 1 => cbI (cbN r k)
def crcI (r b : Int) : Int := cbN (bits .xor .u16 r (b * 256)) 8
/-- The sum of the first k bytes. -/
def sumI (s : ByteArray) : Nat → Int
  | 0 => 65535
  | k + 1 => crcI (sumI s k) (byteI s k)
theorem xor_bd (a b : Int) (a0 : 0 ≤ a) (a1 : a < 65536) (b0 : 0 ≤ b) (b1 : b < 65536) : 0 ≤ bits .xor .u16 a b ∧ bits .xor .u16 a b < 65536 := by
  rw [u16_xor a b a0 a1 b0 b1]
  have : a.toNat ^^^ b.toNat < 2 ^ 16 := Nat.xor_lt_two_pow (by simp only [Nat.reducePow]; omega) (by simp only [Nat.reducePow]; omega)
  simp only [Nat.reducePow] at this
  omega
theorem cbI_bd (r : Int) (h0 : 0 ≤ r) (h1 : r < 65536) : 0 ≤ cbI r ∧ cbI r < 65536 := by
  unfold cbI; split
  · exact xor_bd _ _ (by omega) (by omega) (by omega) (by omega)
  · omega
theorem cbN_bd (r : Int) (h0 : 0 ≤ r) (h1 : r < 65536) : ∀ k, 0 ≤ cbN r k ∧ cbN r k < 65536
  | 0 => ⟨h0, h1⟩
  | k + 1 => by have := cbN_bd r h0 h1 k; exact cbI_bd _ this.1 this.2
theorem crcI_bd (r b : Int) (h0 : 0 ≤ r) (h1 : r < 65536) (b0 : 0 ≤ b) (b1 : b < 256) : 0 ≤ crcI r b ∧ crcI r b < 65536 := by
  have := xor_bd r (b * 256) h0 h1 (by omega) (by omega)
  exact cbN_bd _ this.1 this.2 8
theorem sumI_bd (s : ByteArray) : ∀ k, 0 ≤ sumI s k ∧ sumI s k < 65536
  | 0 => ⟨by simp [sumI], by simp [sumI]⟩
  | k + 1 => by have := sumI_bd s k; have hb := byteI_bd s k; exact crcI_bd _ _ this.1 this.2 hb.1 hb.2

set_option maxRecDepth 4000 in
set_option maxHeartbeats 400000 in
theorem sum_any (s : ByteArray) (w : World) (hs : s.size ≤ maxLen) :
    Calls Try.prog 54 #[.string s] w fun e w' => e = .returned (.int .u16 (sumI s s.size)) ∧ Below w.heap.size w w' := by
  obtain ⟨W1, cap, hconv, hcell, hbel⟩ := conv_bytes (P := Try.prog) w 9 36 5 s Try.underlying9 Try.underlying36 Try.underlying5
  unfold maxLen at hs
  go_enter Try.func54, Try.ntmps54
  go_wp2
  go_loop [3, 10] (fun r i => ∃ k : Nat, k ≤ s.size ∧ i = .int .i64 k ∧ r = .int .u16 (sumI s k)) (fun _ i => s.size - (intOf i).toNat)
  case atStart => exact ⟨0, Nat.zero_le _, rfl, rfl⟩
  case round =>
    obtain ⟨k, hk, rfl, rfl⟩ := hrel
    have hb := sumI_bd s k
    have hy := byteI_bd s k
    by_cases hlt : k < s.size
    · have hc := hcell k hlt
      have hx := xor_bd (sumI s k) (byteI s k * 256) hb.1 hb.2 (by omega) (by omega)
      go_wp2
      go_loop [3, 19] (fun r i => ∃ j : Nat, j ≤ 8 ∧ i = .int .i64 j ∧ r = .int .u16 (cbN (bits .xor .u16 (sumI s k) (byteI s k * 256)) j)) (fun _ i => 8 - (intOf i).toNat)
      case atStart => exact ⟨0, Nat.zero_le _, rfl, rfl⟩
      case round =>
        obtain ⟨j, hj, rfl, rfl⟩ := hrel
        have hr := cbN_bd (bits .xor .u16 (sumI s k) (byteI s k * 256)) hx.1 hx.2 j
        have hS : cbN (bits .xor .u16 (sumI s k) (byteI s k * 256)) (j + 1) = cbI (cbN (bits .xor .u16 (sumI s k) (byteI s k * 256)) j) := rfl
        have HE := Lib.hid hS; clear hS
        by_cases hlt : j < 8
        · generalize hR : cbN (bits .xor .u16 (sumI s k) (byteI s k * 256)) j = R at *
          clear hR
          have hhi := high_bit R hr.1 hr.2
          clear hcell hc hconv
          have hw : IntKind.u16.wrap (R * 2) = R * 2 % 65536 := by rw [IntKind.wrap_u16]
          by_cases hR : 32768 ≤ R
          · rw [if_pos hR] at hhi
            go_wp2
            go_round
            case rel => exact ⟨j + 1, by omega, by go_num, by rw [HE.out]; unfold cbI; rw [if_pos hR]⟩
            case measure => simp [intOf]; omega
          · rw [if_neg hR] at hhi
            go_wp2
            go_round
            case rel => exact ⟨j + 1, by omega, by go_num, by rw [HE.out]; unfold cbI; rw [if_neg (by omega)]⟩
            case measure => simp [intOf]; omega
        · obtain rfl : j = 8 := by omega
          go_wp2
          go_round
          case rel => exact ⟨k + 1, by omega, by go_num, rfl⟩
          case measure => simp [intOf]; omega
    · obtain rfl : k = s.size := by omega
      go_wp2
      go_ret
      exact ⟨rfl, hbel⟩

set_option maxHeartbeats 400000 in
theorem rsum_any (s : ByteArray) (w : World) (hs : s.size ≤ maxLen) :
    Calls Try.prog 57 #[.string s] w fun e w' => e = .returned (.int .u16 (sumI s s.size)) ∧ w = w' := by
  unfold maxLen at hs
  go_enter Try.func57, Try.ntmps57
  go_wp2
  go_loop [3, 4] (fun r i => ∃ k : Nat, k ≤ s.size ∧ i = .int .i64 k ∧ r = .int .u16 (sumI s k)) (fun _ i => s.size - (intOf i).toNat)
  case atStart => exact ⟨0, Nat.zero_le _, rfl, rfl⟩
  case round =>
    obtain ⟨k, hk, rfl, rfl⟩ := hrel
    have hb := sumI_bd s k
    have hy := byteI_bd s k
    by_cases hlt : k < s.size
    · have hx := xor_bd (sumI s k) (byteI s k * 256) hb.1 hb.2 (by omega) (by omega)
      have hB : ((s[k]).toNat : Int) = byteI s k := by
        unfold byteI; rw [List.getElem?_eq_getElem (by simpa using hlt)]; rfl
      have hw1 : IntKind.u16.wrap (byteI s k) = byteI s k := wrap_in _ (by omega) (by omega)
      have hw2 : IntKind.u16.wrap (256 * byteI s k) = byteI s k * 256 := by rw [IntKind.wrap_u16]; omega
      go_wp2
      go_loop [3, 5] (fun r i => ∃ j : Nat, j ≤ 8 ∧ i = .int .i64 j ∧ r = .int .u16 (cbN (bits .xor .u16 (sumI s k) (byteI s k * 256)) j)) (fun _ i => 8 - (intOf i).toNat)
      case atStart => exact ⟨0, Nat.zero_le _, rfl, rfl⟩
      case round =>
        obtain ⟨j, hj, rfl, rfl⟩ := hrel
        clear hB hw1 hw2
        have hr := cbN_bd (bits .xor .u16 (sumI s k) (byteI s k * 256)) hx.1 hx.2 j
        have hS : cbN (bits .xor .u16 (sumI s k) (byteI s k * 256)) (j + 1) = cbI (cbN (bits .xor .u16 (sumI s k) (byteI s k * 256)) j) := rfl
        have HE := Lib.hid hS; clear hS
        by_cases hlt : j < 8
        · generalize hR : cbN (bits .xor .u16 (sumI s k) (byteI s k * 256)) j = R at *
          clear hR
          have hw : IntKind.u16.wrap (R * 2) = R * 2 % 65536 := by rw [IntKind.wrap_u16]
          by_cases hR : 32768 ≤ R
          · go_wp2
            go_round
            case rel => exact ⟨j + 1, by omega, by go_num, by rw [HE.out]; unfold cbI; rw [if_pos hR]⟩
            case measure => simp [intOf]; omega
          · go_wp2
            go_round
            case rel => exact ⟨j + 1, by omega, by go_num, by rw [HE.out]; unfold cbI; rw [if_neg (by omega)]⟩
            case measure => simp [intOf]; omega
        · obtain rfl : j = 8 := by omega
          go_wp2
          go_round
          case rel => exact ⟨k + 1, by omega, by go_num, rfl⟩
          case measure => simp [intOf]; omega
    · obtain rfl : k = s.size := by omega
      go_wp2
      go_ret
      exact ⟨rfl, rfl⟩
end Go.Proofs.Ytgdiaaoekkdibaa
