/- Plain mathematics of the sum: it is linear, and a change within two neighbouring bytes changes it. No program in sight. -/
import Derived.Test.YtgmiepahhmfaiaaE
namespace Go.Proofs.Ytgmiepahhmfaiaa
set_option linter.unusedVariables false
def cb (r : Nat) : Nat := if 32768 ≤ r then (r * 2 % 65536) ^^^ 4129 else r * 2 % 65536
def it (r : Nat) : Nat → Nat
  | 0 => r
  | k + 1 => cb (it r k)
def cbyte (r b : Nat) : Nat := it (r ^^^ (b * 256)) 8
def crcL (r : Nat) (l : List UInt8) : Nat := l.foldl (fun r b => cbyte r b.toNat) r
theorem xor_lt (a b : Nat) (ha : a < 65536) (hb : b < 65536) : a ^^^ b < 65536 := Nat.xor_lt_two_pow (n := 16) ha hb
theorem cb_lt (r : Nat) (h : r < 65536) : cb r < 65536 := by
  unfold cb; split
  · exact xor_lt _ _ (by omega) (by omega)
  · omega
theorem it_lt (r : Nat) (h : r < 65536) : ∀ k, it r k < 65536
  | 0 => h
  | k + 1 => cb_lt _ (it_lt r h k)
theorem cbyte_lt (r b : Nat) (h : r < 65536) (hb : b < 256) : cbyte r b < 65536 := it_lt _ (xor_lt _ _ h (by omega)) 8
theorem dbl_xor (a b : Nat) : (a ^^^ b) * 2 % 65536 = (a * 2 % 65536) ^^^ (b * 2 % 65536) := by
  have e : ∀ n : Nat, n * 2 % 65536 = (n <<< 1) % 2 ^ 16 := fun n => by rw [Nat.shiftLeft_eq]
  rw [e, e, e, Nat.shiftLeft_xor_distrib, Nat.xor_mod_two_pow]
theorem top_xor (a b : Nat) (ha : a < 65536) (hb : b < 65536) : (32768 ≤ a ^^^ b) = ((32768 ≤ a) ≠ (32768 ≤ b)) := by
  have t := testBit15 (a ^^^ b) (xor_lt a b ha hb)
  rw [Nat.testBit_xor, testBit15 a ha, testBit15 b hb] at t
  by_cases x : 32768 ≤ a <;> by_cases y : 32768 ≤ b <;> by_cases z : 32768 ≤ a ^^^ b <;> simp [x, y, z] at t ⊢
theorem cb_xor (a b : Nat) (ha : a < 65536) (hb : b < 65536) : cb (a ^^^ b) = cb a ^^^ cb b := by
  have t := top_xor a b ha hb
  unfold cb
  rw [dbl_xor]
  simp only [t]
  by_cases x : 32768 ≤ a <;> by_cases y : 32768 ≤ b <;> simp [x, y]
  · rw [Nat.xor_assoc (a * 2 % 65536) 4129, ← Nat.xor_assoc 4129 (b * 2 % 65536), Nat.xor_comm 4129 (b * 2 % 65536), Nat.xor_assoc (b * 2 % 65536), Nat.xor_self, Nat.xor_zero]
  · rw [Nat.xor_assoc, Nat.xor_comm (b * 2 % 65536), ← Nat.xor_assoc]
  · rw [Nat.xor_assoc]
theorem it_xor (a b : Nat) (ha : a < 65536) (hb : b < 65536) : ∀ k, it (a ^^^ b) k = it a k ^^^ it b k
  | 0 => rfl
  | k + 1 => by
    show cb (it (a ^^^ b) k) = cb (it a k) ^^^ cb (it b k)
    rw [it_xor a b ha hb k, cb_xor _ _ (it_lt a ha k) (it_lt b hb k)]
theorem cb_ne (r : Nat) (h : r < 65536) (h0 : r ≠ 0) : cb r ≠ 0 := by
  unfold cb; split
  · intro k
    have : (r * 2 % 65536) = 4129 := by
      have := congrArg (· ^^^ 4129) k
      simpa [Nat.xor_assoc] using this
    omega
  · omega
theorem it_ne (r : Nat) (h : r < 65536) (h0 : r ≠ 0) : ∀ k, it r k ≠ 0
  | 0 => h0
  | k + 1 => cb_ne _ (it_lt r h k) (it_ne r h h0 k)
theorem low8 : ∀ c : Fin 256, it c.val 8 = c.val * 256 := by decide +kernel
theorem low8' (c : Nat) (h : c < 256) : it c 8 = c * 256 := low8 ⟨c, h⟩
theorem it_zero (r : Nat) : it r 0 = r := rfl
theorem it_succ (r k : Nat) : it r (k + 1) = cb (it r k) := rfl
theorem cbyte_def (r b : Nat) : cbyte r b = it (r ^^^ (b * 256)) 8 := rfl
attribute [irreducible] cb it
theorem mul_xor (a b : Nat) : (a ^^^ b) * 256 = (a * 256) ^^^ (b * 256) := by
  have e : ∀ n : Nat, n * 256 = n <<< 8 := fun n => by rw [Nat.shiftLeft_eq]
  rw [e, e, e, Nat.shiftLeft_xor_distrib]
theorem xor_cancel (a b : Nat) (h : a ^^^ b = a) : b = 0 := by
  have := congrArg (a ^^^ ·) h
  simpa [← Nat.xor_assoc] using this
/-- The difference goes on by itself. -/
theorem crc_diff (l : List UInt8) : ∀ (r d : Nat), r < 65536 → d < 65536 → d ≠ 0 → ∃ e, e < 65536 ∧ e ≠ 0 ∧ crcL (r ^^^ d) l = crcL r l ^^^ e := by
  induction l with
  | nil => intro r d _ hd h0; exact ⟨d, hd, h0, rfl⟩
  | cons b l ih =>
    intro r d hr hd h0
    have hb := b.toNat_lt
    have e1 : cbyte (r ^^^ d) b.toNat = cbyte r b.toNat ^^^ it d 8 := by
      unfold cbyte
      rw [Nat.xor_assoc, Nat.xor_comm d, ← Nat.xor_assoc, it_xor _ _ (xor_lt _ _ hr (by omega)) hd]
    have := ih (cbyte r b.toNat) (it d 8) (cbyte_lt _ _ hr (by omega)) (it_lt d hd 8) (it_ne d hd h0 8)
    simpa [crcL, e1] using this
theorem xor4 (A B C D : Nat) : (A ^^^ B) ^^^ (C ^^^ D) = (A ^^^ C) ^^^ (B ^^^ D) := by
  rw [Nat.xor_assoc, Nat.xor_assoc, ← Nat.xor_assoc B C D, Nat.xor_comm B C, Nat.xor_assoc C B D]
theorem crc_two (r b0 b1 c0 c1 : Nat) (hr : r < 65536) (h0 : b0 < 256) (h1 : b1 < 256) (k0 : c0 < 256) (k1 : c1 < 256) (hc : c0 ≠ 0 ∨ c1 ≠ 0) :
    ∃ d, d < 65536 ∧ d ≠ 0 ∧ cbyte (cbyte r (b0 ^^^ c0)) (b1 ^^^ c1) = cbyte (cbyte r b0) b1 ^^^ d := by
  refine ⟨it (it (c0 * 256 ^^^ c1) 8) 8, ?_, ?_, ?_⟩
  · exact it_lt _ (it_lt _ (xor_lt _ _ (by omega) (by omega)) 8) 8
  · refine it_ne _ (it_lt _ (xor_lt _ _ (by omega) (by omega)) 8) (it_ne _ (xor_lt _ _ (by omega) (by omega)) ?_ 8) 8
    intro h
    have e : c1 = c0 * 256 := by
      have := congrArg (c0 * 256 ^^^ ·) h
      simpa [← Nat.xor_assoc] using this
    omega
  · have a1 : cbyte r (b0 ^^^ c0) = cbyte r b0 ^^^ it (c0 * 256) 8 := by
      unfold cbyte
      rw [mul_xor, ← Nat.xor_assoc, it_xor _ _ (xor_lt _ _ hr (by omega)) (by omega)]
    rw [a1]
    have a2 : cbyte r b0 < 65536 := cbyte_lt _ _ hr h0
    have a3 := it_lt (c0 * 256) (by omega) 8
    rw [cbyte_def (cbyte r b0 ^^^ _), cbyte_def (cbyte r b0) b1]
    rw [it_xor (c0 * 256) c1 (by omega) (by omega), low8' c1 k1, mul_xor, xor4]
    exact it_xor _ _ (xor_lt _ _ a2 (by omega)) (xor_lt _ _ a3 (by omega)) 8
/-- The law: two neighbouring bytes changed, the sum changed. -/
theorem crc_change (p q : List UInt8) (b0 b1 d0 d1 : UInt8) (h : d0 ≠ b0 ∨ d1 ≠ b1) :
    crcL 65535 (p ++ d0 :: d1 :: q) ≠ crcL 65535 (p ++ b0 :: b1 :: q) := by
  have hp : crcL 65535 p < 65536 := by
    have : ∀ (l : List UInt8) (r : Nat), r < 65536 → crcL r l < 65536 := by
      intro l
      induction l with
      | nil => intro r h; exact h
      | cons b l ih => intro r h; exact ih _ (cbyte_lt _ _ h b.toNat_lt)
    exact this p _ (by omega)
  have sp : ∀ x y : UInt8, crcL 65535 (p ++ x :: y :: q) = crcL (cbyte (cbyte (crcL 65535 p) x.toNat) y.toNat) q := fun x y => by simp [crcL]
  rw [sp, sp]
  have hx : ∀ u v : Nat, u = v ^^^ (v ^^^ u) := fun u v => by rw [← Nat.xor_assoc, Nat.xor_self, Nat.zero_xor]
  have lt8 : ∀ u v : UInt8, u.toNat ^^^ v.toNat < 256 := fun u v => Nat.xor_lt_two_pow (n := 8) u.toNat_lt v.toNat_lt
  obtain ⟨d, hd, hd0, e⟩ := crc_two (crcL 65535 p) b0.toNat b1.toNat (b0.toNat ^^^ d0.toNat) (b1.toNat ^^^ d1.toNat) hp b0.toNat_lt b1.toNat_lt (lt8 _ _) (lt8 _ _) (by
    rcases h with h | h
    · left; intro k; apply h; apply UInt8.toNat_inj.1; have := hx d0.toNat b0.toNat; rw [k, Nat.xor_zero] at this; exact this
    · right; intro k; apply h; apply UInt8.toNat_inj.1; have := hx d1.toNat b1.toNat; rw [k, Nat.xor_zero] at this; exact this)
  rw [← hx, ← hx] at e
  rw [e]
  obtain ⟨x, _, hx0, ex⟩ := crc_diff q _ d (cbyte_lt _ _ (cbyte_lt _ _ hp b0.toNat_lt) b1.toNat_lt) hd hd0
  rw [ex]
  intro k
  exact hx0 (xor_cancel _ _ k)

/-! The bridge to the walk's numbers. -/
theorem xorI (a b : Nat) (ha : a < 65536) (hb : b < 65536) : bits .xor .u16 (a : Int) (b : Int) = ((a ^^^ b : Nat) : Int) := u16_xor_nat a b ha hb
theorem cbI_cb (r : Nat) (h : r < 65536) : cbI (r : Int) = (cb r : Int) := by
  unfold cbI cb
  by_cases k : 32768 ≤ r
  · rw [if_pos k, if_pos (by omega)]
    have : ((r : Int) * 2 % 65536) = ((r * 2 % 65536 : Nat) : Int) := by omega
    rw [this]; exact xorI _ 4129 (by omega) (by omega)
  · rw [if_neg k, if_neg (by omega)]; omega
theorem cbN_it (r : Nat) (h : r < 65536) : ∀ k, cbN (r : Int) k = (it r k : Int)
  | 0 => by rw [it_zero]; rfl
  | k + 1 => by show cbI (cbN r k) = _; rw [cbN_it r h k, cbI_cb _ (it_lt r h k), it_succ]
theorem crcI_cbyte (r b : Nat) (h : r < 65536) (hb : b < 256) : crcI (r : Int) (b : Int) = (cbyte r b : Int) := by
  unfold crcI cbyte
  have : (b : Int) * 256 = ((b * 256 : Nat) : Int) := by omega
  rw [this, xorI _ _ h (by omega), cbN_it _ (xor_lt _ _ h (by omega))]
theorem sumI_crc (s : ByteArray) : ∀ k, k ≤ s.size → sumI s k = (crcL 65535 (s.data.toList.take k) : Int) ∧ crcL 65535 (s.data.toList.take k) < 65536
  | 0, _ => ⟨rfl, by show 65535 < 65536; omega⟩
  | k + 1, h => by
    have ih := sumI_crc s k (by omega)
    have hk : k < s.data.toList.length := Nat.lt_of_lt_of_le (Nat.lt_succ_self k) (Nat.le_trans h (Nat.le_of_eq (by simp)))
    have e : s.data.toList.take (k + 1) = s.data.toList.take k ++ [s.data.toList[k]] := by rw [List.take_succ_eq_append_getElem hk]
    have eb : byteI s k = ((s.data.toList[k]).toNat : Int) := by unfold byteI; rw [List.getElem?_eq_getElem hk]; rfl
    have hb := (s.data.toList[k]).toNat_lt
    have ec : crcL 65535 (s.data.toList.take (k + 1)) = cbyte (crcL 65535 (s.data.toList.take k)) (s.data.toList[k]).toNat := by rw [e]; simp [crcL]
    refine ⟨?_, by rw [ec]; exact cbyte_lt _ _ ih.2 (by omega)⟩
    show crcI (sumI s k) (byteI s k) = _
    rw [ih.1, eb, crcI_cbyte _ _ ih.2 (by omega), ec]
theorem sumI_all (s : ByteArray) : sumI s s.size = (crcL 65535 s.data.toList : Int) := by
  have h := (sumI_crc s s.size (Nat.le_refl _)).1
  rw [h, List.take_of_length_le (by simp)]
end Go.Proofs.Ytgmiepahhmfaiaa
