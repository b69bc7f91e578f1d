/- The walk of WordSums. -/
import Derived.Test.YtgmiepahhmfaiaaRows
import Derived.Test.YtgmiepahhmfaiaaS
import Derived.Test.YtgmiepahhmfaiaaM
namespace Go.Proofs.Ytgmiepahhmfaiaa
set_option linter.unusedVariables false
open Go.RowKit

theorem conv_bytes2 {P : Program} (w : World) (src dst e : TypeId) (s : ByteArray) (hs : P.underlying src = some .string) (hd : P.underlying dst = some (.slice e)) (he : P.underlying e = some (.int .u8)) :
    ∃ W1 cap, (convert src dst (.string s)).run P w = .ok (.slice (some ⟨w.heap.size, 0, none⟩) s.size cap) W1 ∧
      (∀ j (hj : j < s.data.toList.length), W1.cell? ⟨w.heap.size, j, none⟩ = some (.int .u8 ((s.data.toList[j]).toNat : Int))) ∧ (∀ j, j < s.size → W1.frozen? ⟨w.heap.size, j, none⟩ = false) ∧ Below w.heap.size w W1 ∧ w.heap.size < W1.heap.size := by
  refine ⟨_, _, run_bytes_of_string w src dst e s hs hd he, fun j hj => ?_, fun j hj => ?_, ((Below.refl _ _).drew).alloc (Nat.le_refl _) _, by rw [World.size_alloc]; simp⟩
  · refine (World.cell?_alloc_mark w.drew _ e _ j).trans ((bytesRow_below s _ j (by simpa using hj)).trans ?_)
    unfold byteI; rw [List.getElem?_eq_getElem hj]; rfl
  · refine (World.frozen?_alloc_mark w.drew _ e _ _ j).trans ?_
    have : j < (bytesRow s (grownCap w s.size 0 e)).size := by
      unfold bytesRow; rw [Array.size_append, Array.size_map]; have : s.data.size = s.size := rfl; omega
    simp; omega
/-- Two neighbouring bytes are stored anew. -/
theorem store_two (W : World) (B K : Nat) (l : List UInt8) (hK : K + 1 < l.length) (d0 d1 : UInt8)
    (hc : ∀ j (hj : j < l.length), W.cell? ⟨B, j, none⟩ = some (.int .u8 ((l[j]).toNat : Int))) :
    ∀ j (hj : j < ((l.set K d0).set (K + 1) d1).length), ((W.setCell ⟨B, K, none⟩ (.int .u8 (d0.toNat : Int))).setCell ⟨B, K + 1, none⟩ (.int .u8 (d1.toNat : Int))).cell? (Addr.add ⟨B, 0, none⟩ j) =
      some (.int .u8 ((((l.set K d0).set (K + 1) d1)[j]).toNat : Int)) := by
  intro j hj
  have hj' : j < l.length := by simpa using hj
  have ha : Addr.add ⟨B, 0, none⟩ j = ⟨B, j, none⟩ := by simp [Addr.add]; intro h; exact h.symm
  rw [ha]
  by_cases h1 : j = K + 1
  · subst h1
    have h := World.cell?_setCell_other (W) ⟨B, K, none⟩ ⟨B, K + 1, none⟩ (v := .int .u8 (d0.toNat : Int)) (by simp)
    rw [World.cell?_setCell_same (u := .int .u8 ((l[K + 1]).toNat : Int)) _ _ _ (h.trans (hc _ hj'))]
    simp
  · rw [World.cell?_setCell_other _ _ _ _ (by simp <;> omega)]
    by_cases h0 : j = K
    · subst h0
      rw [World.cell?_setCell_same _ _ _ (hc _ hj')]
      simp
    · rw [World.cell?_setCell_other _ _ _ _ (by simp <;> omega), hc _ hj']
      rw [List.getElem_set, if_neg (by omega), List.getElem_set, if_neg (by omega)]
theorem xor_byte (b : UInt8) (c : Int) (h0 : 0 ≤ c) (h1 : c < 256) : ∃ d : UInt8, bits .xor .u8 (b.toNat : Int) c = (d.toNat : Int) ∧ (c ≠ 0 → d ≠ b) := by
  obtain ⟨c, rfl⟩ := Int.eq_ofNat_of_zero_le h0
  have hb := b.toNat_lt
  have hx : b.toNat ^^^ c < 256 := Nat.xor_lt_two_pow (n := 8) hb (by omega)
  refine ⟨UInt8.ofNat (b.toNat ^^^ c), ?_, ?_⟩
  · rw [u8_xor_nat b.toNat c hb (by omega), UInt8.toNat_ofNat_of_lt' hx]
  · intro hc e
    have := congrArg UInt8.toNat e
    rw [UInt8.toNat_ofNat_of_lt' hx] at this
    exact hc (by rw [xor_cancel _ _ this]; rfl)
theorem set_two : ∀ (l : List UInt8) (K : Nat) (h : K + 1 < l.length) (d0 d1 : UInt8), ∃ p q b0 b1, l = p ++ b0 :: b1 :: q ∧ l[K] = b0 ∧ l[K + 1] = b1 ∧ (l.set K d0).set (K + 1) d1 = p ++ d0 :: d1 :: q
  | a :: b :: l, 0, _, d0, d1 => ⟨[], l, a, b, rfl, rfl, rfl, rfl⟩
  | a :: l, K + 1, h, d0, d1 => by
    obtain ⟨p, q, b0, b1, e, e0, e1, e2⟩ := set_two l K (by simpa using h) d0 d1
    exact ⟨a :: p, q, b0, b1, by rw [e]; rfl, by simpa using e0, by simpa using e1, by simp [e2]⟩
theorem sums_ne (x Y : ByteArray) (K : Nat) (h : K + 1 < x.data.toList.length) (d0 d1 : UInt8) (hY : Y.data.toList = (x.data.toList.set K d0).set (K + 1) d1)
    (hd : d0 ≠ x.data.toList[K] ∨ d1 ≠ x.data.toList[K + 1]) : (sumI Y Y.size != sumI x x.size) = true := by
  obtain ⟨p, q, b0, b1, e, e0, e1, e2⟩ := set_two x.data.toList K h d0 d1
  rw [sumI_all, sumI_all, hY, e2]
  rw [e0, e1] at hd
  have := crc_change p q b0 b1 d0 d1 hd
  rw [← e] at this
  simp only [bne_iff_ne, ne_eq]
  intro k
  exact this (by omega)
set_option maxHeartbeats 1000000 in
theorem wordSums_walk (s : ByteArray) (at_ c : Int) (w : World) (hs : s.size ≤ maxLen) (t0 : -9223372036854775808 ≤ at_) (t1 : at_ ≤ 9223372036854775807) (c0 : 0 ≤ c) (c1 : c < 65536) :
    Calls Try.prog 7 #[.string s, .int .i64 at_, .int .u16 c] w fun e w' => e = .returned (.bool true) ∧ Below w.heap.size w w' := by
  have HS := Lib.hid hs
  unfold maxLen at hs
  by_cases h : 300 < s.size
  · have hx : (s.extract 0 300).size ≤ 300 := by rw [ByteArray.size_extract]; omega
    go_enter Try.func7, Try.ntmps7
    go_wp2_with fail
    refine (sanity_any _).mono ?_; rintro e w1 ⟨rfl, h1⟩
    go_wp2_with fail
    generalize s.extract 0 300 = x at *
    have HX : Hid (x.size ≤ maxLen) := Nat.le_trans hx (by unfold maxLen; omega)
    refine (sum_any _ _ HX.out).mono ?_; rintro e w2 ⟨rfl, h2⟩
    go_wp2_with fail
    refine (rsum_any _ _ HX.out).mono ?_; rintro e w' ⟨rfl, rfl⟩
    by_cases hn : x.size < 2
    · go_wp2
      go_ret
      exact ⟨rfl, h1.trans (h2.mono h1.size)⟩
    · by_cases hc : c = 0
      · subst hc
        go_wp2
        go_ret
        exact ⟨rfl, h1.trans (h2.mono h1.size)⟩
      · have hc0 : (c == 0) = false := by simpa using hc
        obtain ⟨t, ht, t2, t3⟩ : ∃ t, at_.tmod (↑x.size - 1) = t ∧ -(x.size - 1 : Int) < t ∧ t < (x.size - 1 : Int) :=
          ⟨_, rfl, Int.lt_tmod_of_pos at_ (by omega), Int.tmod_lt_of_pos at_ (by omega)⟩
        obtain ⟨K, hK, hK1⟩ : ∃ K : Nat, (t + ↑x.size - 1).tmod (↑x.size - 1) = (K : Int) ∧ K + 1 < x.size := by
          have q1 : 0 ≤ (t + ↑x.size - 1).tmod (↑x.size - 1) := Int.tmod_nonneg _ (by omega)
          have q2 := Int.tmod_lt_of_pos (t + ↑x.size - 1) (b := (x.size - 1 : Int)) (by omega)
          exact ⟨((t + ↑x.size - 1).tmod (↑x.size - 1)).toNat, by omega, by omega⟩
        obtain ⟨W1, cap, hconv, hcell, hfroz, hbel, hsz⟩ := conv_bytes2 (P := Try.prog) w2 9 35 5 x Try.underlying9 Try.underlying35 Try.underlying5
        have g0 := hfroz K (by omega)
        have g1 := hfroz (K + 1) hK1
        have hl0 : K < x.data.toList.length := Nat.lt_of_lt_of_le (by omega : K < x.size) (Nat.le_of_eq (by simp))
        have hl1 : K + 1 < x.data.toList.length := Nat.lt_of_lt_of_le hK1 (Nat.le_of_eq (by simp))
        have q0 := hcell K hl0
        have q1 := hcell (K + 1) hl1
        obtain ⟨d0, k0, m0⟩ := xor_byte x.data.toList[K] (c % 256) (by omega) (by omega)
        obtain ⟨d1, k1, m1⟩ := xor_byte x.data.toList[K + 1] (c / 256) (by omega) (by omega)
        have hst := store_two W1 w2.heap.size K x.data.toList hl1 d0 d1 hcell
        obtain ⟨Y, hY, hYd⟩ : ∃ Y : ByteArray, (convert 35 9 (.slice (some ⟨w2.heap.size, 0, none⟩) x.size cap)).run Try.prog ((W1.setCell ⟨w2.heap.size, K, none⟩ (.int .u8 (d0.toNat : Int))).setCell ⟨w2.heap.size, K + 1, none⟩ (.int .u8 (d1.toNat : Int))) = .ok (.string Y) ((W1.setCell ⟨w2.heap.size, K, none⟩ (.int .u8 (d0.toNat : Int))).setCell ⟨w2.heap.size, K + 1, none⟩ (.int .u8 (d1.toNat : Int))) ∧ Y.data.toList = ((x.data.toList.set K d0).set (K + 1) d1) := by
          have := run_convert_bytes_back (P := Try.prog) _ 35 9 5 ⟨w2.heap.size, 0, none⟩ cap ((x.data.toList.set K d0).set (K + 1) d1) Try.underlying35 Try.underlying5 Try.underlying9 hst
          have hlen : ((x.data.toList.set K d0).set (K + 1) d1).length = x.size := by simp
          rw [hlen] at this
          exact ⟨_, this, by simp⟩
        have hne := sums_ne x Y K hl1 d0 d1 hYd (by
          by_cases z : c % 256 = 0
          · exact .inr (m1 (by omega))
          · exact .inl (m0 z))
        have HY : Hid (Y.size ≤ maxLen) := by
          have : Y.data.toList.length = x.data.toList.length := by rw [hYd]; simp
          have e1 : Y.size = x.size := by simpa using this
          show Y.size ≤ maxLen
          rw [e1]; exact HX.out
        have hd := div_in c 256 c0 c1 (by omega)
        have hm : c / 256 % 256 = c / 256 := by omega
        generalize (x.data.toList[K].toNat : Int) = β0 at *
        generalize (x.data.toList[K + 1].toNat : Int) = β1 at *
        clear hcell hfroz hst hYd m0 m1 hl0 hl1
        go_wp2_with fail
        refine (sum_any _ _ HY.out).mono ?_; rintro e w3 ⟨rfl, h3⟩
        go_wp2_with fail
        refine (sum_any _ _ HX.out).mono ?_; rintro e w4 ⟨rfl, h4⟩
        go_wp2
        go_ret
        have b2 := h1.trans (h2.mono h1.size)
        have b3 := b2.trans (hbel.mono b2.size)
        have b4 := (b3.setCell (p := ⟨w2.heap.size, K, none⟩) b2.size (.int .u8 (d0.toNat : Int))).setCell (p := ⟨w2.heap.size, K + 1, none⟩) b2.size (.int .u8 (d1.toNat : Int))
        have b5 := b4.trans (h3.mono b4.size)
        exact ⟨rfl, b5.trans (h4.mono b5.size)⟩
  · have HX := HS
    go_enter Try.func7, Try.ntmps7
    go_wp2_with fail
    refine (sanity_any _).mono ?_; rintro e w1 ⟨rfl, h1⟩
    go_wp2_with fail
    refine (sum_any _ _ HX.out).mono ?_; rintro e w2 ⟨rfl, h2⟩
    go_wp2_with fail
    refine (rsum_any _ _ HX.out).mono ?_; rintro e w' ⟨rfl, rfl⟩
    by_cases hn : s.size < 2
    · go_wp2
      go_ret
      exact ⟨rfl, h1.trans (h2.mono h1.size)⟩
    · by_cases hc : c = 0
      · subst hc
        go_wp2
        go_ret
        exact ⟨rfl, h1.trans (h2.mono h1.size)⟩
      · have hc0 : (c == 0) = false := by simpa using hc
        obtain ⟨t, ht, t2, t3⟩ : ∃ t, at_.tmod (↑s.size - 1) = t ∧ -(s.size - 1 : Int) < t ∧ t < (s.size - 1 : Int) :=
          ⟨_, rfl, Int.lt_tmod_of_pos at_ (by omega), Int.tmod_lt_of_pos at_ (by omega)⟩
        obtain ⟨K, hK, hK1⟩ : ∃ K : Nat, (t + ↑s.size - 1).tmod (↑s.size - 1) = (K : Int) ∧ K + 1 < s.size := by
          have q1 : 0 ≤ (t + ↑s.size - 1).tmod (↑s.size - 1) := Int.tmod_nonneg _ (by omega)
          have q2 := Int.tmod_lt_of_pos (t + ↑s.size - 1) (b := (s.size - 1 : Int)) (by omega)
          exact ⟨((t + ↑s.size - 1).tmod (↑s.size - 1)).toNat, by omega, by omega⟩
        obtain ⟨W1, cap, hconv, hcell, hfroz, hbel, hsz⟩ := conv_bytes2 (P := Try.prog) w2 9 35 5 s Try.underlying9 Try.underlying35 Try.underlying5
        have g0 := hfroz K (by omega)
        have g1 := hfroz (K + 1) hK1
        have hl0 : K < s.data.toList.length := Nat.lt_of_lt_of_le (by omega : K < s.size) (Nat.le_of_eq (by simp))
        have hl1 : K + 1 < s.data.toList.length := Nat.lt_of_lt_of_le hK1 (Nat.le_of_eq (by simp))
        have q0 := hcell K hl0
        have q1 := hcell (K + 1) hl1
        obtain ⟨d0, k0, m0⟩ := xor_byte s.data.toList[K] (c % 256) (by omega) (by omega)
        obtain ⟨d1, k1, m1⟩ := xor_byte s.data.toList[K + 1] (c / 256) (by omega) (by omega)
        have hst := store_two W1 w2.heap.size K s.data.toList hl1 d0 d1 hcell
        obtain ⟨Y, hY, hYd⟩ : ∃ Y : ByteArray, (convert 35 9 (.slice (some ⟨w2.heap.size, 0, none⟩) s.size cap)).run Try.prog ((W1.setCell ⟨w2.heap.size, K, none⟩ (.int .u8 (d0.toNat : Int))).setCell ⟨w2.heap.size, K + 1, none⟩ (.int .u8 (d1.toNat : Int))) = .ok (.string Y) ((W1.setCell ⟨w2.heap.size, K, none⟩ (.int .u8 (d0.toNat : Int))).setCell ⟨w2.heap.size, K + 1, none⟩ (.int .u8 (d1.toNat : Int))) ∧ Y.data.toList = ((s.data.toList.set K d0).set (K + 1) d1) := by
          have := run_convert_bytes_back (P := Try.prog) _ 35 9 5 ⟨w2.heap.size, 0, none⟩ cap ((s.data.toList.set K d0).set (K + 1) d1) Try.underlying35 Try.underlying5 Try.underlying9 hst
          have hlen : ((s.data.toList.set K d0).set (K + 1) d1).length = s.size := by simp
          rw [hlen] at this
          exact ⟨_, this, by simp⟩
        have hne := sums_ne s Y K hl1 d0 d1 hYd (by
          by_cases z : c % 256 = 0
          · exact .inr (m1 (by omega))
          · exact .inl (m0 z))
        have HY : Hid (Y.size ≤ maxLen) := by
          have : Y.data.toList.length = s.data.toList.length := by rw [hYd]; simp
          have e1 : Y.size = s.size := by simpa using this
          show Y.size ≤ maxLen
          rw [e1]; exact HX.out
        have hd := div_in c 256 c0 c1 (by omega)
        have hm : c / 256 % 256 = c / 256 := by omega
        generalize (s.data.toList[K].toNat : Int) = β0 at *
        generalize (s.data.toList[K + 1].toNat : Int) = β1 at *
        clear hcell hfroz hst hYd m0 m1 hl0 hl1
        go_wp2_with fail
        refine (sum_any _ _ HY.out).mono ?_; rintro e w3 ⟨rfl, h3⟩
        go_wp2_with fail
        refine (sum_any _ _ HX.out).mono ?_; rintro e w4 ⟨rfl, h4⟩
        go_wp2
        go_ret
        have b2 := h1.trans (h2.mono h1.size)
        have b3 := b2.trans (hbel.mono b2.size)
        have b4 := (b3.setCell (p := ⟨w2.heap.size, K, none⟩) b2.size (.int .u8 (d0.toNat : Int))).setCell (p := ⟨w2.heap.size, K + 1, none⟩) b2.size (.int .u8 (d1.toNat : Int))
        have b5 := b4.trans (h3.mono b4.size)
        exact ⟨rfl, b5.trans (h4.mono b5.size)⟩
end Go.Proofs.Ytgmiepahhmfaiaa
