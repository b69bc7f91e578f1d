/- Plain mathematics: a file with a changed bit is not accepted; bytes in memory that are changed one by one. -/
import Derived.Test.YtgdiaaoekkdibaaP7
import Derived.Test.YtgdiaaoekkdibaaJ0
namespace Go.Proofs.Ytgdiaaoekkdibaa
set_option linter.unusedVariables false
set_option linter.unusedSimpArgs false
open Go.RowKit
def xorAt (F : ByteArray) (k : Nat) (c : UInt8) : ByteArray := bytesOf (F.data.toList.set k ((F.data.toList[k]?.getD 0) ^^^ c))
theorem xorAt_list (F : ByteArray) (k : Nat) (c : UInt8) : (xorAt F k c).data.toList = F.data.toList.set k ((F.data.toList[k]?.getD 0) ^^^ c) := rfl
theorem size_list (F : ByteArray) : F.data.toList.length = F.size := by simp
theorem xorAt_size (F : ByteArray) (k : Nat) (c : UInt8) : (xorAt F k c).size = F.size := by rw [← size_list, xorAt_list, List.length_set, size_list]
theorem byteI_list (F : ByteArray) (j : Nat) : byteI F j = ((F.data.toList[j]?.getD 0).toNat : Int) := rfl
theorem xorAt_same (F : ByteArray) (k : Nat) (c : UInt8) (hk : k < F.size) : byteI (xorAt F k c) k = bits .xor .u8 (byteI F k) c.toNat := by
  rw [byteI_list, xorAt_list, List.getElem?_set_self (by rw [size_list]; exact hk), byteI_list]
  rw [u8_xor_nat _ _ (UInt8.toNat_lt _) (UInt8.toNat_lt _)]
  simp
theorem xorAt_other (F : ByteArray) (k j : Nat) (c : UInt8) (h : j ≠ k) : byteI (xorAt F k c) j = byteI F j := by
  rw [byteI_list, xorAt_list, List.getElem?_set_ne (fun e => h e.symm), byteI_list]
def flipS (F : ByteArray) (k : Nat) (c0 c1 : UInt8) : ByteArray := xorAt (xorAt F k c0) (k + 1) c1
theorem flip_list (F : ByteArray) (p q : List UInt8) (b0 b1 c0 c1 : UInt8) (h : F.data.toList = p ++ b0 :: b1 :: q) : (flipS F p.length c0 c1).data.toList = p ++ (b0 ^^^ c0) :: (b1 ^^^ c1) :: q := by
  unfold flipS
  rw [xorAt_list, xorAt_list, h]
  simp [List.set_append]
theorem two_at (l : List UInt8) (k : Nat) (h : k + 1 < l.length) : ∃ p b0 b1 q, l = p ++ b0 :: b1 :: q ∧ p.length = k := by
  refine ⟨l.take k, l[k], l[k + 1], l.drop (k + 2), ?_, by rw [List.length_take]; omega⟩
  have e1 : l.drop k = l[k] :: l.drop (k + 1) := List.drop_eq_getElem_cons (by omega)
  have e2 : l.drop (k + 1) = l[k + 1] :: l.drop (k + 2) := List.drop_eq_getElem_cons (by omega)
  rw [← e2, ← e1, List.take_append_drop]
theorem readE_zero (s : ByteArray) (h : (readE s).2 = 0) : s.size = stopA s + 2 ∧ wordAt s (stopA s) = sumI (s.extract 0 (stopA s)) (stopA s) := by
  unfold readE at h
  split at h
  · rename_i h1; exact absurd h h1
  split at h
  · simp at h
  split at h
  · simp at h
  split at h
  · simp at h
  · rename_i h1 h2 h3 h4
    exact ⟨by omega, Classical.byContradiction fun hn => h4 hn⟩
theorem sum_crc (s : ByteArray) (T : Nat) (h : T ≤ s.size) : sumI (s.extract 0 T) T = (crcL 65535 (s.data.toList.take T) : Int) := by
  have hs : (s.extract 0 T).size = T := by rw [ByteArray.size_extract]; omega
  have e := (sumI_crc (s.extract 0 T) T (by omega)).1
  rw [e, ByteArray.data_extract, Array.toList_extract, List.extract_eq_take_drop]
  simp [List.take_take]
theorem xor_same8 {a c : UInt8} (h : a ^^^ c = a) : c = 0 := by
  have := congrArg UInt8.toNat h
  rw [UInt8.toNat_xor] at this
  exact UInt8.toNat_inj.1 (xor_cancel _ _ this)
theorem flip_bad (s : ByteArray) (k : Nat) (c0 c1 : UInt8) (hz : s.size = stopA s + 2) (hs : wordAt s (stopA s) = sumI (s.extract 0 (stopA s)) (stopA s)) (hc : c0 ≠ 0 ∨ c1 ≠ 0) (hk : k + 1 < s.size) (h3 : k + 1 ≠ stopA s) :
    (readE (flipS s k c0 c1)).2 ≠ 0 := by
  intro h0
  obtain ⟨e1, e2⟩ := readE_zero _ h0
  have hsz : (flipS s k c0 c1).size = s.size := by unfold flipS; rw [xorAt_size, xorAt_size]
  have hT : stopA (flipS s k c0 c1) = stopA s := by omega
  rw [hT] at e2
  rw [sum_crc _ _ (by omega)] at e2 hs
  obtain ⟨p, b0, b1, q, hl, hp⟩ := two_at s.data.toList k (by rw [size_list]; exact hk)
  subst hp
  have hl2 := flip_list s p q b0 b1 c0 c1 hl
  generalize flipS s p.length c0 c1 = s' at *
  by_cases hlt : p.length + 1 < stopA s
  · obtain ⟨m, hm⟩ : ∃ m, stopA s = p.length + (m + 2) := ⟨stopA s - p.length - 2, by omega⟩
    have hw : wordAt s' (stopA s) = wordAt s (stopA s) := by
      rw [wordAt_eq, wordAt_eq, byteI_list, byteI_list, byteI_list, byteI_list, hl, hl2, hm]
      rw [List.getElem?_append_right (by omega), List.getElem?_append_right (by omega), List.getElem?_append_right (by omega), List.getElem?_append_right (by omega)]
      simp only [Nat.add_sub_cancel_left, show p.length + (m + 2) + 1 - p.length = (m + 1) + 2 by omega]
      rfl
    rw [hw, hs, hl, hl2, hm, List.take_append, List.take_append, List.take_of_length_le (Nat.le_add_right _ _), Nat.add_sub_cancel_left] at e2
    have hne := crc_change p (q.take m) b0 b1 (b0 ^^^ c0) (b1 ^^^ c1) (by
      rcases hc with hc | hc
      · exact .inl fun e => hc (xor_same8 e)
      · exact .inr fun e => hc (xor_same8 e))
    exact hne (Int.ofNat.inj e2.symm)
  · have hpT : p.length = stopA s := by omega
    rw [← hpT] at e2 hs
    have ht : ∀ x y : UInt8, (p ++ x :: y :: q).take p.length = p := fun x y => by rw [List.take_append]; simp
    rw [hl2, ht] at e2
    rw [hl, ht] at hs
    rw [← hs, wordAt_eq, wordAt_eq, byteI_list, byteI_list, byteI_list, byteI_list, hl, hl2] at e2
    rw [List.getElem?_append_right (by omega), List.getElem?_append_right (by omega), List.getElem?_append_right (by omega), List.getElem?_append_right (by omega)] at e2
    simp only [Nat.sub_self, Nat.add_sub_cancel_left, List.getElem?_cons_zero, List.getElem?_cons_succ, Option.getD_some] at e2
    have b0l := b0.toNat_lt
    have b1l := b1.toNat_lt
    have d0l := (b0 ^^^ c0).toNat_lt
    have d1l := (b1 ^^^ c1).toNat_lt
    have q0 : (b0 ^^^ c0).toNat = b0.toNat ∧ (b1 ^^^ c1).toNat = b1.toNat := by
      generalize (b0 ^^^ c0).toNat = x0 at *
      generalize (b1 ^^^ c1).toNat = x1 at *
      generalize b0.toNat = y0 at *
      generalize b1.toNat = y1 at *
      omega
    rcases hc with hc | hc
    · exact hc (xor_same8 (UInt8.toNat_inj.1 q0.1))
    · exact hc (xor_same8 (UInt8.toNat_inj.1 q0.2))
/-- Bytes in a block of their own. -/
def RowB (V : World) (g : Nat) (F : ByteArray) : Prop := ∀ j, j < F.size → V.cell? ⟨g, j, none⟩ = some (.int .u8 (byteI F j)) ∧ V.frozen? ⟨g, j, none⟩ = false
theorem RowB.next {V V1 : World} {g : Nat} {F : ByteArray} (h : RowB V g F) (hg : g < V.heap.size) (hb : Below V.heap.size V V1) : RowB V1 g F :=
  fun j hj => ⟨(hb.cell (p := ⟨g, j, none⟩) hg).trans (h j hj).1, (hb.frozen (p := ⟨g, j, none⟩) hg).trans (h j hj).2⟩
theorem RowB.xor {V : World} {g : Nat} {F : ByteArray} (h : RowB V g F) (k : Nat) (c : UInt8) (hk : k < F.size) (v : Int) (hv : v = bits .xor .u8 (byteI F k) c.toNat) : RowB (V.setCell ⟨g, k, none⟩ (.int .u8 v)) g (xorAt F k c) := by
  intro j hj
  rw [xorAt_size] at hj
  have hf : ∀ (W : World) (p a : Addr) (u : Value), (W.setCell p u).frozen? a = W.frozen? a := fun W p a u => by simp
  refine ⟨?_, (hf _ _ _ _).trans (h j hj).2⟩
  by_cases e : j = k
  · subst e
    rw [World.cell?_setCell_same _ _ _ (h j hj).1, xorAt_same F j c hk, hv]
  · rw [World.cell?_setCell_other _ _ _ _ (by intro e2; injection e2 with _ e3; exact e e3.symm), (h j hj).1, xorAt_other F k j c e]
theorem RowB.back {V : World} {g : Nat} {F : ByteArray} (h : RowB V g F) (cap n : Nat) (hn : n = F.size) : (convert 36 9 (.slice (some ⟨g, 0, none⟩) n cap)).run Try.prog V = .ok (.string F) V := by
  subst hn
  have e := run_convert_bytes_back (P := Try.prog) V 36 9 5 ⟨g, 0, none⟩ cap F.data.toList Try.underlying36 Try.underlying5 Try.underlying9 (by
    intro j hj
    rw [size_list] at hj
    have := (h j hj).1
    rw [show (⟨g, 0, none⟩ : Addr).add j = ⟨g, j, none⟩ from by unfold Addr.add; split <;> simp_all, this, byteI_list, List.getElem?_eq_getElem (by rw [size_list]; exact hj)]
    rfl)
  rw [size_list] at e
  simpa using e
theorem conv_row (w : World) (F : ByteArray) (hs : F.size ≤ maxLen) : ∃ W4 cap, (convert 9 36 (.string F)).run Try.prog w = .ok (.slice (some ⟨w.heap.size, 0, none⟩) F.size cap) W4 ∧ RowB W4 w.heap.size F ∧ Below w.heap.size w W4 ∧ w.heap.size < W4.heap.size := by
  refine ⟨convW w F, _, conv_run w F, fun j hj => ⟨?_, ?_⟩, conv_below w F, ?_⟩
  · exact (World.cell?_alloc_mark w.drew _ 5 _ j).trans (bytesRow_below F _ j hj)
  · have hz := bytesRow_size F _ (grownCap_ge w F.size 0 5)
    have hge := grownCap_ge w F.size 0 5
    unfold World.frozen?
    rw [show (convW w F).heap[w.heap.size]? = _ from alloc_at w.drew _]
    simp
    omega
  · unfold convW
    show w.heap.size < (w.drew.alloc _).heap.size
    have : w.drew.heap.size = w.heap.size := rfl
    simp
end Go.Proofs.Ytgdiaaoekkdibaa
