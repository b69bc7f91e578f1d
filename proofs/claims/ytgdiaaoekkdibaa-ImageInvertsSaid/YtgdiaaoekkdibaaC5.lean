/- Plain law of Write: Code reads what was written. -/
import Derived.Test.YtgdiaaoekkdibaaC4
namespace Go.Proofs.Ytgdiaaoekkdibaa
set_option linter.unusedVariables false
set_option linter.unusedSimpArgs false
open Go.RowKit
theorem extract_list (s : ByteArray) (i j : Nat) : (s.extract i j).data.toList = (s.data.toList.take j).drop i := by
  rw [ByteArray.data_extract, Array.toList_extract, List.extract_eq_take_drop, List.drop_take]
theorem writeS_read (s : ByteArray) (o : Nat) (t : ByteArray) (h : o + t.size ≤ s.size) : ((writeS s o t).extract o (writeS s o t).size).extract 0 t.size = t := by
  have hsz := writeS_size s o t h
  apply ByteArray.ext
  apply Array.toList_inj.1
  rw [extract_list, extract_list, hsz, List.drop_zero]
  unfold writeS
  rw [ByteArray.data_append, ByteArray.data_append, Array.toList_append, Array.toList_append, extract_list, extract_list]
  have h1 : s.data.toList.length = s.size := by simp
  have h2 : t.data.toList.length = t.size := by simp
  have e1 : (List.drop 0 (List.take o s.data.toList)).length = o := by simp; omega
  have e3 : (List.drop (o + t.size) (List.take s.size s.data.toList)).length = s.size - (o + t.size) := by simp
  rw [List.take_of_length_le (l := List.drop 0 (List.take o s.data.toList) ++ t.data.toList ++ _) (by rw [List.length_append, List.length_append, e1, e3, h2]; omega)]
  rw [List.append_assoc, List.drop_append_of_le_length (by rw [e1]; exact Nat.le_refl _)]
  rw [List.drop_of_length_le (by rw [e1]; exact Nat.le_refl _), List.nil_append]
  rw [List.take_append_of_le_length (by rw [h2]; exact Nat.le_refl _), List.take_of_length_le (by rw [h2]; exact Nat.le_refl _)]
theorem code_after (I J : Img) (b a : Int) (t : ByteArray) (h : writeI I b a t = (J, 0)) : codeI J.banks b a (t.size : Int) = t := by
  unfold writeI at h
  split at h
  · rename_i hc
    obtain ⟨h1, h2⟩ := hc
    rcases offI_cases I.banks b a with k | ⟨k, k1, k2, k3⟩
    · rw [k] at h1; simp at h1
    have hJ : J.banks = I.banks.set b.toNat (writeS (bankAt I.banks b) (a % 4096).toNat t) := by cases h; rfl
    have b0 : 0 ≤ b := k1.1
    have hfit : (a % 4096).toNat + t.size ≤ (bankAt I.banks b).size := by omega
    have hb : bankAt J.banks b = writeS (bankAt I.banks b) (a % 4096).toNat t := by
      rw [hJ]
      unfold bankAt
      rw [List.getElem?_set_self (by omega)]
      rfl
    have hsz := writeS_size _ _ t hfit
    by_cases h0 : t.size = 0
    · rw [codeI_no _ _ _ _ (by omega)]
      apply ByteArray.ext
      apply Array.ext'
      have : t.data.toList.length = 0 := by simpa using h0
      rw [List.length_eq_zero_iff.1 this]
    have hok : (offI J.banks b a).2.2 = true := by
      rcases offI_cases J.banks b a with m | ⟨m, _⟩
      · exfalso
        have := offI_yes J.banks b a (bankAt J.banks b) k1 (by rw [hJ, List.length_set]; exact k2) (by rw [hJ, List.getElem?_set_self (by omega), ← hJ, hb]) (by rw [hb, hsz]; exact k3)
        rw [m] at this
        simp at this
      · rw [m]
    rw [codeI_yes J.banks b a t.size _ hok (by omega) hb]
    have hx : ((writeS (bankAt I.banks b) (a % 4096).toNat t).extract (a % 4096).toNat (writeS (bankAt I.banks b) (a % 4096).toNat t).size).size = (bankAt I.banks b).size - (a % 4096).toNat := by rw [ByteArray.size_extract, hsz]; omega
    rw [hx]
    have : (min (t.size : Int) (((bankAt I.banks b).size - (a % 4096).toNat : Nat) : Int)).toNat = t.size := by omega
    rw [this]
    exact writeS_read _ _ t hfit
  · cases h
end Go.Proofs.Ytgdiaaoekkdibaa
