/- Plain mathematics of files and their prefixes. No program in sight. -/
import Derived.Test.YtgdiaaoekkdibaaP4
import Derived.Test.YtgdiaaoekkdibaaI15
namespace Go.Proofs.Ytgdiaaoekkdibaa
set_option linter.unusedVariables false
open Go.RowKit
theorem byteOf_pair (n : Int) (h0 : 0 ≤ n) (h1 : n < 65536) : ((byteOf n).toNat : Int) + ((byteOf (n / 256)).toNat : Int) * 256 = n := by
  have a := byteOf_nat (n % 256) (by omega) (by omega)
  have b := byteOf_nat (n / 256) (by omega) (by omega)
  have e : byteOf (n % 256) = byteOf n := by unfold byteOf; rw [Int.emod_emod_of_dvd n (by decide)]
  rw [e] at a
  rw [a, b]; omega
theorem headL_eq (I : Img) : headL I = [86, 69, 76, 77, byteOf ((I.banks.length : Int) % 65536), byteOf ((I.banks.length : Int) % 65536 / 256), byteOf I.entry, byteOf (I.entry / 256), byteOf I.vector, byteOf (I.vector / 256),
    byteOf ((I.data.length : Int) % 65536), byteOf ((I.data.length : Int) % 65536 / 256), byteOf ((I.relocs.length : Int) % 65536), byteOf ((I.relocs.length : Int) % 65536 / 256)] := by
  simp [headL, putL]
theorem fileL_head (I : Img) : ∃ r, fileL I = headL I ++ r := by
  unfold fileL bodyL; simp only [List.append_assoc]; exact ⟨_, rfl⟩
theorem file_at (I : Img) (j : Nat) (h : j < 14) : byteI (fileI I) j = (((headL I)[j]?.getD 0).toNat : Int) := by
  obtain ⟨r, e⟩ := fileL_head I
  have hd : (fileI I).data.toList = headL I ++ r := by rw [← e]; exact bytesOf_data _
  unfold byteI
  rw [hd, List.getElem?_append_left (by rw [headL_len]; exact h)]
/-- A string that begins as a file does. -/
structure HeadOf (T : ByteArray) (I : Img) : Prop where
  banks : wordAt T 4 = (I.banks.length : Int) % 65536
  entry : wordAt T 6 = I.entry
  vector : wordAt T 8 = I.vector
  data : wordAt T 10 = (I.data.length : Int) % 65536
  relocs : wordAt T 12 = (I.relocs.length : Int) % 65536
theorem headOf (T : ByteArray) (I : Img) (he : OkU16 I.entry) (hv : OkU16 I.vector) (h : ∀ j, j < 14 → byteI T j = byteI (fileI I) j) : HeadOf T I := by
  have g : ∀ j, j + 1 < 14 → wordAt T j = (((headL I)[j]?.getD 0).toNat : Int) + (((headL I)[j + 1]?.getD 0).toNat : Int) * 256 := by
    intro j hj
    rw [wordAt_eq, h j (by omega), h (j + 1) hj, file_at I j (by omega), file_at I (j + 1) hj]
  obtain ⟨e0, e1⟩ := he
  obtain ⟨v0, v1⟩ := hv
  refine ⟨?_, ?_, ?_, ?_, ?_⟩
  · rw [g 4 (by decide), headL_eq]; exact byteOf_pair _ (by omega) (by omega)
  · rw [g 6 (by decide), headL_eq]; exact byteOf_pair _ e0 e1
  · rw [g 8 (by decide), headL_eq]; exact byteOf_pair _ v0 v1
  · rw [g 10 (by decide), headL_eq]; exact byteOf_pair _ (by omega) (by omega)
  · rw [g 12 (by decide), headL_eq]; exact byteOf_pair _ (by omega) (by omega)
theorem byteI_take (s : ByteArray) (l j : Nat) (h : j < l) (hl : l ≤ s.size) : byteI (s.extract 0 l) j = byteI s j := by
  unfold byteI
  have e : (s.extract 0 l).data.toList = s.data.toList.take l := by
    rw [ByteArray.data_extract, Array.toList_extract, List.extract_eq_take_drop]; simp
  rw [e, List.getElem?_take_of_lt h]
theorem velm_of (T : ByteArray) (I : Img) (l : Nat) (h4 : 4 ≤ l) (hl : l ≤ (fileI I).size) (hT : T = (fileI I).extract 0 l) : isVelm T = true := by
  obtain ⟨r, e⟩ := fileL_head I
  have hd : (fileI I).data.toList = headL I ++ r := by rw [← e]; exact bytesOf_data _
  have h : (T.extract 0 4).data.toList = [86, 69, 76, 77] := by
    rw [hT, ByteArray.data_extract, Array.toList_extract, List.extract_eq_take_drop, ByteArray.data_extract, Array.toList_extract, List.extract_eq_take_drop, hd, headL_eq]
    simp only [List.drop_zero, Nat.sub_zero]
    rw [List.take_take, Nat.min_eq_left h4]
    rfl
  unfold isVelm
  rw [ByteArray.toList_eq, h]; rfl
theorem cut_short (I : Img) (l : Nat) (hc : checkI I = 0) (he : 0 ≤ I.entry) (hv : 0 ≤ I.vector) (hl : l < (fileI I).size) :
    readE ((fileI I).extract 0 l) = ((l : Int), 10) ∧ ((headE ((fileI I).extract 0 l)).2 ≠ 0 ∨ ((headE ((fileI I).extract 0 l)).2 = 0 ∧ ((fileI I).extract 0 l).size ≠ stopA ((fileI I).extract 0 l) + 2)) := by
  obtain ⟨v1, v2, hF, v3, v4, v5, v6, _, _⟩ := check_valid I hc
  have hsz : ((fileI I).extract 0 l).size = l := by rw [ByteArray.size_extract]; omega
  obtain ⟨T, hT⟩ : ∃ T, T = (fileI I).extract 0 l := ⟨_, rfl⟩
  rw [← hT] at hsz ⊢
  by_cases h0 : l < 4
  · have e := headE_0 T (by omega)
    rw [hsz] at e
    have hn : (headE T).2 ≠ 0 := by rw [e]; exact (by decide : (10 : Int) ≠ 0)
    exact ⟨by rw [readE_head T hn, e], .inl hn⟩
  have hve := velm_of T I l (by omega) (by omega) hT
  by_cases h1 : l < 14
  · have e := headE_2 T (by omega) (by rw [hve]; decide) (by omega)
    rw [hsz] at e
    have hn : (headE T).2 ≠ 0 := by rw [e]; exact (by decide : (10 : Int) ≠ 0)
    exact ⟨by rw [readE_head T hn, e], .inl hn⟩
  have H := headOf T I ⟨he, by omega⟩ ⟨hv, by omega⟩ (fun j hj => by rw [hT]; exact byteI_take _ _ _ (by omega) (by omega))
  have e := headE_8 T (by omega) (by rw [hve]; decide) (by omega) (by rw [H.banks]; omega) (by rw [H.data]; omega) (by rw [H.relocs]; omega) (by rw [H.entry]; omega) (by rw [H.vector]; omega)
  have hst := stopA_cast T
  rw [H.banks, H.data, H.relocs] at hst
  have hfs : (fileI I).size = 16 + 5 * I.data.length + 3 * I.relocs.length + 4096 * I.banks.length := (bytesOf_size _).trans (fileL_len I hF)
  have hlt : T.size < stopA T + 2 := by omega
  have h0' : (headE T).2 = 0 := by rw [e]
  refine ⟨?_, .inr ⟨h0', by omega⟩⟩
  rw [readE_short T h0' hlt, hsz]
end Go.Proofs.Ytgdiaaoekkdibaa
