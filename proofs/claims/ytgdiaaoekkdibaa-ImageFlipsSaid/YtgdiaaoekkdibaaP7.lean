/- Plain mathematics: the file of a valid image reads back as the image. No program in sight. -/
import Derived.Test.YtgdiaaoekkdibaaP6
namespace Go.Proofs.Ytgdiaaoekkdibaa
set_option linter.unusedVariables false
open Go.RowKit
theorem flat_bytes {α : Type} (f : α → List UInt8) (c : Nat) (l : List α) (hc : ∀ x ∈ l, (f x).length = c) : ∀ (k j : Nat) (x : α), l[k]? = some x → j < c → (l.flatMap f)[c * k + j]? = (f x)[j]? := by
  induction l with
  | nil => intro k j x h _; simp at h
  | cons y l ih =>
    intro k j x h hj
    have hy := hc y (List.mem_cons_self ..)
    rw [List.flatMap_cons]
    cases k with
    | zero =>
      simp at h; subst h
      rw [Nat.mul_zero, Nat.zero_add, List.getElem?_append_left (by rw [hy]; exact hj)]
    | succ k =>
      simp at h
      rw [Nat.mul_succ, List.getElem?_append_right (by rw [hy]; omega), hy, ← ih (fun z hz => hc z (List.mem_cons_of_mem _ hz)) k j x h hj]
      congr 1
      omega
theorem byteI_bytes (l : List UInt8) (j : Nat) : byteI (bytesOf l) j = ((l[j]?.getD 0).toNat : Int) := rfl
theorem file_obj (I : Img) (k j : Nat) (o : ObjI) (h : I.data[k]? = some o) (hj : j < 5) : (fileL I)[14 + 5 * k + j]? = (objB o)[j]? := by
  have hk := (List.getElem?_eq_some_iff.1 h).1
  unfold fileL bodyL
  simp only [List.append_assoc]
  rw [List.getElem?_append_right (by rw [headL_len]; omega), headL_len, show 14 + 5 * k + j - 14 = 5 * k + j by omega, List.getElem?_append_left (by rw [flat_len objB 5 _ (fun x _ => rfl)]; omega)]
  exact flat_bytes objB 5 I.data (fun _ _ => rfl) k j o h hj
theorem file_rel (I : Img) (k j : Nat) (o : RelI) (h : I.relocs[k]? = some o) (hj : j < 3) : (fileL I)[14 + 5 * I.data.length + 3 * k + j]? = (relB o)[j]? := by
  have hk := (List.getElem?_eq_some_iff.1 h).1
  unfold fileL bodyL
  simp only [List.append_assoc]
  rw [List.getElem?_append_right (by rw [headL_len]; omega), headL_len, List.getElem?_append_right (by rw [flat_len objB 5 _ (fun x _ => rfl)]; omega), flat_len objB 5 _ (fun x _ => rfl),
    show 14 + 5 * I.data.length + 3 * k + j - 14 - 5 * I.data.length = 3 * k + j by omega, List.getElem?_append_left (by rw [flat_len relB 3 _ (fun x _ => rfl)]; omega)]
  exact flat_bytes relB 3 I.relocs (fun _ _ => rfl) k j o h hj
theorem file_bank (I : Img) (hF : Full I.banks) (k j : Nat) (s : ByteArray) (h : I.banks[k]? = some s) (hj : j < 4096) : (fileL I)[14 + 5 * I.data.length + 3 * I.relocs.length + 4096 * k + j]? = (strB s)[j]? := by
  have hk := (List.getElem?_eq_some_iff.1 h).1
  unfold fileL bodyL
  simp only [List.append_assoc]
  rw [List.getElem?_append_right (by rw [headL_len]; omega), headL_len, List.getElem?_append_right (by rw [flat_len objB 5 _ (fun x _ => rfl)]; omega), flat_len objB 5 _ (fun x _ => rfl),
    List.getElem?_append_right (by rw [flat_len relB 3 _ (fun x _ => rfl)]; omega), flat_len relB 3 _ (fun x _ => rfl),
    show 14 + 5 * I.data.length + 3 * I.relocs.length + 4096 * k + j - 14 - 5 * I.data.length - 3 * I.relocs.length = 4096 * k + j by omega, List.getElem?_append_left (by rw [flat_len strB 4096 _ (fun x hx => hF x hx)]; omega)]
  exact flat_bytes strB 4096 I.banks (fun x hx => hF x hx) k j s h hj
theorem file_sum (I : Img) (hF : Full I.banks) (j : Nat) : (fileL I)[(bodyL I).length + j]? = (putL [sumI (bytesOf (bodyL I)) (bodyL I).length])[j]? := by
  unfold fileL
  rw [List.getElem?_append_right (by omega), Nat.add_sub_cancel_left]
theorem file_body (I : Img) : (fileI I).extract 0 (bodyL I).length = bytesOf (bodyL I) := by
  apply ByteArray.ext
  apply Array.ext'
  rw [ByteArray.data_extract, Array.toList_extract, List.extract_eq_take_drop]
  show ((fileL I).drop 0).take _ = bodyL I
  unfold fileL
  simp
theorem firstObj_all (nb : Int) : ∀ (l : List ObjI) (p : Option ObjI) (n : Nat), firstObj nb p l n < 0 → ∀ o ∈ l, ¬ o.bad0 nb
  | [], _, _, _ => fun _ h => nomatch h
  | x :: l, p, n, h => by
    unfold firstObj at h
    split at h
    · omega
    · rename_i hx
      intro o ho
      rcases List.mem_cons.1 ho with rfl | ho
      · unfold objWrong at hx
        cases p <;> simp at hx
        · exact hx
        · exact hx.1
      · exact firstObj_all nb l (some x) (n + 1) h o ho
theorem firstRel_all (banks : List ByteArray) (data : List ObjI) : ∀ (l : List RelI) (p : Option RelI) (n : Nat), firstRel banks data p l n < 0 → ∀ o ∈ l, ¬ o.bad0 banks.length
  | [], _, _, _ => fun _ h => nomatch h
  | x :: l, p, n, h => by
    unfold firstRel at h
    split at h
    · omega
    · rename_i hx
      intro o ho
      rcases List.mem_cons.1 ho with rfl | ho
      · unfold relWrong at hx
        simp only [Bool.or_eq_true, decide_eq_true_eq, not_or] at hx
        exact hx.1.1
      · exact firstRel_all banks data l (some x) (n + 1) h o ho
theorem byteOf_ram : ((byteOf (-1)).toNat : Int) = 255 := by decide
theorem map_range_eq {α : Type} (f : Nat → α) (l : List α) (n : Nat) (hn : n = l.length) (h : ∀ k x, l[k]? = some x → f k = x) : (List.range n).map f = l := by
  subst hn
  apply List.ext_getElem?
  intro k
  rw [List.getElem?_map]
  by_cases hk : k < l.length
  · rw [List.getElem?_range hk]
    obtain ⟨x, hx⟩ := at_some l k hk
    rw [hx, ← h k x hx]; rfl
  · rw [List.getElem?_eq_none (by rw [List.length_range]; omega), List.getElem?_eq_none (by omega)]; rfl
structure FileOf (I : Img) : Prop where
  nB : nB (fileI I) = I.banks.length
  nO : nO (fileI I) = I.data.length
  nR : nR (fileI I) = I.relocs.length
  first : firstA (fileI I) = 14 + 5 * I.data.length
  start : startA (fileI I) = 14 + 5 * I.data.length + 3 * I.relocs.length
  stop : stopA (fileI I) = (bodyL I).length
  size : (fileI I).size = stopA (fileI I) + 2
  sum : wordAt (fileI I) (stopA (fileI I)) = sumI ((fileI I).extract 0 (stopA (fileI I))) (stopA (fileI I))
  img : imgOf (fileI I) = I
theorem file_word (I : Img) (k : Nat) (a b : UInt8) (h0 : (fileL I)[k]? = some a) (h1 : (fileL I)[k + 1]? = some b) : wordAt (fileI I) k = (a.toNat : Int) + (b.toNat : Int) * 256 := by
  rw [wordAt_eq]
  show byteI (bytesOf (fileL I)) k + byteI (bytesOf (fileL I)) (k + 1) * 256 = _
  rw [byteI_bytes, byteI_bytes, h0, h1]; rfl
theorem fileI_list (I : Img) : (fileI I).data.toList = fileL I := rfl
theorem file_byte (I : Img) (k : Nat) (a : UInt8) (h : (fileL I)[k]? = some a) : byteI (fileI I) k = (a.toNat : Int) := by
  unfold byteI
  rw [fileI_list, h]; rfl
theorem file_banks (I : Img) (hF : Full I.banks) (e1 : nB (fileI I) = I.banks.length) (e5 : startA (fileI I) = 14 + 5 * I.data.length + 3 * I.relocs.length) : (List.range (nB (fileI I))).map (bankS (fileI I)) = I.banks := by
  refine map_range_eq _ _ _ e1 (fun k s hk => ?_)
  have hkl := (List.getElem?_eq_some_iff.1 hk).1
  have hs : s.size = 4096 := hF s (List.mem_of_getElem? hk)
  apply ByteArray.ext
  apply Array.ext'
  unfold bankS
  rw [ByteArray.data_extract, Array.toList_extract, List.extract_eq_take_drop, e5, fileI_list]
  apply List.ext_getElem?
  intro j
  by_cases hj : j < 4096
  · rw [List.getElem?_take_of_lt (by omega), List.getElem?_drop, show 14 + 5 * I.data.length + 3 * I.relocs.length + k * 4096 + j = 14 + 5 * I.data.length + 3 * I.relocs.length + 4096 * k + j by omega, file_bank I hF k j s hk hj]
    rfl
  · rw [List.getElem?_eq_none (by rw [List.length_take]; omega), List.getElem?_eq_none (by rw [Array.length_toList]; show s.size ≤ j; omega)]
theorem objB_0 (o : ObjI) : (objB o)[0]? = some (byteOf o.bank) := rfl
theorem objB_1 (o : ObjI) : (objB o)[1]? = some (byteOf o.addr) := rfl
theorem objB_2 (o : ObjI) : (objB o)[2]? = some (byteOf (o.addr / 256)) := rfl
theorem objB_3 (o : ObjI) : (objB o)[3]? = some (byteOf o.size) := rfl
theorem objB_4 (o : ObjI) : (objB o)[4]? = some (byteOf (o.size / 256)) := rfl
theorem bank_back (b : Int) (h0 : -1 ≤ b) (h1 : b < 64) : (if ((byteOf b).toNat : Int) = 255 then -1 else ((byteOf b).toNat : Int)) = b := by
  by_cases h : b = -1
  · subst h; rw [byteOf_ram, if_pos rfl]
  · rw [byteOf_nat b (by omega) (by omega), if_neg (by omega)]
theorem file_objs (I : Img) (e2 : nO (fileI I) = I.data.length) (hd : ∀ o ∈ I.data, o.ok) (hw : ∀ o ∈ I.data, -1 ≤ o.bank ∧ o.bank < 64) : (List.range (nO (fileI I))).map (objAt (fileI I)) = I.data := by
  refine map_range_eq _ _ _ e2 (fun k o hk => ?_)
  have hm := List.mem_of_getElem? hk
  obtain ⟨_, ⟨a0, a1⟩, ⟨s0, s1⟩⟩ := hd o hm
  have hb0 := hw o hm
  have w1 : wordAt (fileI I) (14 + 5 * k + 1) = o.addr := (file_word I _ _ _ ((file_obj I k 1 o hk (by decide)).trans (objB_1 o)) ((file_obj I k 2 o hk (by decide)).trans (objB_2 o))).trans (byteOf_pair _ a0 a1)
  have w2 : wordAt (fileI I) (14 + 5 * k + 3) = o.size := (file_word I _ _ _ ((file_obj I k 3 o hk (by decide)).trans (objB_3 o)) ((file_obj I k 4 o hk (by decide)).trans (objB_4 o))).trans (byteOf_pair _ s0 s1)
  have w0 : byteI (fileI I) (14 + 5 * k) = ((byteOf o.bank).toNat : Int) := file_byte I _ _ ((file_obj I k 0 o hk (by decide)).trans (objB_0 o))
  unfold objAt
  rw [w0, w1, w2]
  rw [bank_back o.bank hb0.1 hb0.2]
theorem file_rels (I : Img) (e3 : nR (fileI I) = I.relocs.length) (e4 : firstA (fileI I) = 14 + 5 * I.data.length) (hr : ∀ r ∈ I.relocs, r.ok) (hw : ∀ o ∈ I.relocs, 0 ≤ o.bank ∧ o.bank < 64) : (List.range (nR (fileI I))).map (relAt (fileI I)) = I.relocs := by
  refine map_range_eq _ _ _ e3 (fun k o hk => ?_)
  have hm := List.mem_of_getElem? hk
  obtain ⟨_, ⟨a0, a1⟩⟩ := hr o hm
  have hb0 := hw o hm
  unfold relAt
  rw [e4]
  have w1 : wordAt (fileI I) (14 + 5 * I.data.length + 3 * k + 1) = o.off := (file_word I _ _ _ (file_rel I k 1 o hk (by decide)) (file_rel I k 2 o hk (by decide))).trans (byteOf_pair _ a0 a1)
  have w0 : byteI (fileI I) (14 + 5 * I.data.length + 3 * k) = ((byteOf o.bank).toNat : Int) := file_byte I _ _ (file_rel I k 0 o hk (by decide))
  rw [w0, w1, byteOf_nat o.bank (by omega) (by omega)]
theorem fileOf (I : Img) (hc : checkI I = 0) (he : 0 ≤ I.entry) (hv : 0 ≤ I.vector) (hd : ∀ o ∈ I.data, o.ok) (hr : ∀ r ∈ I.relocs, r.ok) : FileOf I := by
  obtain ⟨v1, v2, hF, v3, v4, v5, v6, v7, v8⟩ := check_valid I hc
  have H := headOf (fileI I) I ⟨he, by omega⟩ ⟨hv, by omega⟩ (fun _ _ => rfl)
  have e1 : nB (fileI I) = I.banks.length := by unfold nB; rw [H.banks]; omega
  have e2 : nO (fileI I) = I.data.length := by unfold nO; rw [H.data]; omega
  have e3 : nR (fileI I) = I.relocs.length := by unfold nR; rw [H.relocs]; omega
  have e4 : firstA (fileI I) = 14 + 5 * I.data.length := by unfold firstA; rw [e2]
  have e5 : startA (fileI I) = 14 + 5 * I.data.length + 3 * I.relocs.length := by unfold startA; rw [e4, e3]
  have e6 : stopA (fileI I) = (bodyL I).length := by unfold stopA; rw [e5, e1, bodyL_len I hF]
  have e7 : (fileI I).size = stopA (fileI I) + 2 := by
    rw [e6, bodyL_len I hF]
    exact ((bytesOf_size _).trans (fileL_len I hF)).trans (by omega)
  have hs : wordAt (fileI I) (stopA (fileI I)) = sumI ((fileI I).extract 0 (stopA (fileI I))) (stopA (fileI I)) := by
    rw [e6, file_body I]
    have hb := sumI_bd (bytesOf (bodyL I)) (bodyL I).length
    rw [file_word I (bodyL I).length _ _ ((file_sum I hF 0).trans rfl) ((file_sum I hF 1).trans rfl)]
    exact byteOf_pair _ hb.1 hb.2
  have hi : imgOf (fileI I) = I := by
    unfold imgOf
    rw [file_banks I hF e1 e5, file_objs I e2 hd (fun o hm => by have := firstObj_all _ _ _ _ v7 o hm; unfold ObjI.bad0 at this; omega), file_rels I e3 e4 hr (fun o hm => by have := firstRel_all _ _ _ _ _ v8 o hm; unfold RelI.bad0 at this; omega), H.entry, H.vector]
  exact ⟨e1, e2, e3, e4, e5, e6, e7, hs, hi⟩
theorem file_reads (I : Img) (hc : checkI I = 0) (he : 0 ≤ I.entry) (hv : 0 ≤ I.vector) (hd : ∀ o ∈ I.data, o.ok) (hr : ∀ r ∈ I.relocs, r.ok) : readE (fileI I) = (0, 0) ∧ readI (fileI I) = I := by
  have F := fileOf I hc he hv hd hr
  obtain ⟨v1, v2, hF, v3, v4, v5, v6, v7, v8⟩ := check_valid I hc
  have H := headOf (fileI I) I ⟨he, by omega⟩ ⟨hv, by omega⟩ (fun _ _ => rfl)
  have hsz : (fileI I).size = 16 + 5 * I.data.length + 3 * I.relocs.length + 4096 * I.banks.length := (bytesOf_size _).trans (fileL_len I hF)
  have hve := velm_of (fileI I) I (fileI I).size (by omega) (Nat.le_refl _) (by rw [ByteArray.extract_zero_size])
  have e := headE_8 (fileI I) (by omega) (by rw [hve]; decide) (by omega) (by rw [H.banks]; omega) (by rw [H.data]; omega) (by rw [H.relocs]; omega) (by rw [H.entry]; omega) (by rw [H.vector]; omega)
  have hE : readE (fileI I) = (0, 0) := by
    unfold readE
    rw [if_neg (by rw [e]; simp), if_neg (by have := F.size; omega), if_neg (by have := F.size; omega), if_neg (by rw [F.sum]; simp), F.img, F.nB, if_neg (by omega), if_neg (by omega)]
  refine ⟨hE, ?_⟩
  unfold readI
  rw [hE, F.img]; rfl
end Go.Proofs.Ytgdiaaoekkdibaa
